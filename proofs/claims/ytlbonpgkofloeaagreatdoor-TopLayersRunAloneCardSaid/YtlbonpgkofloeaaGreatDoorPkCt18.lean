/- Joined. -/
import Derived.Test.YtlbonpgkofloeaaGreatDoorPkCt17
import Derived.Test.YtlbonpgkofloeaaGreatDoorPkCt8
import Derived.Test.YtlbonpgkofloeaaGreatDoorPkCt10
import Derived.Test.YtlbonpgkofloeaaGreatDoorPkCt11
import Derived.Test.YtlbonpgkofloeaaGreatDoorPkCt12
import Derived.Test.YtlbonpgkofloeaaGreatDoorPkCt13
set_option linter.unusedSimpArgs false
set_option linter.unusedVariables false
set_option maxRecDepth 1000000
open Nat renaming reduceEqDiff->zA,reduceAdd->zB,reduceLT->zC,reduceLeDiff->zD,reduceBEq->zF,zero_le->zK,beq_refl->zO,beq->zU,le_of_ble_eq_true->zV,add_comm->zX,le_refl->zAA,lt_of_lt_of_le->zAD,eq_of_beq_eq_true->zAE,zero_add->zAH,not_lt_zero->zAI,sub_self->zAK,ble_eq_true_of_le->zAM,pow_le_pow_right->zAO,blt->zAQ,lt_succ_self->zAY,pow_lt_pow_right->zBC,ble->zBD,testBit_two_pow_sub_one->zBE,reduceMul->zBG,zero_mul->zBK,lt_trans->zCG,mod_lt->zCI
open Go.Proofs.Tryz renaming prog->zG
open Bool renaming and_eq_true->zH,false_ne_true->zM,true_and->zY,eq_iff_iff->zAS,not_eq_true'->zAV,and_true->zCE
open List renaming mem_of_mem_take->zI,mem_of_mem_drop->zJ,length_append->zL,getElem?_eq_getElem->zN,take_append_drop->zQ,length_map->zS,getElem_mem->zW,map_congr_left->zZ,getD->zAB,mem_cons_self->zAC,not_mem_nil->zAG,length_singleton->zAL,mem_cons_of_mem->zAN,getElem_of_mem->zAR,map_map->zAU,pairwise_map->zAW,getElem_map->zAX,take_succ_eq_append_getElem->zAZ,take->zBA,drop->zBB,getD_eq_getElem?_getD->zBF,range->zBH,drop_eq_getElem_cons->zBI,any_eq_true->zBJ,take_length->zBL,getElem?_replicate->zBM,length_nil->zBO,foldl_cons->zBP,nodup_cons->zBQ,drop_eq_nil_of_le->zBR,length->zBS,nodup_nil->zBT,map_cons->zBU,getElem?_drop->zBW,length_drop->zBZ,length_take->zCB,all_cons->zCD
open Int renaming eq_ofNat_of_zero_le->zT,lt_irrefl->zAF,toNat_natCast->zAJ,le_refl->zAP,reduceToNat->zBN,lt_or_le->zBV,le_trans->zBY,natCast_zero->zCA,ofNat_tmod->zCC,reduceBNe->zCF
open BitVec renaming ofInt->zAT
open And renaming intro->zBX
open Eq renaming trans->zCH
open Go
namespace Go.Proofs.YtlbonpgkofloeaaGreatDoor
section
def ychu:Ex:=.agg 28 (eQ 0)
def ybdc:Ex:=.ite (.bin 37 (.leaf 9 0) (eNum 2)) (eNum 0) (.ite (.bin 37 ychu eN) (.bin 33 ychu (eNum 1)) eN)
def yii(nm h r:ByteArray):ProgT:=⟨nm,[⟨h,1,0,0,1,0⟩],[⟨r,.bin 36 (eVar 0) ybdc,[(0,ybdc)]⟩]⟩
def cnS(g:Gr)(c:Conf)(v:Nat):Int:=(top2 (-1073741824) ((g.ports.getD v []).map (endP c 0))).2
def cnV(g:Gr)(c:Conf)(v:Nat):Int:=if ((g.ports.getD v []).length:Int)<2 then 0 else if cnS g c v<(g.ids.length:Int)then cnS g c v+1 else(g.ids.length:Int)
section
variable {nm nh nr:ByteArray}{g:Gr}{c:Conf}{v:Nat}
theorem ydiu(g:Gr)(c:Conf)(v:Nat):-1073741824<=cnS g c v:=(yqf (-1073741824) _).1
theorem ycpa(g:Gr)(c:Conf)(v:Nat)(p:Int):ybv g c v ychu p=cnS g c v:=by
 show yhf 28 _=_;unfold yhf;rw[if_neg (by decide),if_neg (by decide),if_neg (by decide),if_neg (by decide),if_neg (by decide),if_neg (by decide),if_neg (by decide),if_neg (by decide),if_pos rfl]
 show(yek _).2=_;unfold cnS;have e:∀l,yek l=top2 (-1073741824) l:=fun l=>rfl;rw[e];congr 2;exact yrb g v _ _ fun q a=>rfl
theorem ybqh(f:ybe g)(p:Int):ybv g c v ybdc p=cnV g c v:=by
 have j:=f.2.1;have k:=f.2.2.1;have l:=ydiu g c v;show(if binP 37 ((g.ports.getD v []).length:Int) 2≠0 then 0 else if binP 37 (ybv g c v ychu p) (g.ids.length:Int)≠0 then satP (ybv g c v ychu p+1)else(g.ids.length:Int))=_
 rw[ycpa];have e:∀a b:Int,binP 37 a b=ycd (decide (a<b)):=fun a b=>rfl;rw[e,e];unfold cnV;have i:ycd true≠0:=by decide
 have h:¬ycd false≠0:=by decide
 by_cases q:((g.ports.getD v []).length:Int)<2
 .rw[if_pos q,decide_eq_true q,if_pos i]
 .rw[if_neg q,decide_eq_false q,if_neg h]
  by_cases d:cnS g c v<(g.ids.length:Int)
  .rw[if_pos d,decide_eq_true d,if_pos i];unfold satP;omega
  .rw[if_neg d,decide_eq_false d,if_neg h]
theorem Tr.ht_lt(h:Tr g)(d:v<g.ports.length):htP g v<g.ports.length:=by
 rcases zBV (htP g v) 1 with q|q
 .omega
 .obtain⟨a,b,f,_,_,j,_⟩:=(ybfm h.good d q).1 (zAP _);obtain⟨w,i,_,e⟩:=h.rch_ex f;have:=h.lt_n i d;omega
theorem ywm(k:ybe g)(o:v<g.ports.length):2<=(g.ports.getD v []).length↔∃a b,adj g v a/\adj g v b/\a≠b:=by
 constructor
 .intro h;have z:(g.ports.getD v [])[0]∈g.ports.getD v []:=zW _;have A:(g.ports.getD v [])[1]∈g.ports.getD v []:=zW _;obtain⟨B,_,q,_⟩:=yfg k o z;obtain⟨C,_,r,_⟩:=yfg k o A;refine⟨_,_,q,r,fun e=>?_⟩;have y:=yvk k o;have d:0<((g.ports.getD v []).map (·.1)).length:=by rw[zS];omega
  have f:1<((g.ports.getD v []).map (·.1)).length:=by rw[zS];omega
  have:=(List.getElem_inj (h₀:=d) (h₁:=f) y).1 (by rw[zAX,zAX];omega)
  omega
 .rintro⟨a,b,w,x,n⟩;obtain⟨F,l,t⟩:=ymk w;obtain⟨G,m,u⟩:=ymk x;obtain⟨i,D,s⟩:=zAR l;obtain⟨j,E,p⟩:=zAR m
  have:i≠j:=fun e=>by
   subst e;rw[s]at p;exact n (by rw[<-t,<-u,p])
  omega
theorem Tr.cn_next(h:Tr g)(K:v<g.ids.length)(r:Nat)(s:∀u,u<g.ids.length->if htP g u<(r:Int)then(c.getD u []).getD 0 0=htP g u else(r:Int)<=(c.getD u []).getD 0 0) :
 if htP g v<((r+1:Nat):Int)then cnV g c v=htP g v else((r+1:Nat):Int)<=cnV g c v:=by
 have E:=h.good.2.2.1;have k:v<g.ports.length:=by omega
 have D:=h.ht_lt k;have H:=ykl g v
 by_cases z:2<=(g.ports.getD v []).length
 .have t:cnV g c v=if cnS g c v<(g.ids.length:Int)then cnS g c v+1 else(g.ids.length:Int):=by unfold cnV;rw[if_neg (by omega)]
  rw[t];have o:=(ywm h.good k).1 z
  have d:∀u (j:Int),u<g.ids.length->j<=r->(j<=(c.getD u []).getD 0 0↔j<=htP g u):=fun u j F J=>by
   have:=s u F;split at this
   .rw[this]
   .omega
  have p:∀m:Int,1<=m->m<=r+1->(m<=cnS g c v+1↔m<=htP g v):=fun m w I=>by
   rw[h.ht_step k w o];have e:=((yqf (-1073741824) ((g.ports.getD v []).map (endP c 0))).2.2 (m-1) (by omega)).2
   have B:=ycdt h.good k (f:=fun u=>(c.getD u []).getD 0 0) (m:=m-1);have C:m<=cnS g c v+1↔m-1<=cnS g c v:=by omega
   rw[C];refine e.trans (B.trans ?_);constructor
   .rintro⟨a,b,l,n,i,x,y⟩;exact⟨a,b,l,n,i,(d a _ (by have:=(h.good.adj_lt l).2;omega) (by omega)).1 x,(d b _ (by have:=(h.good.adj_lt n).2;omega) (by omega)).1 y⟩
   .rintro⟨a,b,l,n,i,x,y⟩;exact⟨a,b,l,n,i,(d a _ (by have:=(h.good.adj_lt l).2;omega) (by omega)).2 x,(d b _ (by have:=(h.good.adj_lt n).2;omega) (by omega)).2 y⟩
  have w:1<=htP g v:=by
   rw[h.ht_step k (zAP 1) o];obtain⟨a,b,l,n,i⟩:=o;exact⟨a,b,l,n,i,by have:=ykl g a;omega,by have:=ykl g b;omega⟩
  by_cases A:htP g v<((r+1:Nat):Int)
  .rw[if_pos A];have G:=(p (htP g v) w (by omega)).2 (zAP _)
   have L:¬htP g v+1<=cnS g c v+1:=fun q=>by
    have:=(p (htP g v+1) (by omega) (by omega)).1 q
    omega
   rw[if_pos (by omega)]
   omega
  .rw[if_neg A];have G:=(p (r+1) (by omega) (by omega)).2 (by omega)
   split<;>omega
 .have t:cnV g c v=0:=by unfold cnV;rw[if_pos (by omega)]
  rw[t]
  have:htP g v=0:=by
   rcases zBV (htP g v) 1 with q|q
   .omega
   .obtain⟨a,b,l,n,i,_⟩:=(ybfm h.good k q).1 (zAP _);exact absurd ((ywm h.good k).2 ⟨a,b,l,n,i⟩) z
  rw[this,if_pos (by omega)]
structure CnC(g:Gr)(c:Conf):Prop where
 len:c.length=g.ids.length
 row:∀v,v<g.ids.length->(c.getD v []).length=1/\(0<=(c.getD v []).getD 0 0/\(c.getD v []).getD 0 0<=g.ids.length)
theorem ymc(j:ycb (yii nm nh nr) g c=true):CnC g c:=by
 have h:=(ydi _ _ _).1 j;refine⟨h.1,fun v k=>?_⟩;have a:v<c.length:=by rw[h.1];exact k
 have e:c.getD v []=c[v]:=by simp[zAB,a]
 have d:=h.2 v _ (zN a);rw[e];have f:c[v].length=1:=d.1;have b:(ybj g v ⟨nh,1,0,0,1,0⟩).1<=c[v][0]/\c[v][0]<=(ybj g v ⟨nh,1,0,0,1,0⟩).2:=d.2 0 _ _ rfl (zN (by omega))
 have i:c[v].getD 0 0=c[v][0]:=by simp[zAB,f]
 rw[i];rw[bT1]at b;simp only at b;exact⟨f,by omega,by omega⟩
theorem ycuf{s:List Int}(h:s.length=1)(x:Int):s=[x]↔s.getD 0 0=x:=by
 match s,h with
 |[a],_=>simp
theorem ybng(j:ybe g)(h:CnC g c)(k:v<g.ids.length):yea (yii nm nh nr) g c v=if c.getD v []=[cnV g c v]then -1 else 0:=by
 have i:=(h.row v k).1
 have f:yei g c v ⟨nr,.bin 36 (eVar 0) ybdc,[(0,ybdc)]⟩ = !decide (c.getD v []=[cnV g c v]):=by
  show(binP 36 ((c.getD v []).getD 0 0) (ybv g c v ybdc (-1))!=0)=_;have e:∀a b:Int,binP 36 a b=ycd (a != b):=fun a b=>rfl;rw[ybqh j,e,yvw];rw[zAS];simp only[bne_iff_ne,zAV,decide_eq_false_iff_not];rw[ycuf i]
 unfold yea yii;simp only[List.findIdx?_cons,f,List.findIdx?_nil]
 by_cases d:c.getD v []=[cnV g c v]
 .rw[if_pos d,decide_eq_true d];rfl
 .rw[if_neg d,decide_eq_false d];rfl
theorem ydiy(d:ybe g)(n:v<g.ids.length)(i:∀u,u<g.ids.length->0<=(c.getD u []).getD 0 0):0<=cnV g c v/\cnV g c v<=g.ids.length:=by
 have l:=d.2.2.1;unfold cnV;split
 .omega
 .rename_i q
  have:0<=cnS g c v:=by
   have e:=((yqf (-1073741824) ((g.ports.getD v []).map (endP c 0))).2.2 0 (by omega)).2
   refine e.2 ((ycdt d (by omega) (f:=fun u=>(c.getD u []).getD 0 0) (m:=0)).2 ?_)
   obtain⟨a,b,j,k,h⟩:=(ywm d (v:=v) (by omega)).1 (by omega)
   exact⟨a,b,j,k,h,i a (by have:=(d.adj_lt j).2;omega),i b (by have:=(d.adj_lt k).2;omega)⟩
  split<;>omega
theorem ycba(a:ybe g):Sh.yhj (yii nm nh nr) g=true:=by
 have b:=a.1;have d:=a.2.1;have e:=a.2.2.1;simp[Sh.yhj,yii,ybj];omega
theorem ydky:(yii nm nh nr).ok=true:=by kernel_rfl
theorem ycui(hg:ybe g):Tgt (ybq (yii nm nh nr) g) (fun c=>ycb (yii nm nh nr) g c=true) (fun c v=>[cnV g c v]) where
 valid:=fun c s hc _ _=>Sh.yhz hg ydky (ycba hg) hc s
 stay:=fun c s v hc hv hb=>by
  have hl:=(ymc hc).len;show(yez _ g c s).getD v []=_;rw[Sh.ygy _ g c s (by rw[hl];exact hv),hb]
  rfl
 move:=fun c s v hc hv hb hs=>by
  have hcf:=ymc hc;have hv:v<g.ids.length:=hv;show(yez _ g c s).getD v []=_;rw[Sh.ygy _ g c s (by rw[hcf.len];exact hv),hb,if_pos rfl]
  have hne:c.getD v []≠[cnV g c v]:=fun he=>by
   have h1:=hs v hb;have h1:(ygp _ g.ids.length).testBit v=true:=h1;rw[yfm]at h1;simp only[zH,decide_eq_true_eq]at h1;rw[ybng hg hcf hv,if_pos he]at h1;omega
  rw[ybng hg hcf hv,if_neg hne]
  obtain⟨x,hx⟩:∃x,c.getD v []=[x]:=by
   have:=(hcf.row v hv).1
   match hq:c.getD v [],this with
   |[x],_=>exact⟨x,rfl⟩
  obtain⟨b1,b2⟩:=ydiy hg hv fun u hu=>(hcf.row u hu).2.1;unfold ysg yjl;rw[hx];show[ygt 1 (ybj g v ⟨nh,1,0,0,1,0⟩) (ybv g c v ybdc (-1))]=_;rw[ybqh hg];congr 1;unfold ygt;rw[bT1,if_pos (by simp only;omega)]
 en:=fun c v hc hv=>by
  have hv:v<g.ids.length:=hv;show(ygp _ g.ids.length).testBit v=false↔_;rw[yfm,ybng hg (ymc hc) hv,decide_eq_true hv,zY,decide_eq_false_iff_not]
  by_cases he:c.getD v []=[cnV g c v]
  .rw[if_pos he];exact⟨fun _=>he,fun _=>by omega⟩
  .rw[if_neg he];exact⟨fun h=>(h (by omega)).elim,fun h=>absurd h he⟩
def cnR(g:Gr)(r v:Nat)(s:List Int):Prop:=if htP g v<(r:Int)then s=[htP g v]else(r:Int)<=s.getD 0 0
theorem ybww(h:Tr g)(e:CnC g c)(d:v<g.ids.length)(r:Nat)(a:∀u,u<g.ids.length->cnR g r u (c.getD u [])):cnR g (r+1) v [cnV g c v]:=by
 have:=h.cn_next d r fun u b=>by
  have:=a u b;unfold cnR at this;split at this
  .rw[this];rw[if_pos (by assumption)];rfl
  .rw[if_neg (by assumption)];exact this
 unfold cnR;split at this
 .rw[if_pos (by assumption),this]
 .rw[if_neg (by assumption)];exact this
theorem ycpc(a:CnC g c)(b:v<g.ids.length):cnR g 0 v (c.getD v []):=by
 unfold cnR;have:=ykl g v;rw[if_neg (by omega)]
 exact(a.row v b).2.1
def ybkm(g:Gr)(c:Conf):Prop:=∀v,v<g.ids.length->c.getD v []=[htP g v]
theorem ycfj{c:Conf}(h:ybkm g c)(r v:Nat)(a:v<g.ids.length):cnR g r v (c.getD v []):=by
 rw[h v a];unfold cnR;split
 .rfl
 .show _<=htP g v;omega
theorem ycor(h:Tr g){c:Conf}(d:ycb (yii nm nh nr) g c=true):yh (yii nm nh nr) g c=0↔ybkm g c:=by
 have l:=h.good.2.2.1;have j:=h.good.2.1;constructor
 .intro k v a;have:=(ycui (nm:=nm) (nh:=nh) (nr:=nr) h.good).silent (P:=cnR g) (fun c v r f a b=>ybww h (ymc f) a r b) d (fun v a=>ycpc (ymc d) a) k 100 v a;have:=h.ht_lt (v:=v) (by omega)
  unfold cnR at *;rw[if_pos (by omega)]at *
  assumption
 .intro i;refine(ycui (nm:=nm) (nh:=nh) (nr:=nr) h.good).en_zero d (Sh.yrx _ g c) fun v a=>?_;have a:v<g.ids.length:=a;have e:=ybww h (ymc d) a 100 fun u m=>ycfj i 100 u m;have:=h.ht_lt (v:=v) (by omega)
  unfold cnR at e;rw[if_pos (by omega)]at e
  rw[e];exact i v a
end
end
section
namespace Sh
open Ev Go.RowKit
def blV(l:List Bool):SV:=.sl 1 l.length (fun k=>[.b (l.getD k false)])
def ycov(l:List Bool)(k:Nat):Bool:=(l.take k).any id
structure HeldOk(legit:List Bool)(ks:List Cnt)(rounds moves:Int)(ended:Bool):Prop where
 len:legit.length=ks.length
 pos:0<legit.length
 stays:∀i,i<legit.length->ycov legit i=true->legit.getD i false=true
 rounds:∀i,i<legit.length->ycov legit (i+1)=false->((ks.getD i default).begun:Int)<=rounds
 moves:∀i,i<legit.length->ycov legit (i+1)=false->0<=moves->((ks.getD i default).moves:Int)<=moves
 ends:ycov legit legit.length=true\/ended=false
def ydq(kind:Int)(c silent:Bool)(a moves:Int):List SV:=[.i .i64 kind,.b c,.b silent,.i .i64 a,.i .i64 moves]
theorem yczl{n o:(Nat->Option ABlk)->Value->Prop}{p:ProgT}{g:Gr}{t:ByteArray}(d:Returns zG 6 [.a (.string t)] (.ag (ybs n o p.raw)))(h:Checked n o p g){kind:Int}(hk:1<=kind/\kind<=4){res:Nat->Nat->Nat}(s:DaemonOk kind (g.ports.map netP) res){c:Conf}(r:ycb p g c=true){ws:List Nat}(u:∀k,ws.getD k 0<2^32)(l:ws.length<=4000) :
 Returns zG 13 [.a (.string t),grV g,.i .i64 kind,ybf c,usV ws] (.tp [yfv (((ybq p g).runs res ws c).map (·.1)),yjx (((ybq p g).runs res ws c).map (·.2)),.b true]):=by
 refine Returns.of ((okG 13) _ _ ?_);have e:=ycgy h hk s r u l;obtain⟨R,q⟩:∃R,(ybq p g).runs res ws c=R:=⟨_,rfl⟩;rw[q]at e ⊢;have f:0<R.length:=by rw[<-q];simp[Sys.runs]
 obtain⟨m,j⟩:∃m,R.length=m:=⟨_,rfl⟩;rw[j]at f;have f1:((m:Int)==(m:Int))=true:=by simp
 have f2:decide ((m:Int)>0)=true:=by simp;omega
 simp only[ybs]at d e;simp only[grV,usV,yfv,yjx,zS,j]at e;simp only[cdE 13,rgE 13 0,rgE 13 1,grV,usV,clash,go_sem,zB,zC,↓reduceIte,reduceCtorEq];refine d.use ?_;simp only[yw,clash,go_sem,zA,zB,↓reduceIte,reduceCtorEq];refine e.use ?_;simp(maxSteps:=5000000) only [rgE 13 2,clash,f1,f2,go_sem,zA,zB,↓reduceIte,reduceCtorEq];refine⟨by decide,?_⟩
 unfold yfv yjx;rw[zS,zS,j];exact Sim.refl _
end Sh
end
section
namespace Sh
section
variable {nm nd np nt nl:ByteArray}{g:Gr}
end
end Sh
end
section
def yzb(g:Gr)(s:Nat):Prop:=∀u v,adj g u v->s.testBit u=true->s.testBit v=false
def ResD(D:Nat->Prop)(res:Nat->Nat->Nat):Prop:=∀e w,e≠0->res e w≠0/\subB (res e w) e/\D (res e w)
structure ByRoundsC(S:Sys)(V:Conf->Prop)(D:Nat->Prop)(P:Nat->Nat->Conf->Prop):Prop where
 valid:∀c s,V c->s≠0->subB s (S.en c)->D s->V (S.mv c s)
 stay:∀c s v r r',r<=r'->r'<=r+1->V c->v<S.n->s.testBit v=false->subB s (S.en c)->D s->(∀u,u<S.n->P r u c)->P r' v c->P r' v (S.mv c s)
 move:∀c s v r,V c->v<S.n->s.testBit v=true->subB s (S.en c)->D s->(∀u,u<S.n->P r u c)->P (r+1) v (S.mv c s)
 rest:∀c v r,V c->v<S.n->(S.en c).testBit v=false->(∀u,u<S.n->P r u c)->P (r+1) v c
 less:∀r v c,P (r+1) v c->P r v c
structure RInvC(S:Sys)(V:Conf->Prop)(P:Nat->Nat->Conf->Prop)(c:Conf)(k:Cnt):Prop where
 valid:V c
 all:∀v,v<S.n->P k.rounds v c
 done:∀v,v<S.n->k.pend.testBit v=false->P (k.rounds+1) v c
 begun:k.begun<=k.rounds+1
section
variable {S:Sys}{V:Conf->Prop}{D:Nat->Prop}{P:Nat->Nat->Conf->Prop}
end
end
section
def ydct:Ex:=.bin 41 (eVar 1) (.un 19 (.agg 20 (.bin 38 (eQ 0) (eVar 0))))
def ydfe:Ex:=.bin 41 (.un 19 (eVar 1)) (.agg 20 (.bin 37 (eQ 0) (eVar 0)))
def ydnk:Ex:=.bin 41 (.bin 41 (.bin 37 (eVar 0) eN) (.agg 20 (.bin 38 (eQ 0) (eVar 0)))) (.agg 21 (.bin 41 (.bin 35 (eQ 0) (eVar 0)) (.bin 35 (eQ 1) (eVar 1))))
def ycag(nm h l f d t i:ByteArray):ProgT:=⟨nm,[⟨h,1,0,0,1,0⟩,⟨l,2,0,0,0,0⟩],[⟨f,.bin 36 (eVar 0) ybdc,[(0,ybdc)]⟩,⟨d,ydct,[(1,.leaf 3 0)]⟩,⟨t,ydfe,[(1,.leaf 2 0)]⟩,⟨i,ydnk,[(1,.un 19 (eVar 1))]⟩]⟩
def hAt(c:Conf)(v:Nat):Int:=(c.getD v []).getD 0 0
def lAt(c:Conf)(v:Nat):Int:=(c.getD v []).getD 1 0
section
variable {nm nh nl nf nd nt ni:ByteArray}{g:Gr}{c:Conf}{u v w:Nat}
structure ElC(g:Gr)(c:Conf):Prop where
 len:c.length=g.ids.length
 row:∀v,v<g.ids.length->(c.getD v []).length=2/\(0<=hAt c v/\hAt c v<=g.ids.length)/\(lAt c v=0\/lAt c v=1)
open Classical in
end
end
section
abbrev ydld:Ex:=.leaf 11 0
abbrev ydas:Ex:=.leaf 17 0
abbrev eT:Ex:=.leaf 2 0
abbrev eF:Ex:=.leaf 3 0
def ybcn:Ex:=.bin 41 (eVar 0) (.agg 21 (eQ 0))
def ybda:Ex:=.bin 41 (.un 19 (eVar 0)) (.un 19 (.agg 21 (eQ 0)))
def ytf(nm m l e:ByteArray):ProgT:=⟨nm,[⟨m,2,0,0,0,0⟩],[⟨l,ybcn,[(0,eF)]⟩,⟨e,ybda,[(0,eT)]⟩]⟩
def ycuc:Ex:=.ite (eVar 0) yug (.agg 23 (eQ 0))
def ycai(nm m h l e p:ByteArray):ProgT:=⟨nm,[⟨m,2,0,0,0,0⟩,⟨h,3,0,0,0,0⟩],[⟨l,ybcn,[(0,eF)]⟩,⟨e,ybda,[(0,eT)]⟩,⟨p,.bin 36 (eVar 1) ycuc,[(1,ycuc)]⟩]⟩
def ycfz:Ex:=.bin 35 ydld (eVar 1)
def eKid:Ex:=.bin 36 (eQ 1) ydas
def ycis:Ex:=.bin 41 (.un 19 ybbn) (.agg 21 (.bin 41 ycfz (.bin 42 (.bin 36 (eQ 3) (eVar 3)) (.bin 41 (eVar 2) (.un 19 (eQ 2))))))
def wvS:Ex:=.agg 21 (.bin 41 ycfz (eQ 2))
def wvB:Ex:=.agg 21 (.bin 41 ycfz (eQ 3))
def ycvi:Ex:=.bin 41 (eVar 2) (.agg 20 (.bin 42 eKid (.bin 41 (.un 19 (eQ 2)) (.bin 35 (eQ 3) (eVar 3)))))
def yblw:Ex:=.bin 41 ybbn (.un 19 (eVar 2))
def ybbl(nm d p t l:ByteArray)(b:List VarR)(a:List RuleT):ProgT:=⟨nm,⟨d,1,0,0,1,0⟩::⟨p,3,0,0,0,0⟩::b,⟨t,ycge,[(0,eNum 0),(1,yug)]⟩::⟨l,ycea,[(0,yvm),(1,yyg)]⟩::a⟩
def ycfm(nm d p s b t l g k f:ByteArray):ProgT:=ybbl nm d p t l [⟨s,2,0,0,0,0⟩,⟨b,2,0,0,0,0⟩] [⟨g,yblw,[(2,eT),(3,.un 19 (eVar 3))]⟩,⟨k,ycis,[(2,wvS),(3,wvB)]⟩,⟨f,ycvi,[(2,eF)]⟩]
def ydhm:Ex:=.agg 20 (.bin 42 eKid (.bin 35 (eQ 2) (eVar 2)))
def ycbs(nm d p x t l k c:ByteArray):ProgT:=ybbl nm d p t l [⟨x,1,0,3,0,0⟩] [⟨k,.bin 41 ybbn ydhm,[(2,.bin 32 (.bin 33 (eVar 2) (eNum 1)) (eNum 4))]⟩,
 ⟨c,.bin 41 (.bin 41 (.un 19 ybbn) (.agg 21 (.bin 41 ycfz (.bin 36 (eQ 2) (eVar 2))))) ydhm,[(2,.agg 26 (.ite ycfz (eQ 2) (eNum 0)))]⟩]
def ybzj(nm d p s b x a t l g k f:ByteArray):ProgT:=ybbl nm d p t l [⟨s,2,0,0,0,0⟩,⟨b,2,0,0,0,0⟩,⟨x,1,0,15,0,0⟩,⟨a,1,0,0,15,0⟩]
 [⟨g,yblw,[(2,eT),(3,.un 19 (eVar 3))]⟩,⟨k,ycis,[(2,wvS),(3,wvB)]⟩,⟨f,ycvi,[(2,eF),(5,.bin 33 (eVar 4) (.agg 26 (.ite (.bin 35 (eQ 1) ydas) (eQ 5) (eNum 0))))]⟩]
def ycfp(nm d p s b y r t l g k f a:ByteArray):ProgT:=ybbl nm d p t l [⟨s,2,0,0,0,0⟩,⟨b,2,0,0,0,0⟩,⟨y,1,0,3,0,0⟩,⟨r,2,0,0,0,0⟩]
 [⟨g,.bin 41 yblw (eVar 5),[(2,eT),(3,.un 19 (eVar 3)),(4,eNum 0),(5,eF)]⟩,⟨k,ycis,[(2,wvS),(3,wvB),(4,eNum 0),(5,eF)]⟩,⟨f,ycvi,[(2,eF)]⟩,
  ⟨a,.bin 41 (.bin 41 (.un 19 (eVar 2)) (.un 19 (eVar 5))) (.agg 21 (.bin 41 (.bin 41 (.bin 35 (eQ 1) ydas) (eQ 5)) (.un 19 (eQ 2)))),[(5,eT)]⟩]
def upB(k:Nat)(a:List RuleT):Bool:=a.all fun r=>r.sets.all fun s=>decide ((k:Int)<=s.1)
theorem ybmc{q p:ProgT}(a:p.vars.take q.vars.length=q.vars)(b:(p.rules.take q.rules.length).map RuleT.act=q.rules.map RuleT.act)(c:upB q.vars.length (p.rules.drop q.rules.length)=true)(e:q.ok=true):LowT q p :=
 ⟨a,b,fun r f s g=>of_decide_eq_true (List.all_eq_true.1 (List.all_eq_true.1 c r f) s g),e⟩
section
variable {n1 n2 d p t l:ByteArray}
theorem ybch{b:List VarR}{a:List RuleT}(h:upB 2 a=true):LowT (ycu n1 d p t l) (ybbl n2 d p t l b a):=ybmc rfl rfl h rfl
end
end
section
def memV(c:Conf)(v:Nat):Int:=(c.getD v []).getD 0 0
def ybdq(g:Gr)(c:Conf)(v:Nat):Bool:=(g.ports.getD v []).any fun l=>endP c 0 l != 0
def memB(c:Conf)(n:Nat):Nat:=ygp (fun v=>memV c v==1) n
def arP(g:Gr)(S:Nat):Nat:=ygp (fun v=>(g.ports.getD v []).any fun l=>S.testBit l.1.toNat) g.ports.length
section
variable {nm nl ne m:ByteArray}{g:Gr}{c:Conf}{v:Nat}
theorem yccn(b:Bool):(ycd b != 0)=b:=by cases b<;>rfl
theorem ycha(p:Int):ybv g c v (.agg 21 (eQ 0)) p=ycd (ybdq g c v):=by
 show yhf 21 _=_;have e:((zBH (g.ports.getD v []).length).map fun(q:Nat)=>ybv g c v (eQ 0) (q:Int))=(g.ports.getD v []).map fun l=>endP c 0 l:=yrb g v _ _ fun q i=>rfl;rw[e];show ycd (decide (countP _>0))=_;congr 1;rw[zAS,decide_eq_true_iff];unfold countP ybdq;rw[zBJ];constructor
 .intro h;obtain⟨x,f⟩:=List.exists_mem_of_length_pos (show 0<(((g.ports.getD v []).map fun l=>endP c 0 l).filter (· != 0)).length by omega)
  obtain⟨b,d⟩:=List.mem_filter.1 f;obtain⟨l,a,rfl⟩:=List.mem_map.1 b;exact⟨l,a,d⟩
 .rintro⟨l,a,h⟩;have:endP c 0 l∈((g.ports.getD v []).map fun l=>endP c 0 l).filter (· != 0):=List.mem_filter.2 ⟨List.mem_map.2 ⟨l,a,rfl⟩,h⟩;have:=List.length_pos_of_mem this;omega
theorem ydan(nl:ByteArray)(s:List (Int×Ex)):yei g c v ⟨nl,ybcn,s⟩=(memV c v != 0&&ybdq g c v):=by
 show(ycd (memV c v != 0&&ybv g c v (.agg 21 (eQ 0)) (-1)!=0)!=0)=_;rw[yccn,ycha,yccn]
theorem ydah(ne:ByteArray)(s:List (Int×Ex)):yei g c v ⟨ne,ybda,s⟩=(memV c v==0 && !(ybdq g c v)):=by
 show(ycd (ycd (memV c v==0)!=0&&ycd (ybv g c v (.agg 21 (eQ 0)) (-1)==0)!=0)!=0)=_;rw[yccn,yccn,yccn,ycha];cases ybdq g c v<;>rfl
theorem ycbz(i:ycb (ytf nm m nl ne) g c=true):c.length=g.ids.length/\∀v,v<g.ids.length->(c.getD v []).length=1/\(memV c v=0\/memV c v=1):=by
 have h:=(ydi _ _ _).1 i;refine⟨h.1,fun v j=>?_⟩;have a:v<c.length:=by rw[h.1];exact j
 have e:c.getD v []=c[v]:=by simp[zAB,a]
 have b:=h.2 v _ (zN a);unfold memV;rw[e];have d:c[v].length=1:=b.1;have k:(0:Int)<=c[v][0]/\c[v][0]<=1:=b.2 0 _ _ rfl (zN (by omega))
 have f:c[v].getD 0 0=c[v][0]:=by simp[zAB,d]
 rw[f];exact⟨d,by omega⟩
theorem ycwp(S:Nat):(arP g S).testBit v=(decide (v<g.ports.length)&&(g.ports.getD v []).any fun l=>S.testBit l.1.toNat):=yfm _ _ _
theorem ycst(p:ybe g)(x:ycb (ytf nm m nl ne) g c=true)(w:yh (ytf nm m nl ne) g c=0):arP g (memB c g.ids.length)=difB (2^g.ids.length-1) (memB c g.ids.length):=by
 have z:=p.2.2.1;obtain⟨r,t⟩:=ycbz x;refine Nat.eq_of_testBit_eq fun v=>?_;rw[ycwp,yqy,zBE]
 by_cases f:v<g.ids.length
 .have a:v<g.ports.length:=by omega
  have o:∀u,u<g.ids.length->(memB c g.ids.length).testBit u=(memV c u==1):=fun u B=>by
   unfold memB;rw[yfm,decide_eq_true B,zY]
  have A:((g.ports.getD v []).any fun l=>(memB c g.ids.length).testBit l.1.toNat)=ybdq g c v:=by
   unfold ybdq;rw[zAS,zBJ,zBJ]
   have s:∀l∈g.ports.getD v [],((memB c g.ids.length).testBit l.1.toNat=true↔(endP c 0 l != 0)=true):=fun l r=>by
    have b:=(yfg p a r).2.1;rw[o _ (by omega),beq_iff_eq,bne_iff_ne]
    have:=(t l.1.toNat (by omega)).2
    show memV c l.1.toNat=1↔memV c l.1.toNat≠0;omega
   exact⟨fun⟨l,b,k⟩=>⟨l,b,(s l b).1 k⟩,fun⟨l,b,k⟩=>⟨l,b,(s l b).2 k⟩⟩
  rw[A,o v f,decide_eq_true f,decide_eq_true a,zY,zY];have d:=(ych _).1 w v;rw[ycsb,decide_eq_true f,zY,decide_eq_false_iff_not]at d
  have e:(ytf nm m nl ne).rules.findIdx? (yei g c v)=none:=by
   cases y:(ytf nm m nl ne).rules.findIdx? (yei g c v)with
   |none=>rfl
   | some i =>
     exfalso
     apply d;unfold yea;rw[y];show(i:Int)>=0;omega
  rw[List.findIdx?_eq_none_iff]at e;have h:=e ⟨nl,ybcn,[(0,eF)]⟩ zAC;have j:=e ⟨ne,ybda,[(0,eT)]⟩ (zAN _ zAC);rw[ydan]at h;rw[ydah]at j;rcases(t v f).2 with q|q
  .rw[q]at j ⊢;cases n:ybdq g c v with
   |true=>rfl
   |false=>rw[n]at j;cases j
  .rw[q]at h ⊢;cases n:ybdq g c v with
   |true=>rw[n]at h;cases h
   |false=>rfl
 .have a:¬v<g.ports.length:=by omega
  rw[decide_eq_false f,decide_eq_false a];rfl
end
end
section
namespace Sh
open Ev Go.RowKit
theorem ydkw{a:Type}(l:List a)(x d:a)(i:Nat):(l++[x]).getD i d=if i<l.length then l.getD i d else if i=l.length then x else d:=by
 by_cases h:i<l.length
 .simp[zAB,List.getElem?_append_left h,h]
 .by_cases e:i=l.length
  .subst e;simp[zAB]
  .rw[if_neg h,if_neg e,zAB,List.getElem?_eq_none (by simp;omega)]
   rfl
theorem ydke(k i:Nat)(a:i≠k):(if i<k+1 then(-1:Int)else 0)=if i<k then -1 else 0:=by
 by_cases h:i<k
 .rw[if_pos h,if_pos (by omega)]
 .rw[if_neg h,if_neg (by omega)]
theorem ybti(g:Gr)(a i:Nat)(b:a<g.ports.length)(c:i<g.ports.length):(start g a).getD i 0=if i=a then 0 else -1:=by
 unfold start;rw[ybcm (by simpa using b)]
 split
 .rfl
 .rw[zBF,zBM,if_pos c];rfl
theorem ybas{g:Gr}(N:ybe g){a:Nat}(ha:a<g.ports.length):Returns zG 204 [grV g,.i .i64 a] (yj (ybr g a)):=by
 refine Returns.of ((okG 204) _ _ ?_);obtain⟨n,z⟩:∃n,g.ports.length=n:=⟨_,rfl⟩;have Y:=N.2.1;have X:=N.1;rw[z]at Y X ha;obtain⟨PV,a8⟩:∃P,yba g.ports=P:=⟨_,rfl⟩;simp only[cdE 204,rgE 204 0,rgE 204 1,rgE 204 2,grV,yba,z,go_sem,zA,zB,zC,↓reduceIte,reduceCtorEq];refine⟨by omega,?_⟩
 refine ybk (σ:=Nat) (fun k=>⟨[(17,.i .i64 k),(16,.i .i64 n),(5,.os (14,0) 0 n true),(2,.pt (2,0) 0 0),(1,.i .i64 a)],
  [(2,.one (some ⟨30,true,2,1,fun _=>[yj g.ids,yba g.ports]⟩)),(14,.one (some ⟨3,false,1,n,fun i=>[.i .i64 (if i<k then -1 else 0)]⟩))]⟩) (fun k=>k<=n) (fun k=>n-k) 0 (zK _) ?_ ?_
 .refine yx ?_;simp only[yba,z,wk,go_sem,zA,zC,↓reduceIte,reduceCtorEq];exact fun i _=>by rw[if_neg (by omega)]
 .intro k hk
  by_cases a9:k<n
  .have ht:decide ((k:Int)<(n:Int))=true:=decide_eq_true (by omega)
   simp only[rgE 204 3,rgE 204 4,rgE 204 5,rgE 204 6,ht,splice,and_false,go_sem,zA,zB,↓reduceIte,reduceCtorEq];refine⟨by omega,by omega,ikw (by omega) (by omega),?_⟩
   refine ybw (k+1) ?_;refine yx ?_;simp only[go_sem,wk,go_sem,zA,zC,↓reduceIte,reduceCtorEq];refine⟨by omega,fun i S=>?_⟩
   by_cases q:i=k
   .subst q;simp only[if_pos (zAY i)];simp only[wk,go_sem,↓reduceIte,reduceCtorEq]
   .simp only[if_neg q,ydke k i q];simp only[wk,go_sem,reduceCtorEq]
  .obtain rfl:k=n:=by omega
   have ht:decide ((k:Int)<(k:Int))=false:=decide_eq_false (by omega)
   simp only[rgE 204 3,rgE 204 7,rgE 204 8,ht,splice,and_false,go_sem,zA,zB,zC,↓reduceIte,reduceCtorEq];refine⟨⟨by omega,by omega⟩,by omega,?_⟩
   refine ybk (σ:=List Int×List Nat×Nat) (fun q=>⟨[(7,.os (128,0) q.2.2 (q.2.1.length-q.2.2) true),(5,.os (14,0) 0 k true),(2,.pt (2,0) 0 0)],
    [(2,.one (some ⟨30,true,2,1,fun _=>[yj g.ids,yba g.ports]⟩)),(14,.one (some ⟨3,false,1,k,fun i=>[.i .i64 (q.1.getD i 0)]⟩)),(128,.one (some ⟨3,false,1,q.2.1.length,fun i=>[.i .i64 (q.2.1.getD i 0:Nat)]⟩))]⟩)
    (fun q=>q.2.2<=q.2.1.length/\BfsInv g a q.1 (q.2.1.drop q.2.2)/\q.2.1.length-q.2.2+ydd q.1<=30/\q.2.1.length<=31) (fun q=>q.2.1.length-q.2.2+ydd q.1) (start g a,[a],0) ⟨zK _,BfsInv.start (by omega),ypx g a (by omega),by simp⟩ ?_ ?_
   .refine ybm [(128,fun i=>(28,i))] [] [] ?_;simp only[go_sem,wk,go_sem,zA,zC,↓reduceIte,reduceCtorEq];refine⟨fun i S=>?_,fun i S=>?_⟩
    .rw[ybti g a i (by omega) (by omega),if_pos S]
     by_cases q:i=a
     .simp only[if_pos q];simp only[wk,go_sem,reduceCtorEq]
     .simp only[if_neg q];simp only[wk,go_sem,reduceCtorEq]
    .obtain rfl:i=0:=by omega
     simp only[List.getD_cons_zero,wk,go_sem,reduceCtorEq]
   .rintro⟨R,W,o⟩ ⟨ho,c,s,w⟩;have ho:o<=W.length:=ho;have c:BfsInv g a R (W.drop o):=c;have s:W.length-o+ydd R<=30:=s;have w:W.length<=31:=w;obtain⟨m,U⟩:∃m,W.length=m:=⟨_,rfl⟩;rw[U]at ho s w
    by_cases T:o<m
    .have hQ : W.drop o=W[o]::W.drop (o+1):=(zBI (by omega))
     obtain⟨v,hv⟩:∃v,W.getD o 0=v:=⟨_,rfl⟩;have a4:W[o]=v:=by rw[<-hv,getD_at (show o<W.length by omega)]
     rw[a4]at hQ;rw[hQ]at c;obtain⟨d,hd⟩:=c.qin v (by simp)
     have a5:v<g.ports.length:=by rw[<-c.len];exact(List.getElem?_eq_some_iff.1 hd).1
     obtain⟨f,H⟩:∃f,g.ports.getD v []=f:=⟨_,rfl⟩;have r:g.ports[v]?=some f:=by rw[<-H];simp[zAB,a5]
     have a0:=c.pop hd f;have a2:f.length<24:=by rw[<-H];exact N.deg_lt
     have J:decide (((m-o:Nat):Int)>0)=true:=decide_eq_true (by omega)
     simp only[rgE 204 9,rgE 204 10,rgE 204 11,rgE 204 12,J,U,hv,yba,ybd,H,z,go_sem,zBN,zA,zB,↓reduceIte,reduceCtorEq];refine⟨⟨by omega,by omega⟩,T,⟨by omega,by omega,by omega⟩,⟨by omega,by omega⟩,?_⟩
     refine ybk (σ:=Nat×List Int×List Nat×Nat) (fun q=>⟨[(43,.i .i64 q.1),(42,.i .i64 f.length),(41,ybd f),(8,.i .i64 v),(7,.os (128,0) q.2.2.2 (q.2.2.1.length-q.2.2.2) true),(5,.os (14,0) 0 k true),(2,.pt (2,0) 0 0)],
      [(2,.one (some ⟨30,true,2,1,fun _=>[yj g.ids,yba g.ports]⟩)),(14,.one (some ⟨3,false,1,k,fun i=>[.i .i64 (q.2.1.getD i 0)]⟩)),(128,.one (some ⟨3,false,1,q.2.2.1.length,fun i=>[.i .i64 (q.2.2.1.getD i 0:Nat)]⟩))]⟩)
      (fun q=>q.1<=f.length/\q.2.2.2<=q.2.2.1.length/\BfsIn g a v d f q.1 q.2.1 (q.2.2.1.drop q.2.2.2)/\q.2.2.1.length-q.2.2.2+1+ydd q.2.1=m-o+ydd R/\q.2.2.1.length<=31) (fun q=>f.length-q.1) (0,R,W,o+1) ⟨zK _,by show o+1<=W.length;omega,a0,by show W.length-(o+1)+1+ydd R=_;omega,by show W.length<=31;omega⟩ ?_ ?_
     .refine yx ?_;simp only[yba,ybd,z,U,Nat.sub_sub,wk,go_sem,zA,zC,↓reduceIte,reduceCtorEq]
     .rintro⟨j,R',W',h⟩ ⟨hj,I,b,t,M⟩;have hj:j<=f.length:=hj;have I:h<=W'.length:=I;have b:BfsIn g a v d f j R' (W'.drop h):=b;have t:W'.length-h+1+ydd R'=m-o+ydd R:=t;have M:W'.length<=31:=M;obtain⟨m',p⟩:∃m,W'.length=m:=⟨_,rfl⟩;rw[p]at I t M
      by_cases F:j<f.length
      .have A:decide ((j:Int)<(f.length:Int))=true:=decide_eq_true (by omega)
       obtain⟨l,hl⟩:∃l,f.getD j (0,0)=l:=⟨_,rfl⟩;have G:f[j]=l:=by rw[<-hl,getD_at F]
       have a1:l∈f:=by rw[<-G];exact zW _
       obtain⟨k1,k2,k3,k4,k5⟩:=N.link r a1;obtain⟨u,V⟩:=zT k1;have L:u<R'.length:=by rw[b.len];omega
       have Z:R'.getD v 0=(d:Int):=by have:=b.rv;simp[zAB,this]
       have a6:d<g.ports.length:=by
        rcases b.val v _ b.rv with e|⟨k',e,X,h2⟩
        .omega
        .obtain rfl:d=k':=by omega
         exact yxd N (by omega) X h2
       have D:R'[u]?=some (R'.getD u 0):=by rw[getD_at L];exact zN L
       by_cases C:R'.getD u 0<0
       .have K:decide (R'.getD u 0<0)=true:=decide_eq_true C;simp only[rgE 204 13,rgE 204 14,rgE 204 15,rgE 204 16,rgE 204 17,rgE 204 18,ybd,hl,V,A,K,p,Z,splice,and_false,go_sem,zA,zB,zD,zC,↓reduceIte,reduceCtorEq];refine⟨⟨by omega,by omega⟩,⟨by omega,by omega⟩,by omega,⟨by omega,by omega⟩,by omega,ikw (by omega) (by omega),⟨by omega,by omega⟩,by omega,by decide,⟨by omega,by omega,by omega⟩,ikw (by omega) (by omega),?_⟩
        have O:R'[u]?=some (-1):=by
         rcases b.val u _ D with e|⟨k',e,_⟩
         .rw[D,e]
         .omega
        have Q:=b.discover r F (u:=u) (by rw[G];exact V) O
        have a7:=yye (R:=R') (u:=u) (x:=(d:Int)+1) O (by omega)
        have B:(W'.drop h++[u]).length=m'-h+1:=by rw[zL,zBZ,p];rfl
        refine ybb (j+1,R'.set u ((d:Int)+1),W'.drop h++[u],0) ⟨by show j+1<=_;omega,zK _,Q,by show(W'.drop h++[u]).length-0+1+ydd (R'.set u ((d:Int)+1))=_;omega,by show(W'.drop h++[u]).length<=31;omega⟩ (by show f.length-(j+1)<f.length-j;omega) ?_
        refine ybm [(128,fun i=>(66,i))] [] [] ?_;simp only[yba,ybd,z,B,wk,go_sem,zA,zC,↓reduceIte,reduceCtorEq];refine⟨⟨by omega,Sim.refl _⟩,fun i S=>?_,fun i S=>?_⟩
        .rw[ybcm L]
         by_cases q:i=u
         .simp only[if_pos q];simp only[wk,go_sem,reduceCtorEq]
         .simp only[if_neg q];simp only[wk,go_sem,reduceCtorEq]
        .rw[ydkw,zBZ,p]
         by_cases q:i<m'-h
         .have e:(W'.drop h).getD i 0=W'.getD (h+i) 0:=by simp[zAB,zBW]
          simp only[if_pos q,e];simp only[wk,go_sem,reduceCtorEq]
         .obtain rfl:i=m'-h:=by omega
          simp only[if_neg q,zAK,zBK,↓reduceIte];simp only[wk,go_sem,reduceCtorEq]
       .have K:decide (R'.getD u 0<0)=false:=decide_eq_false C;simp only[rgE 204 13,rgE 204 14,rgE 204 15,rgE 204 16,rgE 204 17,rgE 204 18,ybd,hl,V,A,K,p,splice,go_sem,zA,zB,zD,zC,↓reduceIte,reduceCtorEq];refine⟨⟨by omega,by omega⟩,⟨by omega,by omega⟩,by omega,ikw (by omega) (by omega),?_⟩
        obtain⟨y,hy⟩:=zT (show 0<=R'.getD u 0 by omega)
        have a3:=b.skip F (j:=y) (by rw[G,V,zAJ,D,hy])
        refine ybb (j+1,R',W',h) ⟨by show j+1<=_;omega,by show h<=W'.length;omega,a3,by show W'.length-h+1+ydd R'=_;omega,by show W'.length<=31;omega⟩ (by show f.length-(j+1)<f.length-j;omega) ?_
        refine yx ?_;simp only[yba,ybd,z,p,wk,go_sem,zA,zC,↓reduceIte,reduceCtorEq];omega
      .obtain rfl:j=f.length:=by omega
       have A:decide ((f.length:Int)<(f.length:Int))=false:=decide_eq_false (by omega)
       simp only[rgE 204 13,rgE 204 14,rgE 204 15,rgE 204 16,rgE 204 17,rgE 204 18,A,go_sem,zA,↓reduceIte];refine ybb (R',W',h) ⟨by show h<=W'.length;omega,b.finish r,by show W'.length-h+ydd R'<=30;omega,by show W'.length<=31;omega⟩ (by show W'.length-h+ydd R'<m-o+ydd R;omega) ?_
       refine yx ?_;simp only[yba,ybd,z,p,wk,go_sem,zA,zC,↓reduceIte,reduceCtorEq]
    .obtain rfl:o=m:=by omega
     have J:decide (((o-o:Nat):Int)>0)=false:=decide_eq_false (by omega)
     rw[zBR (by omega)]at c
     have E:=c.isDist.unique (yec N (by omega))
     subst E;have B:=c.len;simp only[rgE 204 9,rgE 204 19,J,U,yba,ybd,z,go_sem,zA,zB,↓reduceIte,reduceCtorEq];have e:(ybr g a).length=k:=by omega
     unfold yj;rw[e];exact Sim.refl _
theorem ycac{g:Gr}(c:ybe g){a:Nat}(e:a<g.ports.length):Returns zG 150 [grV g,.i .i64 a] (yj (ybr g a)):=by
 refine Returns.of ((okG 150) _ _ ?_);have b:=yhy (yro c);rw[(ycm g).2 c]at b;have d:=ybas c e;have t1:decide ((a:Int)<0)=false:=decide_eq_false (by omega)
 have t2:decide ((a:Int)>=(g.ports.length:Int))=false:=decide_eq_false (by omega)
 simp only[grV,yba]at b d;simp only[cdE 150,rgE 150 0,rgE 150 1,rgE 150 2,rgE 150 3,grV,yba,clash,go_sem,zA,zB,zC,↓reduceIte];refine b.use ?_;simp only[yw,t1,t2,clash,go_sem,zA,zB,↓reduceIte,reduceCtorEq];refine d.use ?_;simp only[go_sem];exact Sim.refl _
theorem yih{g:Gr}(f:GrI g):Returns zG 202 [grV g] (.b (ycj g)):=by
 refine ybqn ⟨_,_,Tryz.func202,rfl⟩ (fun _=>.b) (fun _=>.simple rfl) fun G m n e h o M w l a i j=>?_;obtain⟨u,rfl,c⟩:=rvl1 h;obtain⟨k,rfl,d⟩:=yiq j;exact ygl k g w (ycmd e c d a i f)
theorem yrc{g:Gr}(j:GrI g)(v:Int):Returns zG 108 [grV g,.i .i64 v] (.i .i64 (eccP g v)):=by
 refine ybqn ⟨_,_,Tryz.func108,rfl⟩ (fun _=>.i) (fun _=>.simple rfl) fun G m r h k t M w p a l n=>?_;obtain⟨u,s,rfl,b,c⟩:=rvl2 k;obtain⟨o,q,rfl,d,f⟩:=yxb n;cases c.int_inv
 have e:=f.eq_simple rfl;subst e;exact yuf o g v w (ycmd h b d a l j)
end Sh
end
section
namespace Sh
open Ev Go.RowKit
def clmV(kind:Int)(c silent:Bool)(a moves:Int):List SV:=[.i .i64 kind,.b c,.b silent,.i .i64 a,.i .i64 moves]
theorem ybbt{g:Gr}(n:ybe g){c:Conf}(C:ybhg c){G:List Int}(B:∀x∈G,I64 x):Returns zG 158 [grV g,ybf c,yj G] (.b (yol g.ports.length (ydm g G) c)):=by
 refine ybqn ⟨_,_,Tryz.func158,rfl⟩ (fun _=>.b) (fun _=>.simple rfl) fun H m J h D o M w l a i E=>?_
 obtain⟨u,d,rfl,p,q⟩:∃u d,J=u::d/\RV H om0 (grV g) u/\RVL H om0 [ybf c,yj G] d:=by
  cases D with|cons x y=>exact⟨_,_,rfl,x,y⟩
 obtain⟨F,I,rfl,r,s⟩:=rvl2 q
 obtain⟨f,e,rfl,t,v⟩:∃f e,l=f::e/\VR o u f/\VRL o [F,I] e:=by
  cases E with|cons x y=>exact⟨_,_,rfl,x,y⟩
 obtain⟨j,k,rfl,z,A⟩:=yxb v;exact ysd f j k g c G w (ycmd h p t a i (yro n)) (ydak h r z a i C) (ints_at h s A a i B) n
end Sh
end
section
def arF(g:Gr)(S:Nat)(v:Nat):Bool:=(g.ports.getD v []).any fun l=>S.testBit l.1.toNat
def arIn(g:Gr)(S k i:Nat):Nat:=if ((g.ports.getD k []).take i).any fun l=>S.testBit l.1.toNat then ygp (arF g S) k|||2^k else ygp (arF g S) k
theorem ycij(g:Gr)(S k:Nat):arIn g S k 0=ygp (arF g S) k:=by unfold arIn;simp
theorem ycny(g:Gr)(S k:Nat):arIn g S k (g.ports.getD k []).length=ygp (arF g S) (k+1):=by
 unfold arIn;rw[zBL];rfl
theorem ybvw{g:Gr}{S k i:Nat}(h:i<(g.ports.getD k []).length):arIn g S k (i+1)=if S.testBit ((g.ports.getD k []).getD i (0,0)).1.toNat then arIn g S k i|||2^k else arIn g S k i:=by
 unfold arIn
 generalize g.ports.getD k []=L at h ⊢
 rw[List.take_add_one,List.any_append];have e:L[i]?=some (L.getD i (0,0)):=by rw[zN h];simp[zAB,h]
 rw[e]
 generalize L.getD i (0,0)=x
 cases b:(L.take i).any fun l=>S.testBit l.1.toNat<;>cases a:S.testBit x.1.toNat<;>simp[a,Nat.or_assoc]
theorem ycxt(g:Gr)(S k i:Nat):arIn g S k i<2^(k+1):=by
 have b:=yrh (arF g S) k;have a:2^k<2^(k+1):=zBC (by omega) (by omega)
 unfold arIn;split
 .exact Nat.or_lt_two_pow (by omega) a
 .omega
theorem ybyu(c:Conf)(k:Nat):memB c (k+1)=if memV c k==1 then memB c k|||2^k else memB c k:=rfl
namespace Sh
open Ev Go.RowKit
theorem dLt{a b:Nat}(h:a<b):decide ((a:Int)<(b:Int))=true:=by simp;omega
theorem ybbv(a:List Int)(e:a.length<=100000):Returns zG 84 [yj a,yj a] (.b true):=by
 refine Returns.of ((okG 84) _ _ ?_);obtain⟨n,d⟩:∃n,a.length=n:=⟨_,rfl⟩;rw[d]at e;simp only[cdE 84,rgE 84 0,rgE 84 1,rgE 84 3,yj,d,bne_self_eq_false,clash,go_sem,zA,zB,↓reduceIte,reduceCtorEq];refine ybk (σ:=Nat) (fun k=>⟨[(5,.i .i64 k),(0,yj a),(1,yj a)],[]⟩) (fun k=>k<=n) (fun k=>n-k) 0 (zK _) ?_ ?_
 .refine yx ?_;simp only[yj,d,wk,go_sem,zA,↓reduceIte,reduceCtorEq]
 .intro k hk
  by_cases c:k<n
  .have d1:=dLt c;simp only[rgE 84 4,rgE 84 5,rgE 84 6,yj,d,d1,bne_self_eq_false,clash,go_sem,zA,zB,↓reduceIte,reduceCtorEq]
   repeat refine ydc ?_
   refine ybb (k+1) c (by omega) ?_
   refine yx ?_;simp only[wk,go_sem,zA,↓reduceIte,reduceCtorEq];omega
  .obtain rfl:k=n:=by omega
   simp only[rgE 84 4,rgE 84 8,yj,d,zAF,clash,go_sem,zA,zB,↓reduceIte,reduceCtorEq];exact Sim.refl _
theorem ybzk(c:Conf)(g:c.length<=100000)(f:∀s∈c,s.length<=100000):Returns zG 18 [ybf c,ybf c] (.b true):=by
 refine Returns.of ((okG 18) _ _ ?_);obtain⟨n,d⟩:∃n,c.length=n:=⟨_,rfl⟩;simp only[cdE 18,rgE 18 0,rgE 18 1,rgE 18 3,ybf,d,bne_self_eq_false,clash,go_sem,zA,zB,↓reduceIte,reduceCtorEq];refine ybk (σ:=Nat) (fun k=>⟨[(5,.i .i64 k),(0,ybf c),(1,ybf c)],[]⟩) (fun k=>k<=n) (fun k=>n-k) 0 (zK _) ?_ ?_
 .refine yx ?_;simp only[ybf,d,wk,go_sem,zA,↓reduceIte,reduceCtorEq]
 .intro k hk
  by_cases a:k<n
  .have d1:=dLt a;have e:=ybbv (c.getD k []) (f _ (by rw[getD_at (show k<c.length by omega)];exact zW _))
   simp only[rgE 18 4,rgE 18 5,rgE 18 6,ybf,d,d1,clash,go_sem,zA,zB,↓reduceIte,reduceCtorEq]
   repeat refine ydc ?_
   refine e.use ?_;simp only[yw,clash,go_sem,zA,zB,↓reduceIte,reduceCtorEq]
   repeat refine ydc ?_
   refine ybb (k+1) a (by omega) ?_
   refine yx ?_;simp only[wk,go_sem,zA,↓reduceIte,reduceCtorEq];omega
  .obtain rfl:k=n:=by omega
   simp only[rgE 18 4,rgE 18 8,ybf,d,zAF,clash,go_sem,zA,zB,↓reduceIte,reduceCtorEq];exact Sim.refl _
theorem ybtd{g:Gr}(C:ybe g){S:Nat}(K:S<2^32):Returns zG 259 [grV g,.i .u32 S] (.i .u32 (arP g S:Nat)):=by
 refine Returns.of ((okG 259) _ _ ?_);have J:=C.2.1;obtain⟨n,o⟩:∃n,g.ports.length=n:=⟨_,rfl⟩;simp only[cdE 259,rgE 259 0,rgE 259 1,rgE 259 2,grV,yba,o,clash,go_sem,zA,zB,zC,↓reduceIte,reduceCtorEq];refine ybk (σ:=Nat) (fun k=>⟨[(13,.i .i64 k),(12,.i .i64 n),(11,yba g.ports),(5,.i .u32 (ygp (arF g S) k:Nat)),(1,.i .u32 S),(2,.pt (2,0) 0 0)],[(2,.one (some ⟨30,true,2,1,fun _=>[yj g.ids,yba g.ports]⟩))]⟩) (fun k=>k<=n) (fun k=>n-k) 0 (zK _) ?_ ?_
 .refine yx ?_;simp only[yba,o,ygp,wk,go_sem,zA,zC,↓reduceIte,reduceCtorEq]
 .intro k hk
  by_cases y:k<n
  .have d1 := dLt y;have h:=C.deg_lt (v:=k)
   have p:∀i,i<(g.ports.getD k []).length->0<=((g.ports.getD k []).getD i (0,0)).1/\((g.ports.getD k []).getD i (0,0)).1.toNat<n:=fun i M=>by
    have f:(g.ports.getD k []).getD i (0,0)∈g.ports.getD k []:=by rw[getD_at M];exact zW _
    obtain⟨H,R,_⟩:=yfg C (show k<g.ports.length by omega) f
    exact⟨H,by omega⟩
   have Q:=ycij g S k;have B:=ycny g S k;have r:=fun i=>ybvw (g:=g) (S:=S) (k:=k) (i:=i);have x:=fun i=>ycxt g S k i;obtain⟨L,A⟩:∃L,g.ports.getD k []=L:=⟨_,rfl⟩;rw[A]at h p B;simp only[A]at r;obtain⟨m,f⟩:∃m,L.length=m:=⟨_,rfl⟩;rw[f]at h p B;simp only[f]at r;have N:2^(k+1)<=2^24:=zAO (by omega) (by omega)
   have O:2^k<2^24:=zBC (by omega) (by omega)
   simp only[rgE 259 3,rgE 259 4,rgE 259 5,yba,ybd,o,A,f,d1,clash,go_sem,zA,zB,↓reduceIte,reduceCtorEq]
   repeat refine ydc ?_
   refine ybk (σ:=Nat) (fun j=>⟨[(20,.i .i64 j),(19,.i .i64 m),(18,ybd L),(6,.i .i64 k),(13,.i .i64 k),(12,.i .i64 n),(11,yba g.ports),(5,.i .u32 (arIn g S k j:Nat)),(1,.i .u32 S),(2,.pt (2,0) 0 0)],[(2,.one (some ⟨30,true,2,1,fun _=>[yj g.ids,yba g.ports]⟩))]⟩) (fun j=>j<=m) (fun j=>m-j) 0 (zK _) ?_ ?_
   .refine yx ?_;simp only[yba,ybd,o,f,Q,wk,go_sem,zA,zC,↓reduceIte,reduceCtorEq]
   .intro j T
    by_cases c:j<m
    .have d2:=dLt c;obtain⟨I,G⟩:=p j c;have d:=r j c;obtain⟨l,D⟩:∃l,L.getD j (0,0)=l:=⟨_,rfl⟩;rw[D]at I G d;obtain⟨t,F⟩:∃t:Nat,l.1=t:=⟨l.1.toNat,by omega⟩
     rw[F,zAJ]at G d;have u:=ybdv (s:=S) (v:=t) K;simp only[IntKind.bits]at u;have P:=x j;cases w:S.testBit t with
     | true =>
       rw[w,if_pos rfl]at d;have E:((((S>>>t)&&&1:Nat):Int)==1)=true:=by rw[beq_iff_eq];exact ykk.2 w
       have z:=yms (v:=k) (by omega)
       have q:=u32_or (a:=arIn g S k j) (b:=2^k) (by omega) (by omega)
       rw[<-d]at q;rw[zAJ]at z;simp only[IntKind.bits]at q;simp only[rgE 259 6,rgE 259 7,rgE 259 8,rgE 259 9,rgE 259 10,yba,ybd,o,f,D,d2,F,u,E,z,q,clash,go_sem,zA,zB,zD,zC,↓reduceIte,reduceCtorEq]
       repeat refine ydc ?_
       refine ybb (j+1) c (by omega) ?_
       refine yx ?_;simp only[wk,go_sem,zA,zC,↓reduceIte,reduceCtorEq];omega
     | false =>
       rw[w,if_neg (by decide)]at d
       have E:((((S>>>t)&&&1:Nat):Int)==1)=false:=by
        rw[beq_eq_false_iff_ne];intro e;rw[ykk.1 e]at w;cases w
       simp only[rgE 259 6,rgE 259 7,rgE 259 8,rgE 259 10,yba,ybd,o,f,D,d2,F,u,E,clash,go_sem,zA,zB,zD,zC,↓reduceIte,reduceCtorEq]
       repeat refine ydc ?_
       refine ybb (j+1) c (by omega) ?_
       refine yx ?_;simp only[d,wk,go_sem,zA,zC,↓reduceIte,reduceCtorEq];omega
    .obtain rfl:j=m:=by omega
     simp only[rgE 259 6,rgE 259 11,yba,ybd,o,f,zAF,clash,B,go_sem,zA,zB,↓reduceIte,reduceCtorEq]
     repeat refine ydc ?_
     refine ybb (k+1) y (by omega) ?_
     refine yx ?_;simp only[wk,go_sem,zA,zC,↓reduceIte,reduceCtorEq];omega
  .obtain rfl:k=n:=by omega
   simp only[rgE 259 3,rgE 259 12,zAF,clash,go_sem,zA,zB,↓reduceIte,reduceCtorEq];unfold arP;rw[o];exact Sim.refl _
theorem ycvu{g:Gr}(b:ybe g){S:Nat}(d:S<2^32):Returns zG 223 [grV g,.i .u32 S] (.i .u32 (arP g S:Nat)):=by
 refine Returns.of ((okG 223) _ _ ?_);have a:=yhy (yro b);rw[(ycm g).2 b]at a;have c:=ybtd b d;simp only[grV]at a c;simp only[cdE 223,rgE 223 0,rgE 223 1,grV,clash,go_sem,zA,zB,zC,↓reduceIte];refine a.use ?_;simp only[yw,rgE 223 3,clash,go_sem,zA,zB,↓reduceIte,reduceCtorEq];refine c.use ?_;simp only[go_sem];exact Sim.refl _
theorem ycrs{c:Conf}(t:c.length<=24)(o:∀v,v<c.length->1<=(c.getD v []).length/\(memV c v=0\/memV c v=1)):Returns zG 171 [ybf c,.i .i64 0] (.i .u32 (memB c c.length:Nat)):=by
 refine Returns.of ((okG 171) _ _ ?_);obtain⟨n,g⟩:∃n,c.length=n:=⟨_,rfl⟩;rw[g]at t o ⊢;simp only[cdE 171,rgE 171 0,rgE 171 1,rgE 171 2,ybf,g,clash,go_sem,zB,↓reduceIte,reduceCtorEq];refine ybk (σ:=Nat) (fun k=>⟨[(10,.i .i64 k),(9,.i .i64 n),(8,ybf c),(5,.i .u32 (memB c k:Nat)),(1,.i .i64 0)],[]⟩) (fun k=>k<=n) (fun k=>n-k) 0 (zK _) ?_ ?_
 .refine yx ?_;simp only[ybf,g,memB,ygp,wk,go_sem,zA,↓reduceIte,reduceCtorEq]
 .intro k hk
  by_cases f:k<n
  .have d1:=dLt f;obtain⟨p,j⟩:=o k f;have e:=ybyu c k;have u:memB c k<2^k:=yrh _ _;have r:2^k<2^24:=zBC (by omega) (by omega)
   unfold memV at j e;obtain⟨s,l⟩:∃s,c.getD k []=s:=⟨_,rfl⟩;rw[l]at p j e;have h:=yms (v:=k) (by omega)
   rw[zAJ]at h;rcases j with q|q
   .have w:IntKind.wrap .u32 (0*2^k)=0:=by rw[Int.zero_mul];rfl
    have m:IntKind.wrap .u32 0=0:=rfl;have d:=u32_or (a:=memB c k) (b:=0) (by omega) (by omega)
    simp only[IntKind.bits,Nat.or_zero,zCA]at d;rw[q,if_neg (by decide)]at e
    simp only[rgE 171 3,rgE 171 4,rgE 171 5,rgE 171 6,ybf,yj,g,l,d1,q,w,m,d,clash,go_sem,zBN,zA,zB,↓reduceIte,reduceCtorEq]
    repeat refine ydc ?_
    refine ybb (k+1) f (by omega) ?_
    refine yx ?_;simp only[e,wk,go_sem,zA,↓reduceIte,reduceCtorEq];omega
   .have m:IntKind.wrap .u32 1=1:=rfl;have d:=u32_or (a:=memB c k) (b:=2^k) (by omega) (by omega)
    rw[q,if_pos (by decide)]at e
    rw[<-e]at d;simp only[IntKind.bits]at d;simp only[rgE 171 3,rgE 171 4,rgE 171 5,rgE 171 6,ybf,yj,g,l,d1,q,m,h,d,clash,go_sem,zBN,zA,zB,↓reduceIte,reduceCtorEq]
    repeat refine ydc ?_
    refine ybb (k+1) f (by omega) ?_
    refine yx ?_;simp only[wk,go_sem,zA,↓reduceIte,reduceCtorEq];omega
  .obtain rfl:k=n:=by omega
   simp only[rgE 171 3,rgE 171 7,zAF,clash,go_sem,zA,zB,↓reduceIte,reduceCtorEq];exact Sim.refl _
theorem yboi{g:Gr}(c:ybe g){S:Nat}(j:S<2^32):Returns zG 170 [grV g,.i .u32 S] (.b (decide (arP g S=difB (2^g.ids.length-1) S))):=by
 refine Returns.of ((okG 170) _ _ ?_);have h:=ycvu c j;have d:=ybmv c;have k:=c.2.1;have m:=c.2.2.1;have n:2^g.ids.length<=2^24:=zAO (by omega) (by omega)
 have f:=u32_andNot (a:=2^g.ids.length-1) (b:=S) (by omega) j
 simp only[IntKind.bits]at f
 have l:∀a b:Nat,(((a:Nat):Int)==((b:Nat):Int))=decide (a=b):=fun a b=>by
  rw[zAS,beq_iff_eq,decide_eq_true_iff];omega
 simp only[grV]at h d;obtain⟨A,e⟩:∃A,2^g.ids.length-1=A:=⟨_,rfl⟩;rw[e]at d f ⊢;simp only[cdE 170,rgE 170 0,rgE 170 1,grV,clash,go_sem,zA,zB,zC,↓reduceIte,reduceCtorEq];refine h.use ?_;simp only[yw,clash,go_sem,zA,zB,↓reduceIte,reduceCtorEq];refine d.use ?_;simp only[f,l,go_sem,zA,↓reduceIte];exact Sim.refl _
end Sh
end
section
namespace Sh
open Ev Go.RowKit
theorem ycvx{a b c d t i:Nat}(f:c≠a)(g:c≠b):((c,d):Nm)=(if i=t then((a,0):Nm)else(b,i))->False:=fun e=>by
 split at e
 .exact f (congrArg Prod.fst e)
 .exact g (congrArg Prod.fst e)
theorem yctw{a b c d t i:Nat}(f:c≠a)(g:c≠b):(if i=t then((a,0):Nm)else(b,i))=((c,d):Nm)->False:=fun e=>ycvx f g e.symm
theorem ycts{a b t i j:Nat}(h:a≠b)(e:(if i=t then((a,0):Nm)else(b,i))=if j=t then((a,0):Nm)else(b,j)):i=j:=by
 by_cases c:i=t<;>by_cases d:j=t
 .omega
 .rw[if_pos c,if_neg d]at e;exact absurd (congrArg Prod.fst e) h
 .rw[if_neg c,if_pos d]at e;exact absurd (congrArg Prod.fst e).symm h
 .rw[if_neg c,if_neg d]at e;exact congrArg Prod.snd e
set_option maxHeartbeats 1000000 in
theorem yom{m M:Nat}(X:M=2^m-1)(Z:1<=m/\m<=2){c:Conf}(Y:c.length<=24)(V:∀v,v<c.length->m<=(c.getD v []).length/\(c.getD v []).length<=6):Returns zG 16 [ybf c,.i .u32 M] (ybf (prjC m c)):=by
 refine Returns.of ((okG 16) _ _ ?_)
 have C:M<2^32:=by
  have:2^m<=2^2:=zAO (by omega) Z.2
  omega
 have D:∀i,M.testBit i=decide (i<m):=fun i=>by rw[X,zBE]
 have H:(prjC m c).length=c.length:=by simp[prjC]
 have a0:∀j,(prjC m c).getD j []=prTo m c (j+1) 0 j:=fun j=>by
  rw[ysv];unfold prTo;rw[if_pos (by omega)]
 obtain⟨n,o⟩:∃n,c.length=n:=⟨_,rfl⟩;rw[o]at Y V H
 let l:Nat->Nat->Own:=fun k i=>[(12,.one (some ⟨22,false,1,n,fun j=>[irC 60 (prTo m c k i) j]⟩)),(60,irM 3 (prTo m c k i))]
 simp only[cdE 16,rgE 16 0,rgE 16 1,rgE 16 2,ybf,o,clash,go_sem,zA,zB,zC,↓reduceIte,reduceCtorEq]
 repeat refine ydc ?_
 refine ybk (σ:=Nat) (fun k=>⟨[(15,.i .i64 k),(14,.i .i64 n),(13,ybf c),(5,.os (12,0) 0 n true),(1,.i .u32 M)],l k 0⟩) (fun k=>k<=n) (fun k=>n-k) 0 (zK _) ?_ ?_
 .refine ybm [] [60] [] ?_;simp only[l,ybf,o,irC,irM,irB,ycin,wk,go_sem,zA,zC,zF,↓reduceIte,reduceCtorEq]
 .intro k hk
  by_cases u:k<n
  .have d1 := dLt u;obtain⟨S,T⟩:=V k u;have w:=fun i=>ychc (m:=m) (c:=c) (k:=k) (i:=i);have R:=fun i=>ybwf (m:=m) (c:=c) (k:=k) (i:=i);have y:=fun i=>ycdc (m:=m) (c:=c) (k:=k) (i:=i);obtain⟨s,Q⟩:∃s,c.getD k []=s:=⟨_,rfl⟩;rw[Q]at S T;simp only[Q]at w y;obtain⟨z,B⟩:∃z,s.length=z:=⟨_,rfl⟩;rw[B]at S T;simp only[B]at w y;have G:min (z:Int) 32=z:=by omega
   simp only[rgE 16 3,rgE 16 4,rgE 16 5,l,ybf,yj,o,Q,B,d1,G,clash,go_sem,zA,zB,↓reduceIte,reduceCtorEq]
   repeat refine ydc ?_
   refine ybk (σ:=Nat) (fun i=>⟨[(26,.i .i64 i),(25,.i .i64 z),(24,yj s),(6,.i .i64 k),(15,.i .i64 k),(14,.i .i64 n),(13,ybf c),(5,.os (12,0) 0 n true),(1,.i .u32 M)],l k i⟩) (fun i=>i<=z) (fun i=>z-i) 0 (zK _) ?_ ?_
   .refine yx ?_;simp only[l,ybf,yj,o,B,irM,Nat.sub_zero,wk,go_sem,zA,zC,↓reduceIte,reduceCtorEq];exact⟨fun _ _ _ _ e=>e,fun i _=>ybdp [] rfl rfl,fun i b a=>⟨b,a,yot rfl a (yqe a)⟩⟩
   .intro i U
    by_cases h:i<z
    .have d2 := dLt h;have p:=ybdv (s:=M) (v:=i) C;simp only[IntKind.bits]at p;have a:=D i;obtain⟨x,J⟩:∃x,s.getD i 0=x:=⟨_,rfl⟩
     by_cases t:i<m
     .rw[decide_eq_true t]at a;have A:((((M>>>i)&&&1:Nat):Int)==1)=true:=by rw[beq_iff_eq];exact ykk.2 a
      have d:=w i t h;rw[J]at d;have g:∀j,¬j=k->prTo m c k (i+1) j=prTo m c k i j:=fun j O=>ybsl O _;have P:=ycmc m c k i k;obtain⟨f,N⟩:∃f,prTo m c k i=f:=⟨_,rfl⟩;obtain⟨I,r⟩:∃f,prTo m c k (i+1)=f:=⟨_,rfl⟩;rw[N]at d g P;rw[r]at d g
      by_cases q:(f k).length=0
      .simp only[rgE 16 6,rgE 16 7,rgE 16 8,rgE 16 9,rgE 16 10,l,ybf,yj,d2,J,N,p,A,irC,irM,irB,q,clash,go_sem,zA,zB,zD,zC,zBG,↓reduceIte,reduceCtorEq]
       repeat refine ydc ?_
       refine ybb (i+1) h (by omega) ?_
       refine ybm [(60,fun j=>if j=k then(44,0)else(60,j))] [] [] ?_
       simp only[o,B,r,wk,go_sem,zA,zC,↓reduceIte,reduceCtorEq];refine⟨⟨fun i _=>ycvx (by decide) (by decide),fun i _=>yctw (by decide) (by decide),fun i _ j _=>ycts (by decide)⟩,by omega,fun i U=>?_,fun i b a=>?_⟩
       .refine ybpx (F:=60) (e:=3) (f:=I) [(60,fun j=>if j=k then(44,0)else(60,j))] ?_ rfl
        by_cases e:i=k
        .subst e;have L:(I i).length=1:=by rw[d,zL,q];rfl
         simp only[L,go_sem,↓reduceIte,reduceCtorEq]
        .simp only[g i e,e,go_sem,↓reduceIte]
       .by_cases e:i=k
        .subst e;rw[d]at a;simp only[go_sem,zA,↓reduceIte];exact yot (e:=3) rfl a (ycul q rfl)
        .rw[g i e]at a;simp only[e,go_sem,zA,↓reduceIte];exact⟨_,a,yot (e:=3) rfl a (yqe (e:=3) a)⟩
      .have q0:0<(f k).length:=by omega
       simp only[rgE 16 6,rgE 16 7,rgE 16 8,rgE 16 9,rgE 16 10,l,ybf,yj,d2,J,N,p,A,irC,irM,irB,q,clash,go_sem,zA,zB,zD,zC,↓reduceIte,reduceCtorEq]
       repeat refine ydc ?_
       refine ybb (i+1) h (by omega) ?_
       refine ybm [(60,fun j=>if j=k then(44,0)else(60,j))] [] [] ?_
       simp only[o,B,r,wk,go_sem,zA,zC,↓reduceIte,reduceCtorEq];refine⟨⟨fun i _=>ycvx (by decide) (by decide),fun i _=>yctw (by decide) (by decide),fun i _ j _=>ycts (by decide)⟩,by omega,fun i U=>?_,fun i b a=>?_⟩
       .refine ybpx (F:=60) (e:=3) (f:=I) [(60,fun j=>if j=k then(44,0)else(60,j))] ?_ rfl
        by_cases e:i=k
        .subst e;have L:(I i).length=(f i).length+1:=by rw[d,zL];rfl
         have W:¬(f i).length+1=0:=by omega
         simp only[L,W,go_sem,↓reduceIte]
        .simp only[g i e,e,go_sem,↓reduceIte]
       .by_cases e:i=k
        .subst e;rw[d]at a;simp only[go_sem,zA,↓reduceIte];exact yot (e:=3) rfl a (yclp (g':=fun i=>zBA 1 (zBB (i*1) [.i .i64 x])) rfl (fun _ _=>rfl) rfl)
        .rw[g i e]at a;simp only[e,go_sem,zA,↓reduceIte];exact⟨_,a,yot (e:=3) rfl a (yqe (e:=3) a)⟩
     .rw[decide_eq_false t]at a
      have A:((((M>>>i)&&&1:Nat):Int)==1)=false:=by
       rw[beq_eq_false_iff_ne];intro e;rw[ykk.1 e]at a;cases a
      have K:prTo m c k (i+1)=prTo m c k i:=funext fun j=>R i (by omega) j
      simp only[rgE 16 6,rgE 16 7,rgE 16 8,rgE 16 10,l,ybf,yj,d2,J,p,A,clash,go_sem,zA,zB,↓reduceIte,reduceCtorEq]
      repeat refine ydc ?_
      refine ybb (i+1) h (by omega) ?_
      refine yx ?_;simp only[o,B,irM,K,wk,go_sem,zA,zC,↓reduceIte,reduceCtorEq];exact⟨fun _ _ _ _ e=>e,by omega,fun i _=>ybdp [] rfl rfl,fun i b a=>⟨b,a,yot rfl a (yqe a)⟩⟩
    .obtain rfl:i=z:=by omega
     have K:prTo m c k i=prTo m c (k+1) 0:=funext fun j=>y i (zAA _) j;simp only[rgE 16 6,rgE 16 11,l,zAF,K,clash,go_sem,zA,zB,↓reduceIte,reduceCtorEq]
     repeat refine ydc ?_
     refine ybb (k+1) u (by omega) ?_
     refine yx ?_;simp only[ybf,yj,o,irM,wk,go_sem,zA,zC,↓reduceIte,reduceCtorEq];exact⟨fun _ _ _ _ e=>e,by omega,fun i _=>ybdp [] rfl rfl,fun i b a=>⟨b,a,yot rfl a (yqe a)⟩⟩
  .obtain rfl:k=n:=by omega
   have E:∀j,j<k->prTo m c k 0 j=(prjC m c).getD j []:=fun j O=>by
    rw[ysv];unfold prTo;rw[if_pos O]
   simp only[rgE 16 3,rgE 16 12,l,zAF,go_sem,zA,zB,↓reduceIte,reduceCtorEq];refine⟨fun q A=>?_,?_⟩
   .unfold irC
    by_cases e:(prTo m c k 0 q).length=0
    .simp only[e,go_sem,↓reduceIte]
    .simp only[e,irM,irB,go_sem,zA,↓reduceIte]
   .rw[H];refine yel fun q A=>?_;rw[<-E q A];unfold irC
    by_cases e:(prTo m c k 0 q).length=0
    .simp only[e,SimL,yj,go_sem,↓reduceIte];exact yvf
    .simp only[e,irM,irB,SimL,yj,go_sem,zA,↓reduceIte];exact Sim.refl _
end Sh
end
section
namespace Sh
open Ev Go.RowKit
def ycwj(l:List Nat)(i:Nat):Int:=IntKind.wrap .u32 ((zAT 32 (l.getD ((i%l.length:Nat):Int).toNat 0:Nat)&&&zAT 32 16777215).toNat:Nat)
def ycxx(l:List Nat)(i:Nat):Int:=IntKind.wrap .u32 ((zAT 32 (IntKind.wrap .u32 ((zAT 32 (IntKind.wrap .u32 (ycwj l i*2^(i/l.length%24)))|||zAT 32 ((ycwj l i).fdiv (2^(24-((i/l.length%24:Nat):Int)).toNat))).toNat:Nat))&&&zAT 32 16777215).toNat:Nat)
def ybkn(l:List Nat)(i:Nat):Nat:=if l.length=0 then 4294967295 else(ycxx l i).toNat
theorem ybok(l:List Nat)(y:∀k,l.getD k 0<2^32)(n:Nat)(B:n<=1000):Ct zG 12 [usV l,.i .i64 n] fun r=>∃ws:List Nat,(ws.length=n/\(∀k,ws.getD k 0<2^32)/\∀k,k<ws.length->ws.getD k 0=ybkn l k)/\Sim r (usV ws):=by
 refine(okG 12) _ _ ?_;simp only[cdE 12,rgE 12 0,rgE 12 1,rgE 12 2,usV,go_sem,↓reduceIte];refine ybk (σ:=List Nat) (fun ws=>⟨[(6,.i .i64 ws.length),(1,.i .i64 n),(0,usV l),(5,.os (100,0) 0 ws.length true)],[(100,.one (some ⟨27,false,1,ws.length,fun k=>[.i .u32 (ws.getD k 0:Nat)]⟩))]⟩) (fun ws=>ws.length<=n/\(∀k,ws.getD k 0<2^32)/\∀k,k<ws.length->ws.getD k 0=ybkn l k) (fun ws=>n-ws.length) [] ⟨zK _,fun k=>by simp,fun k hk=>absurd hk (zAI k)⟩ ?_ ?_
 .refine ybm [] [100] [] ?_;simp only[usV,wk,go_sem,zA,↓reduceIte,reduceCtorEq];exact⟨(100,0),rfl,rfl,rfl⟩
 .rintro ws ⟨x,c,m⟩
  have a:∀z,z=ybkn l ws.length->∀k,k<(ws++[z]).length->(ws++[z]).getD k 0=ybkn l k:=fun z t k hk=>by
   rw[yqd];split
   .exact m k (by assumption)
   .rw[zL,zAL]at hk;obtain rfl:k=ws.length:=by omega
    rw[if_pos rfl];exact t
  simp only[rgE 12 3,rgE 12 5,usV,go_sem,zA,zB,↓reduceIte,reduceCtorEq];refine⟨fun h=>⟨fun u=>?_,fun u=>?_⟩,fun h=>?_⟩
  .simp only[rgE 12 4,rgE 12 6,splice,go_sem,zA,zB,zD,zC,↓reduceIte,reduceCtorEq];refine⟨⟨by omega,by omega⟩,ikw (by omega) (by omega),?_⟩
   refine ybb (ws++[4294967295]) ⟨by simp;omega,fun k=>?_,a _ (by unfold ybkn;rw[if_pos (by omega)])⟩ (by simp;omega) ?_
   .rw[yqd];split
    .exact c k
    .split<;>decide
   refine ybm [(100,fun i=>(19,i))] [] [] ?_;simp only[zL,wk,go_sem,zA,zC,↓reduceIte,reduceCtorEq];refine⟨by omega,fun i w=>?_⟩
   rw[yqd]
   by_cases q:i<ws.length
   .simp only[if_pos q];simp only[wk,go_sem,reduceCtorEq]
   .obtain rfl:i=ws.length:=by omega
    simp only[if_neg q,zAK,zBK];simp only[wk,go_sem,↓reduceIte,reduceCtorEq];rfl
  .simp only[rgE 12 7,rgE 12 8,clash,go_sem,zA,zB,↓reduceIte,reduceCtorEq];have g:0<l.length:=by omega
   have t1:(ws.length:Int).tmod (l.length:Int)=((ws.length%l.length:Nat):Int):=(zCC _ _).symm;have t2:(ws.length:Int).tdiv (l.length:Int)=((ws.length/l.length:Nat):Int):=(Int.ofNat_tdiv _ _).symm;have t3:((ws.length/l.length:Nat):Int).tmod 24=((ws.length/l.length%24:Nat):Int):=(zCC _ 24).symm;have s:=zCI ws.length g;have b:=Nat.div_le_self ws.length l.length;obtain⟨D,o⟩:∃D,ws.length/l.length=D:=⟨_,rfl⟩
   rw[o]at t2 t3 b;obtain⟨K,d⟩:∃K,D%24=K:=⟨_,rfl⟩;have p:K<24:=by rw[<-d];exact zCI _ (by decide)
   have t4:IntKind.wrap .u64 (K:Int)=K:=by unfold IntKind.wrap;simp[IntKind.bits,IntKind.signed];omega
   simp only[t1,t2,t3,d,t4]
   generalize v:IntKind.wrap .u32 _=A
   refine⟨by omega,⟨by omega,by omega⟩,⟨by omega,ikw (by omega) (by omega)⟩,by decide,?_⟩
   simp only[rgE 12 4,rgE 12 9,splice,go_sem,zA,zB,zD,zC,↓reduceIte,reduceCtorEq]
   generalize f:IntKind.wrap .u32 ((BitVec.toNat _:Nat):Int)=Z
   have t:0<=Z/\Z<2^32:=by rw[<-f];exact wrap32 _
   obtain⟨z,rfl⟩:∃z:Nat,Z=z:=⟨Z.toNat,by omega⟩
   refine⟨⟨by omega,by show _<((32:Nat):Int);omega⟩,⟨by simp[IntKind.min,IntKind.signed];omega,by simp[IntKind.max,IntKind.bits,IntKind.signed];omega⟩,⟨by omega,by show _<((32:Nat):Int);omega⟩,⟨by omega,by omega⟩,ikw (by omega) (by omega),?_⟩
   have j:z=ybkn l ws.length:=by
    unfold ybkn;rw[if_neg (by omega)]
    have e:ycxx l ws.length=z:=by
     unfold ycxx ycwj;rw[o,d];rw[<-v]at f;exact f
    rw[e,zAJ]
   refine ybb (ws++[z]) ⟨by simp;omega,fun k=>?_,a _ j⟩ (by simp;omega) ?_
   .rw[yqd];split
    .exact c k
    .split<;>omega
   refine ybm [(100,fun i=>(46,i))] [] [] ?_;simp only[zL,wk,go_sem,zA,zC,↓reduceIte,reduceCtorEq];refine⟨by omega,fun i w=>?_⟩
   rw[yqd]
   by_cases q:i<ws.length
   .simp only[if_pos q];simp only[wk,go_sem,reduceCtorEq]
   .obtain rfl:i=ws.length:=by omega
    simp only[if_neg q,zAK,zBK];simp only[wk,go_sem,↓reduceIte,reduceCtorEq]
  .simp only[rgE 12 10,go_sem,zA,zB,↓reduceIte,reduceCtorEq];exact⟨ws,⟨by omega,c,m⟩,Sim.refl _⟩
end Sh
end
section
open Go.RowKit
def layers(g:Gr)(a D:Nat):List Int:=(zBH (D-1)).foldl (fun R d=>stepD g R (d+1)) (start g a)
end
section
open Go.RowKit
end
section
namespace Sh
open Ev Go.RowKit
theorem yut{n d:Nat}{c:Conf}(h:ConfIn n d c):ybhg c:=fun s a x b=>by
 have:=(h.row s a).2 x b;unfold InB at this;exact yhd (by omega)
end Sh
end
section
def ypb(ls:List (Int×Int))(b:Int):Bool:=ls.any fun l=>decide (l.1=b)
namespace Sh
open Ev Go.RowKit
theorem ybsh{ids:List Int}{ports:List (List (Int×Int))}{a b:Nat}(u:a<ports.length)(g:(ports.getD a []).length<=100000) :
 Returns zG 185 [.ag [yj ids,yba ports],.i .i64 a,.i .i64 b] (.b (ypb (ports.getD a []) b)):=by
 refine Returns.of ((okG 185) _ _ ?_);obtain⟨n,t⟩:∃n,ports.length=n:=⟨_,rfl⟩;obtain⟨L,o⟩:∃L,ports.getD a []=L:=⟨_,rfl⟩;rw[o]at g ⊢;obtain⟨m,s⟩:∃m,L.length=m:=⟨_,rfl⟩;simp only[cdE 185,rgE 185 0,rgE 185 1,go_sem,zB,zC,↓reduceIte];refine ybk (σ:=Nat) (fun k=>⟨[(7,.i .i64 k),(3,.pt (3,0) 0 0),(1,.i .i64 a),(2,.i .i64 b)],[(3,.one (some ⟨30,true,2,1,fun _=>[yj ids,yba ports]⟩))]⟩) (fun k=>k<=m/\∀j,j<k->(L.getD j (0,0)).1≠b) (fun k=>m-k) 0 ⟨zK _,fun j e=>absurd e (zAI j)⟩ ?_ ?_
 .refine yx ?_;simp only[go_sem,wk,go_sem,zA,zC,↓reduceIte,reduceCtorEq]
 .rintro k ⟨hk,c⟩;simp only[rgE 185 2,rgE 185 3,rgE 185 4,rgE 185 5,rgE 185 6,yba,ybd,t,o,s,go_sem,zA,zB,zD,↓reduceIte,reduceCtorEq];refine⟨⟨by omega,by omega⟩,fun r=>⟨⟨by omega,by omega⟩,⟨by omega,by omega⟩,fun d=>?_,fun h=>⟨ikw (by omega) (by omega),?_⟩⟩,fun p=>?_⟩
  .have f:k<L.length:=by omega
   have:ypb L b=true:=List.any_eq_true.2 ⟨L[k],zW _,by rw[getD_at f]at d;exact decide_eq_true d⟩
   rw[this];exact Sim.refl _
  .refine ybb (k+1) ⟨by omega,fun j e=>?_⟩ (by omega) ?_
   .by_cases q:j=k
    .rw[q];exact h
    .exact c j (by omega)
   refine yx ?_;simp only[wk,go_sem,zA,zC,↓reduceIte,reduceCtorEq];omega
  .have:ypb L b=false:=List.any_eq_false.2 fun l g d=>by
    obtain⟨j,e,rfl⟩:=zAR g;have:=c j (by omega)
    rw[getD_at e]at this;exact this (of_decide_eq_true d)
   rw[this];exact Sim.refl _
end Sh
end
section
namespace Sh
open Go Ev
theorem Cm.ct{P:Program}{g:FuncId}{args:List SV}{Q:SV->Own->Prop}{R:SV->Prop}(h:Cm P g [] [] args Q)(a:∀r A,Q r A->vok A 5 r/\R (view A 5 r)):Ct P g args R:=by
 intro G m S W C p
 have I:Conc m.next G om0 ⟨[],[]⟩ ⟨0,.leaf⟩ (enterM m) :=
  ⟨W,zAA _,zAA _,C,fun B b h=>(by cases h),fun B _=>rfl,fun B γ k z k' z' h=>(by cases h),fun B k z h=>(by cases h),fun t v N=>(by cases N)⟩
 obtain⟨v,j,r,A,X,U,s0,t2,J,l1,l2,_,_,Z⟩:=h m.next G om0 ⟨0,.leaf⟩ (enterM m) S I p
 obtain⟨r3,r4⟩:=a r A Z
 have K:yca P (.call g S m) (.call v j):=by
  obtain⟨n,b,l⟩:=m;exact yca.relow s0
 have D:m.next<=j.low:=t2.low
 have e:∀{i x},m.b.get i=some x->i<m.next:=fun {i x} q=>W i x q
 have u:∀H:AM,Le X H->(∀B k z,U B=some (some (k,z))->∀b,j.b.get k=some b->H k=some b)->RV H om0 (view A 5 r) v:=fun H E F=>yky t2 E F J r3
 have L:yca P (.call g S m) (.call v ⟨j.next,yif m.b j.b,j.low⟩):=by
  intro O;obtain⟨ext,s⟩:=K O
  have d:∀{i x},(yif m.b j.b).get i=some x->m.b.get i=some x\/j.b.get i=some x:=fun {i x} q=>by
   rw[ydw]at q;split at q
   .rename_i y hy;cases q;exact .inl hy
   .exact .inr q
  refine⟨⟨ext.next,fun i b a=>?_,fun i b E F a=>?_,fun i b a=>?_⟩,fun φ M w o hR V ha hf=>?_⟩
  .rcases d a with q|q
   .exact .inl ⟨b,q⟩
   .exact ext.dom i b q
  .rcases d a with q|q
   .exact q
   .exact ext.old i b E F q
  .rcases d a with q|q
   .exact zAD (e q) ext.next
   .exact ext.wf i b q
  .refine(s φ M w o hR V ha hf).mono ?_;rintro e' w' ⟨v',rfl,T,Y,c,N⟩;refine⟨v',rfl,T,Y,⟨c.le,c.out,c.rel,fun i b a=>?_,c.frame,c.wg⟩,N⟩;rcases d a with q|q
   .have hi:=e q;rw[c.frame i (fun z=>by omega) (.inr (zAD hi D))]
    exact V i b q
   .exact c.sub i b q
 have f:∀{i},m.next<=i->m.b.get i=none:=fun {i} q=>by
  cases hh:m.b.get i with
  |none=>rfl
  |some x=>have:=e hh;omega
 refine⟨_,_,view A 5 r,L,D,fun i b a=>?_,r4,u _ (fun i b a=>?_) (fun B k z hk b a=>?_)⟩
 .show(yif m.b j.b).get i=some b;rw[ydw,a]
 .unfold frsh;rcases l2 i b a with q|q
  .rw[if_neg (by have:=e (C i b q);omega)];exact q
  .rw[if_pos q];show(yif m.b j.b).get i=some b;rw[ydw,f q];exact t2.sub i b a
 .unfold frsh;have:=(t2.apart B k z hk).2.1;rw[if_pos this];show(yif m.b j.b).get k=some b;rw[ydw,f this];exact a
theorem Cm.weak {P:Program}{g:FuncId}{o:Own}{args:List SV}{Q R:SV->Own->Prop}(h:Cm P g [] o args Q)
 (I:∀r l,Q r l->∃j i,Weak [] ⟨[(0,r)],l⟩ ⟨[(0,j)],i⟩/\(cln (live i) 5 j=true/\allQ (fun p=>ybz (live i) p.2) i)/\R j i):Cm P g [] o args R:=by
 intro w G U f m T H d;obtain⟨v,y,r,l,B,n,S,t2,q,M,N,_,_,E⟩:=h w G U f m T H d;obtain⟨j,i,J,k,F⟩:=I r l E
 have t3:Conc w B n ⟨[(0,r)],l⟩ ⟨1,tOf [v]⟩ y:=⟨t2.wf,t2.low,t2.nxt,t2.sub,t2.own,t2.dom,t2.inj,t2.apart,fun t x a=>by
  unfold look at a;split at a
  .rename_i e
   cases a
   exact⟨v,by rw[ycx];simp[<-e],q⟩
  .cases a⟩
 obtain⟨A,D,K,L,c,_⟩:=J w B n _ y t3;obtain⟨u,C,O⟩:=c.fr 0 j rfl
 have e:u=v:=by
  rw[ycx]at C
  simpa using C.symm
 subst e
 exact⟨u,y,j,i,D,A,S,⟨c.wf,c.low,c.nxt,c.sub,c.own,c.dom,c.inj,c.apart,fun t x a=>(by cases a)⟩,O,fun x b a=>K x b (M x b a),fun x b a=>by
  rcases L x b a with z|z
  .exact N x b z
  .exact .inr z,fun V s=>absurd s zAG,⟨k.1,k.2,trivial⟩,F⟩
end Sh
end
section
structure NetR where
 n:Int
 links:List Int
 weights:List Int
 ids:List Int
 apart:Bool
 back:Bool
def NetR.ok(x:NetR):Prop:=Sh.inK .i64 x.n/\(∀k,Sh.inK .i64 (x.links.getD k 0))/\(∀k,Sh.inK .i64 (x.weights.getD k 0))/\(∀k,Sh.inK .i64 (x.ids.getD k 0))
def ybgl(x:NetR)(ids:List Int):Prop:=x.ids=[]->∀y∈ids,y<(ids.length:Int)
theorem ybms(a r:Nat)(d:r<=256):((zBH r).map fun i=>(((a+i)%256:Nat):Int)).Nodup:=by
 unfold List.Nodup;rw[zAW];refine List.Pairwise.imp_of_mem (R:=(· < ·)) (fun {i j} b c h=>?_) List.pairwise_lt_range;have b:=List.mem_range.1 b;have c:=List.mem_range.1 c;intro e;omega
theorem ybqu{a r:Nat}{l:List Int}(c:r<=256)(h:∀i,i<r->(((a+i)%256:Nat):Int)∈l):r<=l.length:=by
 have:=List.Nodup.length_le_of_subset (ybms a r c) (l₂:=l) fun x d=>by
  obtain⟨i,b,rfl⟩:=List.mem_map.1 d;exact h i (List.mem_range.1 b)
 simpa using this
namespace Sh
open Ev Go.RowKit
def netC(x:NetR):List SV:=[.i .i64 x.n,yj x.links,yj x.weights,yj x.ids,.b x.apart,.b x.back]
theorem wrap64_in(z:Int):inK .i64 (IntKind.wrap .i64 z):=by
 unfold inK;have a:IntKind.i64.min = -9223372036854775808:=rfl;have b:IntKind.i64.max=9223372036854775807:=rfl;have c:=Int.emod_nonneg z (show(18446744073709551616:Int)≠0 by decide)
 have d:=Int.emod_lt_of_pos z (show(0:Int)<18446744073709551616 by decide)
 rw[a,b]
 have e:IntKind.wrap .i64 z=if z%18446744073709551616>=9223372036854775808 then z%18446744073709551616-18446744073709551616 else z%18446744073709551616:=by
  show(if (true&&decide (z%18446744073709551616>=9223372036854775808))=true then z%18446744073709551616-18446744073709551616 else z%18446744073709551616)=_
  simp only[zY,decide_eq_true_eq]
 rw[e];split<;>omega
theorem ycjj{x:NetR}(hx:x.ok){most:Nat}(I:1<=most/\most<=24) :
 Cm zG 100 [] [] [.ag (netC x),.i .i64 most] fun r o=>∃ids:List Int,(1<=ids.length/\ids.length<=most/\(ids.length:Int)=1+ycf (IntKind.wrap .i64 (x.n-1)) most/\ybgl x ids)/\(∀y∈ids,0<=y/\y<=255)/\ids.Nodup/\r = .ag [.os (148,0) 0 ids.length true,.os (17,0) 0 ids.length true] /\
  o=[(17,.one (some ⟨70,false,1,ids.length,fun _=>[.a (.slice none 0 0)]⟩)),(148,.one (some ⟨3,false,1,ids.length,fun k=>[.i .i64 (ids.getD k 0)]⟩))]:=by
 refine(okGM 100) [] [] _ _ _ ?_;obtain⟨a2,a3,a4,N⟩:=hx;have w:=ydx (v:=IntKind.wrap .i64 (x.n-1)) (m:=(most:Int)) (by omega)
 obtain⟨k,hk⟩:∃k:Nat,ycf (IntKind.wrap .i64 (x.n-1)) most=k:=zT w.1;have O:=ydz (IntKind.wrap .i64 (x.n-1)) most (by omega) (wrap64_in _)
 rw[hk]at O w;obtain⟨n,Z⟩:∃n:Nat,(1:Int)+(k:Int)=(n:Int):=⟨1+k,by omega⟩
 have L:1<=n/\n<=most/\(n:Int)=1+ycf (IntKind.wrap .i64 (x.n-1)) most:=by omega
 simp only[cdE 100,rgE 100 0,rgE 100 1,netC,go_sem,zA,zB,zD,zC,↓reduceIte,reduceCtorEq];refine O.use ?_;simp only[yw,rgE 100 2,rgE 100 3,Z,clash,go_sem,zA,zB,zC,↓reduceIte,reduceCtorEq];refine⟨ikw (by omega) (by omega),⟨by omega,by omega,by omega⟩,?_⟩
 refine ybk (σ:=List Int) (fun l=>⟨[(7,.i .i64 l.length),(5,.i .i64 n),(2,.pt (2,0) 0 0),(6,.pt (6,0) 0 0),(4,.pt (4,0) 0 0)],
  [(2,.one (some ⟨24,true,6,1,fun _=>netC x⟩)),(4,.one (some ⟨30,true,2,1,fun _=>[.a (.slice none 0 0),.a (.slice none 0 0)]⟩)),
   (6,.one (some ⟨30,true,2,1,fun _=>[.os (148,0) 0 l.length true,.os (17,0) 0 n true]⟩)),(17,.one (some ⟨70,false,1,n,fun _=>[.a (.slice none 0 0)]⟩)),
   (148,.one (some ⟨3,false,1,l.length,fun k=>[.i .i64 (l.getD k 0)]⟩))]⟩)
  (fun l=>l.length<=n/\(∀y∈l,0<=y/\y<=255)/\l.Nodup/\ybgl x l) (fun l=>n-l.length) [] ⟨zK _,fun y d=>(zAG d).elim,zBT,fun _ y d=>(zAG d).elim⟩ ?_ ?_
 .refine ybm [] [148] [] ?_;simp only[netC,wk,go_sem,zA,zC,zF,↓reduceIte,reduceCtorEq];exact fun i _=>⟨(148,0),rfl,rfl,rfl⟩
 .rintro l ⟨X,A,B,C⟩;obtain⟨v,h⟩:∃v,l.length=v:=⟨_,rfl⟩;rw[h]at X;have T:=at_ret x.ids v;have t:=ydx (v:=atP x.ids v) (m:=256) (by omega)
  obtain⟨a,U⟩:∃a:Nat,ycf (atP x.ids v) 256=a:=zT t.1;have p:=ydz (atP x.ids v) 256 (by omega) (N v)
  rw[U]at p t;simp only[rgE 100 4,rgE 100 6,rgE 100 7,rgE 100 13,netC,h,splice,clash,go_sem,zA,zB,zD,↓reduceIte,reduceCtorEq];refine⟨fun Y=>?_,fun W=>?_⟩
  .refine T.use ?_;simp only[yw,clash,go_sem,zA,zB,↓reduceIte,reduceCtorEq];refine p.use ?_
   refine ybk (σ:=Nat×Nat) (fun q=>⟨[(9,.i .i64 q.2),(8,.i .i64 ((a+q.1)%256:Nat)),(7,.i .i64 v),(5,.i .i64 n),(2,.pt (2,0) 0 0),(6,.pt (6,0) 0 0),(4,.pt (4,0) 0 0)],
    [(2,.one (some ⟨24,true,6,1,fun _=>netC x⟩)),(4,.one (some ⟨30,true,2,1,fun _=>[.a (.slice none 0 0),.a (.slice none 0 0)]⟩)),
     (6,.one (some ⟨30,true,2,1,fun _=>[.os (148,0) 0 v true,.os (17,0) 0 n true]⟩)),(17,.one (some ⟨70,false,1,n,fun _=>[.a (.slice none 0 0)]⟩)),
     (148,.one (some ⟨3,false,1,v,fun k=>[.i .i64 (l.getD k 0)]⟩))]⟩)
    (fun q=>q.2<=v/\(∀i,i<q.1->(((a+i)%256:Nat):Int)∈l)/\q.1<=256/\∀j,j<q.2->l.getD j 0≠(((a+q.1)%256:Nat):Int)) (fun q=>(v-q.1)*(v+2)+(v-q.2)) (0,0) ⟨zK _,fun i K=>absurd K (zAI i),by omega,fun j f=>absurd f (zAI j)⟩ ?_ ?_
   .refine yx ?_;simp only[netC,wk,go_sem,zA,zC,↓reduceIte,reduceCtorEq];rw[Nat.mod_eq_of_lt (by omega)]
   .rintro⟨r,u⟩ ⟨S,F,c,g⟩;obtain⟨b,s⟩:∃b,(a+r)%256=b:=⟨_,rfl⟩;have J:b<256:=by omega
    simp only[rgE 100 8,rgE 100 9,rgE 100 10,rgE 100 11,rgE 100 12,rgE 100 5,netC,s,splice,clash,go_sem,zA,zB,zD,zC,↓reduceIte,reduceCtorEq];have S:u<=v:=S;have F:∀i,i<r->(((a+i)%256:Nat):Int)∈l:=F;have c:r<=256:=c;have g:∀j,j<u->l.getD j 0≠(b:Int):=fun j f=>by rw[<-s];exact g j f
    have a1:r<=v:=by rw[<-h];exact ybqu c F
    refine⟨fun Q=>⟨⟨by omega,by omega⟩,by omega,fun V=>⟨ikw (by omega) (by omega),by decide,ikw (by omega) (by omega),?_⟩,fun M=>⟨ikw (by omega) (by omega),?_⟩⟩,fun P=>?_⟩
    .have D:(b:Int)∈l:=by
      rw[<-V,getD_at (show u<l.length by omega)]
      exact zW _
     have G:∀i,i<r+1->(((a+i)%256:Nat):Int)∈l:=fun i K=>by
      by_cases q:i=r
      .rw[q,s];exact D
      .exact F i (by omega)
     have R:r+1<=v:=by rw[<-h];exact ybqu (by omega) G
     refine ybb (r+1,0) ⟨zK _,G,by show r+1<=256;omega,fun j f=>absurd f (zAI j)⟩ ?_ ?_
     .show(v-(r+1))*(v+2)+(v-0)<(v-r)*(v+2)+(v-u);obtain⟨m,I⟩:∃m,v-r=m+1:=⟨v-r-1,by omega⟩
      rw[show v-(r+1)=m by omega,I,Nat.succ_mul]
      generalize m*(v+2)=z
      omega
     .refine yx ?_;simp only[wk,go_sem,zA,zC,↓reduceIte,reduceCtorEq];refine⟨by omega,?_⟩
      rw[Int.tmod_eq_emod_of_nonneg (by omega)]
      omega
    .refine ybb (r,u+1) ⟨by show u+1<=v;omega,F,c,fun j f=>?_⟩ ?_ ?_
     .show l.getD j 0≠(((a+r)%256:Nat):Int);rw[s]
      by_cases q:j=u
      .rw[q];exact M
      .exact g j (by have:j<u+1:=f;omega)
     .show(v-r)*(v+2)+(v-(u+1))<(v-r)*(v+2)+(v-u)
      generalize (v-r)*(v+2)=z
      omega
     .refine yx ?_;simp only[s,wk,go_sem,zA,zC,↓reduceIte,reduceCtorEq];omega
    .obtain rfl:u=v:=by omega
     refine⟨⟨by omega,by omega⟩,ikw (by omega) (by omega),?_⟩
     have E:(b:Int)∉l:=fun I=>by
      obtain⟨j,f,e⟩:=zAR I;exact g j (by omega) (by rw[getD_at f,e])
     refine ybb (l++[(b:Int)]) ⟨by rw[zL,zAL];omega,fun y d=>?_,?_,?_⟩ (by rw[zL,zAL];omega) ?_
     .rcases List.mem_append.1 d with d|d
      .exact A y d
      .rw[List.mem_singleton.1 d];omega
     .rw[List.nodup_append];exact⟨B,by simp,fun y d z hz=>by rw[List.mem_singleton.1 hz];exact fun e=>E (e▸d)⟩
     .intro H y d;rw[zL,zAL];rcases List.mem_append.1 d with d|d
      .have:=C H y d;omega
      .have a0:a=0:=by
        have:ycf (atP x.ids u) 256=0:=by rw[H];rfl
        omega
       rw[List.mem_singleton.1 d];omega
     refine ybm [(148,fun i=>(48,i))] [] [] ?_;simp only[zL,h,wk,go_sem,zA,zC,↓reduceIte,reduceCtorEq];refine⟨by omega,fun i K=>?_⟩
     rw[yqd,h]
     by_cases q:i<u
     .simp only[if_pos q];simp only[wk,go_sem,reduceCtorEq]
     .obtain rfl:i=u:=by omega
      simp only[if_neg q,zAK];simp only[wk,go_sem,↓reduceIte,reduceCtorEq]
  .obtain rfl:v=n:=by omega
   simp only[ygo,go_sem];refine⟨.ag [.os (148,0) 0 v true,.os (17,0) 0 v true],[(17,.one (some ⟨70,false,1,v,fun _=>[.a (.slice none 0 0)]⟩)),(148,.one (some ⟨3,false,1,v,fun k=>[.i .i64 (l.getD k 0)]⟩))],?_,?_,l,⟨by omega,by omega,by rw[h];exact L.2.2,C⟩,A,B,by rw[h],by rw[h]⟩
   .refine yx ?_;simp only[wk,go_sem,zA,zC,↓reduceIte,reduceCtorEq]
   .simp only[ybz,yeg,wk,go_sem,zA,↓reduceIte]
theorem ybpm{x:NetR}(j:x.ok){most:Nat}(g:1<=most/\most<=24) :
 Cm zG 100 [] [] [.ag (netC x),.i .i64 most] fun r o=>∃ids:List Int,(1<=ids.length/\ids.length<=most/\(ids.length:Int)=1+ycf (IntKind.wrap .i64 (x.n-1)) most/\ybgl x ids)/\(∀y∈ids,0<=y/\y<=255)/\ids.Nodup/\r = .ag [yj ids,.os (17,0) 0 ids.length true] /\
  o=[(17,.one (some ⟨70,false,1,ids.length,fun _=>[.a (.slice none 0 0)]⟩))] :=
 (ycjj j g).weak fun r k ⟨ids,d,e,f,b,c⟩=>by
   subst b c;obtain⟨v,h⟩:∃v,ids.length=v:=⟨_,rfl⟩;refine⟨.ag [yj ids,.os (17,0) 0 ids.length true],[(17,.one (some ⟨70,false,1,ids.length,fun _=>[.a (.slice none 0 0)]⟩))],?_,?_,ids,d,e,f,rfl,rfl⟩
   .refine ybm [] [] [(148,0)] ?_;simp only[yj,h,wk,go_sem,zA,zC]
   .simp only[ybz,yeg,wk,go_sem]
end Sh
end
section
def yjh(back:Bool)(g:Gr)(a b:Nat)(w:Int):Gr:=if a=b\/ypb (g.ports.getD a []) b=true then g else ycw back g a b w
namespace Sh
open Ev Go.RowKit
def rowO(l:List (Int×Int)):OB:=⟨97,false,2,l.length,fun k=>[.i .i64 (l.getD k (0,0)).1,.i .i64 (l.getD k (0,0)).2]⟩
def ycr(ports:List (List (Int×Int))):Own:=[(211,.one (some ⟨70,false,1,ports.length,fun v=>[.os (212,v) 0 (ports.getD v []).length true]⟩)),
 (212,.many fun v=>if v<ports.length then some (rowO (ports.getD v []))else none)]
def yft(g:Gr):SV:=.ag [yj g.ids,.os (211,0) 0 g.ports.length true]
theorem ycy{i n:Nat}{x b:OB}(h:(if i<n then some x else none)=some b):i<n/\b=x:=by
 split at h
 .cases h;exact⟨by assumption,rfl⟩
 .cases h
theorem ycl(back:Bool)(L:List (Int×Int))(x:Int×Int):(addL back L x).length=L.length+1:=by
 unfold addL;cases back<;>simp
theorem ybgk(L:List (Int×Int))(x:Int×Int){k:Nat}(hk:k<L.length+1):(if k<L.length then[SV.i .i64 (L.getD k (0,0)).1,SV.i .i64 (L.getD k (0,0)).2]else zBA 2 (zBB ((k-L.length)*2) [SV.i .i64 x.1,SV.i .i64 x.2]))=[SV.i .i64 ((addL false L x).getD k (0,0)).1,SV.i .i64 ((addL false L x).getD k (0,0)).2]:=by
 show _=[SV.i .i64 ((L++[x]).getD k (0,0)).1,SV.i .i64 ((L++[x]).getD k (0,0)).2];rw[yqd]
 by_cases h:k<L.length
 .rw[if_pos h,if_pos h]
 .obtain rfl:k=L.length:=by omega
  rw[if_neg h,if_neg h,if_pos rfl,zAK];rfl
theorem yrd(L:List (Int×Int))(x:Int×Int)(k:Nat):(if k<1 then zBA 2 (zBB (k*2) [SV.i .i64 x.1,SV.i .i64 x.2])else[SV.i .i64 (L.getD (k-1) (0,0)).1,SV.i .i64 (L.getD (k-1) (0,0)).2])=[SV.i .i64 ((addL true L x).getD k (0,0)).1,SV.i .i64 ((addL true L x).getD k (0,0)).2]:=by
 show _=[SV.i .i64 ((x::L).getD k (0,0)).1,SV.i .i64 ((x::L).getD k (0,0)).2];cases k with
 |zero=>rfl
 |succ k=>rw[if_neg (by omega)];rfl
theorem cells_one(L:List (Int×Int))(h:L.length=0)(x:Int×Int){k:Nat}(hk:k<1):zBA 2 (zBB (k*2) [SV.i .i64 x.1,SV.i .i64 x.2])=[SV.i .i64 ((addL true L x).getD k (0,0)).1,SV.i .i64 ((addL true L x).getD k (0,0)).2]:=by
 obtain rfl:k=0:=by omega
 rfl
theorem yku {n:Nat}{o:Own}{P':List (List (Int×Int))}(D:P'.length=n) (A:Nat->Nm) {R:Nat->List SV}(m:lookO o (211,0)=some ⟨70,false,1,n,R⟩) (C:∀v,v<n->R v=[.os (A v) 0 (P'.getD v []).length true])
 (B:∀v,v<n->∃q,lookO o (A v)=some ⟨97,false,2,(P'.getD v []).length,q⟩/\∀k,k<(P'.getD v []).length->q k=[.i .i64 ((P'.getD v []).getD k (0,0)).1,.i .i64 ((P'.getD v []).getD k (0,0)).2])
 (t:∀u v,u<n->v<n->A u=A v->u=v) (z:∀v,v<n->A v≠(211,0)) :
 ∃r l,Weak [(211,0)] ⟨[(0,.tp [])],o⟩ ⟨[(0,r)],l⟩/\(cln (live l) 5 r=true/\allQ (fun p=>ybz (live l) p.2) l/\allQ (fun G=>live l G=true) [(211,0)])/\r = .tp []/\l=ycr P':=by
 subst D
 have d:∀i,(if i<P'.length then some (rowO (P'.getD i []))else none).isSome=true->i<P'.length:=fun i h=>by
  by_cases q:i<P'.length
  .exact q
  .rw[if_neg q]at h;cases h
 have f:∀i,i<P'.length->live (ycr P') (212,i)=true:=fun i t=>by
  show(if i<P'.length then some (rowO (P'.getD i []))else none).isSome=true
  rw[if_pos t];rfl
 refine⟨.tp [],ycr P',ybkp [(212,A)] [] [] trivial ⟨.inr ⟨.inr fun e=>⟨rfl,rfl⟩,.inr fun j y e=>?_,trivial⟩,.inr ⟨.inr fun i c e=>?_,.inr fun i c j y e=>⟨rfl,?_⟩,trivial⟩,trivial⟩ ⟨?_,trivial⟩ ⟨?_,fun i b s=>?_,trivial⟩ ⟨⟨rfl,rfl,rfl⟩,trivial⟩,⟨rfl,⟨?_,?_,trivial⟩,rfl,trivial⟩,rfl,rfl⟩
 .exact absurd e.symm (z j (d j y))
 .exact absurd e (z i (d i c))
 .exact t i j (d i c) (d j y) e
 .exact⟨_,rfl,.inl ⟨trivial,Sim.refl _,rfl⟩⟩
 .refine⟨_,m,⟨rfl,rfl,rfl,rfl,rfl⟩,fun e=>absurd (show false=true from e) zM,fun i c=>?_⟩
  have c:i<P'.length:=c;show telL _ _ _ _ _ (R i) _;rw[C i c];refine⟨.inl ⟨by simp only[go_sem],Sim.refl _,?_⟩,rfl,trivial⟩
  show(live (ycr P') (212,i) && !(List.elem 212 []))=true;rw[f i c];rfl
 .obtain⟨c,rfl⟩:=ycy s;obtain⟨q,E,F⟩:=B i c;refine⟨_,E,⟨rfl,rfl,rfl,rfl,rfl⟩,fun e=>absurd (show false=true from e) zM,fun k hk=>?_⟩
  show telL _ _ _ _ _ (q k) _;rw[F k hk];exact⟨.inl ⟨trivial,Sim.refl _,rfl⟩,rfl,.inl ⟨trivial,Sim.refl _,rfl⟩,rfl,trivial⟩
 .intro k hk;have:live (ycr P') (212,k)=true:=f k hk;simp only[ycr,zCD,List.all_nil,zCE]at this ⊢;exact this
 .intro i b s k hk;obtain⟨c,rfl⟩:=ycy s;rfl
section
variable {x:NetR}{g:Gr}{a b:Nat}{w:Int}
theorem ybwk (A:a<g.ports.length)(C:b<g.ports.length)(M:g.ports.length<=24)(E:∀v,(g.ports.getD v []).length<=1000) :
 Cm zG 101 [(211,0)] (ycr g.ports) [.ag (netC x),yft g,.i .i64 a,.i .i64 b,.i .i64 w] fun r o=>r = .tp []/\o=ycr (yjh x.back g a b w).ports:=by
 refine(okGM 101) [(211,0)] [] _ _ _ ?_;obtain⟨L,p⟩:∃O,ycr (yjh x.back g a b w).ports=O:=⟨_,rfl⟩;rw[p]
 by_cases d:a=b
 .subst d;have B:yjh x.back g a a w=g:=if_pos (.inl rfl);rw[B]at p;simp only[cdE 101,rgE 101 0,rgE 101 1,netC,yft,ycr,ygo,go_sem,zA,zB,zC,↓reduceIte,reduceCtorEq];subst p;exact yku rfl (fun v=>(212,v)) rfl (fun v m=>rfl) (fun v m=>⟨_,if_pos m,fun k hk=>rfl⟩) (fun u v _ _ e=>congrArg Prod.snd e) (fun v _ e=>by cases e)
 .have F:((a:Int)==(b:Int))=false:=by rw[beq_eq_false_iff_ne];omega
  have I:=ybsh (ids:=g.ids) (ports:=g.ports) (b:=b) A (by have:=E a;omega)
  simp only[cdE 101,rgE 101 0,rgE 101 1,netC,yft,ycr,F,clash,go_sem,zA,zB,zC,↓reduceIte,reduceCtorEq];refine .inl ⟨fun q H=>by rw[if_pos H];exact⟨zAA _,fun k hk=>by simp only[rowO,go_sem]⟩,I.useS ?_ ?_⟩
  .refine⟨yie ⟨Sim.refl _,?_,trivial⟩,Sim.refl _,Sim.refl _,trivial⟩;refine yel fun q H=>?_;rw[if_pos H];simp only[rowO,ybd,go_sem];exact⟨Sim.refl _,trivial⟩
  cases D:ypb (g.ports.getD a []) b with
  | true =>
    have B:yjh x.back g a b w=g:=if_pos (.inr D);rw[B]at p;simp only[yw,clash,ygo,go_sem,zA,zB,↓reduceIte];subst p;exact yku rfl (fun v=>(212,v)) rfl (fun v m=>rfl) (fun v m=>⟨_,if_pos m,fun k hk=>rfl⟩) (fun u v _ _ e=>congrArg Prod.snd e) (fun v _ e=>by cases e)
  | false =>
    have B:yjh x.back g a b w=ycw x.back g a b w:=if_neg (fun q=>by rcases q with q|q;exact d q;rw[D]at q;cases q)
    rw[B]at p;subst p;have s:¬b=a:=fun e=>d e.symm;have l:(ycw x.back g a b w).ports.length=g.ports.length:=by simp[ycw]
    have f:=yfa x.back g w A C;obtain⟨G',z⟩:∃G,(ycw x.back g a b w).ports=G:=⟨_,rfl⟩;rw[z]at l ⊢;have f:∀v,G'.getD v []=if v=b then addL x.back (g.ports.getD b []) (a,w)else if v=a then addL x.back (g.ports.getD a []) (b,w)else g.ports.getD v []:=fun v=>by rw[<-z];exact f v
    clear z B
    obtain⟨N,P,Q,R,S,back⟩:=x;have J:=E a;have K:=E b;cases back with
    | false =>
      simp only[yw,clash,rgE 101 2,rgE 101 3,rgE 101 6,rowO,if_pos A,if_pos C,d,s,ygo,and_false,go_sem,zA,zB,zD,zC,↓reduceIte,reduceCtorEq];refine⟨⟨by omega,by omega⟩,by omega,⟨by omega,by omega⟩,by decide,⟨by omega,by omega⟩,by omega,⟨by omega,by omega⟩,by decide,⟨by omega,by omega⟩,by omega,by decide,⟨by omega,by omega⟩,by omega,by decide,?_⟩
      refine yku l (fun v=>if v=b then(74,0)else if v=a then(66,0)else(212,v)) rfl (fun v m=>?_) (fun v m=>?_) (fun u v _ _ e=>?_) (fun v _ e=>?_)
      .rw[f v]
       by_cases q:v=b
       .simp only[if_pos q,ycl]
       .by_cases c:v=a
        .simp only[if_neg q,if_pos c,ycl]
        .simp only[if_neg q,if_neg c]
      .rw[f v]
       by_cases q:v=b
       .simp only[if_pos q,ycl];exact⟨_,rfl,fun k hk=>ybgk _ (_,_) hk⟩
       .by_cases c:v=a
        .simp only[if_neg q,if_pos c,ycl];exact⟨_,rfl,fun k hk=>ybgk _ (_,_) hk⟩
        .simp only[if_neg q,if_neg c];refine⟨fun k=>[.i .i64 ((g.ports.getD v []).getD k (0,0)).1,.i .i64 ((g.ports.getD v []).getD k (0,0)).2],?_,fun k hk=>rfl⟩;show(if v=b then none else if v=a then none else if v<g.ports.length then some _ else none)=some _
         rw[if_neg q,if_neg c,if_pos m]
      .by_cases q:u=b<;>by_cases c:u=a<;>by_cases t:v=b<;>by_cases y:v=a<;>simp[q,c,t,y,d]at e ⊢<;>omega
      .by_cases q:v=b<;>by_cases c:v=a<;>simp[q,c,d]at e
    | true =>
      by_cases j:(g.ports.getD a []).length=0
      .by_cases h:(g.ports.getD b []).length=0
       .simp only[yw,clash,rgE 101 2,rgE 101 3,rgE 101 4,rgE 101 5,rowO,if_pos A,if_pos C,s,ygo,and_false,j,h,go_sem,zA,zB,zD,zC,zBG,↓reduceIte,reduceCtorEq]
        repeat' apply zBX
        all_goals first|omega|decide|skip
        refine yku l (fun v=>if v=b then(45,0)else if v=a then(33,0)else(212,v)) rfl (fun v m=>?_) (fun v m=>?_) (fun u v _ _ e=>?_) (fun v _ e=>?_)
        .rw[f v]
         by_cases q:v=b
         .simp only[if_pos q,ycl,h,zAH]
         .by_cases c:v=a
          .simp only[if_neg q,if_pos c,ycl,j,zAH]
          .simp only[if_neg q,if_neg c]
        .rw[f v]
         by_cases q:v=b
         .simp only[if_pos q,ycl,h,zAH];exact⟨_,rfl,fun k hk=>cells_one _ h (_,_) hk⟩
         .by_cases c:v=a
          .simp only[if_neg q,if_pos c,ycl,j,zAH];exact⟨_,rfl,fun k hk=>cells_one _ j (_,_) hk⟩
          .simp only[if_neg q,if_neg c];refine⟨fun k=>[.i .i64 ((g.ports.getD v []).getD k (0,0)).1,.i .i64 ((g.ports.getD v []).getD k (0,0)).2],?_,fun k hk=>rfl⟩;show(if v<g.ports.length then some _ else none)=some _
           rw[if_pos m]
        .by_cases q:u=b<;>by_cases c:u=a<;>by_cases t:v=b<;>by_cases y:v=a<;>simp[q,c,t,y,d]at e ⊢<;>omega
        .by_cases q:v=b<;>by_cases c:v=a<;>simp[q,c,d]at e
       .simp only[yw,clash,rgE 101 2,rgE 101 3,rgE 101 4,rgE 101 5,rowO,if_pos A,if_pos C,s,ygo,and_false,j,h,go_sem,zA,zB,zD,zC,zBG,↓reduceIte,reduceCtorEq]
        repeat' apply zBX
        all_goals first|omega|decide|skip
        refine yku l (fun v=>if v=b then(51,0)else if v=a then(33,0)else(212,v)) rfl (fun v m=>?_) (fun v m=>?_) (fun u v _ _ e=>?_) (fun v _ e=>?_)
        .rw[f v]
         by_cases q:v=b
         .simp only[if_pos q,ycl,zX]
         .by_cases c:v=a
          .simp only[if_neg q,if_pos c,ycl,j,zAH,zX]
          .simp only[if_neg q,if_neg c]
        .rw[f v]
         by_cases q:v=b
         .simp only[if_pos q,ycl];exact⟨_,congrArg some (congrArg (fun n=>OB.mk _ _ _ n _) (zX _ _)),fun k hk=>yrd _ (_,_) k⟩
         .by_cases c:v=a
          .simp only[if_neg q,if_pos c,ycl,j,zAH];exact⟨_,rfl,fun k hk=>cells_one _ j (_,_) hk⟩
          .simp only[if_neg q,if_neg c];refine⟨fun k=>[.i .i64 ((g.ports.getD v []).getD k (0,0)).1,.i .i64 ((g.ports.getD v []).getD k (0,0)).2],?_,fun k hk=>rfl⟩;show(if v<g.ports.length then some _ else none)=some _
           rw[if_pos m]
        .by_cases q:u=b<;>by_cases c:u=a<;>by_cases t:v=b<;>by_cases y:v=a<;>simp[q,c,t,y,d]at e ⊢<;>omega
        .by_cases q:v=b<;>by_cases c:v=a<;>simp[q,c,d]at e
      .by_cases h:(g.ports.getD b []).length=0
       .simp only[yw,clash,rgE 101 2,rgE 101 3,rgE 101 4,rgE 101 5,rowO,if_pos A,if_pos C,s,ygo,and_false,j,h,go_sem,zA,zB,zD,zC,zBG,↓reduceIte,reduceCtorEq]
        repeat' apply zBX
        all_goals first|omega|decide|skip
        refine yku l (fun v=>if v=b then(45,0)else if v=a then(39,0)else(212,v)) rfl (fun v m=>?_) (fun v m=>?_) (fun u v _ _ e=>?_) (fun v _ e=>?_)
        .rw[f v]
         by_cases q:v=b
         .simp only[if_pos q,ycl,h,zAH,zX]
         .by_cases c:v=a
          .simp only[if_neg q,if_pos c,ycl,zX]
          .simp only[if_neg q,if_neg c]
        .rw[f v]
         by_cases q:v=b
         .simp only[if_pos q,ycl,h,zAH];exact⟨_,rfl,fun k hk=>cells_one _ h (_,_) hk⟩
         .by_cases c:v=a
          .simp only[if_neg q,if_pos c,ycl];exact⟨_,congrArg some (congrArg (fun n=>OB.mk _ _ _ n _) (zX _ _)),fun k hk=>yrd _ (_,_) k⟩
          .simp only[if_neg q,if_neg c];refine⟨fun k=>[.i .i64 ((g.ports.getD v []).getD k (0,0)).1,.i .i64 ((g.ports.getD v []).getD k (0,0)).2],?_,fun k hk=>rfl⟩;show(if v<g.ports.length then some _ else none)=some _
           rw[if_pos m]
        .by_cases q:u=b<;>by_cases c:u=a<;>by_cases t:v=b<;>by_cases y:v=a<;>simp[q,c,t,y,d]at e ⊢<;>omega
        .by_cases q:v=b<;>by_cases c:v=a<;>simp[q,c,d]at e
       .simp only[yw,clash,rgE 101 2,rgE 101 3,rgE 101 4,rgE 101 5,rowO,if_pos A,if_pos C,s,ygo,and_false,j,h,go_sem,zA,zB,zD,zC,↓reduceIte,reduceCtorEq]
        repeat' apply zBX
        all_goals first|omega|decide|skip
        refine yku l (fun v=>if v=b then(51,0)else if v=a then(39,0)else(212,v)) rfl (fun v m=>?_) (fun v m=>?_) (fun u v _ _ e=>?_) (fun v _ e=>?_)
        .rw[f v]
         by_cases q:v=b
         .simp only[if_pos q,ycl,zX]
         .by_cases c:v=a
          .simp only[if_neg q,if_pos c,ycl,zX]
          .simp only[if_neg q,if_neg c]
        .rw[f v]
         by_cases q:v=b
         .simp only[if_pos q,ycl];exact⟨_,congrArg some (congrArg (fun n=>OB.mk _ _ _ n _) (zX _ _)),fun k hk=>yrd _ (_,_) k⟩
         .by_cases c:v=a
          .simp only[if_neg q,if_pos c,ycl];exact⟨_,congrArg some (congrArg (fun n=>OB.mk _ _ _ n _) (zX _ _)),fun k hk=>yrd _ (_,_) k⟩
          .simp only[if_neg q,if_neg c];refine⟨fun k=>[.i .i64 ((g.ports.getD v []).getD k (0,0)).1,.i .i64 ((g.ports.getD v []).getD k (0,0)).2],?_,fun k hk=>rfl⟩;show(if v<g.ports.length then some _ else none)=some _
           rw[if_pos m]
        .by_cases q:u=b<;>by_cases c:u=a<;>by_cases t:v=b<;>by_cases y:v=a<;>simp[q,c,t,y,d]at e ⊢<;>omega
        .by_cases q:v=b<;>by_cases c:v=a<;>simp[q,c,d]at e
end
end Sh
end
section
theorem ybbb{back:Bool}{g:Gr}{a b:Nat}{w:Int}(c:ybe g)(d:a<g.ports.length)(f:b<g.ports.length)(j:1<=w/\w<=15):ybe (yjh back g a b w)/\(yjh back g a b w).ids=g.ids/\(yjh back g a b w).ports.length=g.ports.length:=by
 unfold yjh
 by_cases h:a=b\/ypb (g.ports.getD a []) b=true
 .rw[if_pos h];exact⟨c,rfl,rfl⟩
 .rw[if_neg h];refine⟨ybfv c d f (fun e=>h (.inl e)) j fun l i e=>h (.inr (List.any_eq_true.2 ⟨l,i,decide_eq_true e⟩)),rfl,by simp[ycw]⟩
theorem ybhb{back:Bool}{g:Gr}{a b:Nat}{w:Int}(c:a<g.ports.length)(d:b<g.ports.length){m:Nat}(h:Tre g m):Tre (yjh back g a b w) m:=by
 unfold yjh;split
 .exact h
 .exact h.add c d
theorem ycdj{back:Bool}{g:Gr}{a b:Nat}{w:Int}(d:a<g.ports.length)(f:b<g.ports.length)(c:a≠b):adj (yjh back g a b w) a b:=by
 unfold yjh;split
 .rename_i h
  rcases h with h|h
  .exact absurd h c
  .obtain⟨l,i,e⟩:=List.any_eq_true.1 h;exact ykn.2 ⟨l,i,of_decide_eq_true e⟩
 .exact ybkt d f c
theorem yboc:∀(l:List Nat) (i x:Nat) (h:i<l.length),(l.set i x).sum+l[i]=l.sum+x
 |a::l,0,x,_=>by simp;omega
 | a::l,i+1,x,h=>by
   have:=yboc l i x (by simpa using h)
   simp only[List.set_cons_succ,List.sum_cons,List.getElem_cons_succ];omega
theorem ybuw{back:Bool}{g:Gr}{a b:Nat}{w:Int}(e:a<g.ports.length)(f:b<g.ports.length)(c:a≠b):yhq (ycw back g a b w)=yhq g+2:=by
 unfold yhq ycw;simp only[List.map_set,Sh.ycl];have h:=yboc (g.ports.map zBS) a ((g.ports.getD a []).length+1) (by simpa using e)
 have i:=yboc ((g.ports.map zBS).set a ((g.ports.getD a []).length+1)) b ((g.ports.getD b []).length+1) (by simpa using f)
 rw[List.getElem_set_ne c,zAX,<-Sh.getD_at f (d:=[])]at i;rw[zAX,<-Sh.getD_at e (d:=[])]at h;omega
def WtF(x:NetR)(g:Gr):Prop:=∀v l,l∈g.ports.getD v []->∃i,l.2=1+ycf (atP x.weights i) 15
theorem ybpk{x:NetR}{back:Bool}{g:Gr}{a b:Nat}{w:Int}(e:a<g.ports.length)(f:b<g.ports.length)(d:∃i,w=1+ycf (atP x.weights i) 15)(h:WtF x g):WtF x (yjh back g a b w):=by
 unfold yjh;split
 .exact h
 .intro v l c;rw[yfa back g w e f]at c;split at c
  .rcases yfq.1 c with rfl|c
   .exact d
   .exact h _ _ c
  .split at c
   .rcases yfq.1 c with rfl|c
    .exact d
    .exact h _ _ c
   .exact h _ _ c
structure TreeTo(x:NetR)(v:Nat)(g:Gr):Prop where
 tre:Tre g v
 wt:WtF x g
 none_:∀u,v<=u->g.ports.getD u []=[]
 count:yhq g+2=2*v
theorem ynf(ids:List Int)(v:Nat):(bare ids).ports.getD v []=[]:=by
 unfold bare;rw[zBF,zBM];split<;>rfl
theorem TreeTo.zero(x:NetR)(ids:List Int):TreeTo x 1 (bare ids):=by
 refine⟨fun v b c=>by omega,fun v l a=>?_,fun u _=>ynf ids u,?_⟩
 .rw[ynf]at a;exact absurd a zAG
 .have:yhq (bare ids)=0:=by
   unfold yhq bare;simp
  omega
theorem TreeTo.succ{x:NetR}{v:Nat}{g:Gr}(n:ybe g)(h:TreeTo x v g)(f:v<g.ports.length)(s:1<=v){a:Nat}(m:a<v){w:Int}(r:∃i,w=1+ycf (atP x.weights i) 15):TreeTo x (v+1) (yjh x.back g a v w):=by
 have c:=ycdj (back:=x.back) (g:=g) (a:=a) (b:=v) (w:=w) (by omega) (by omega) (by omega)
 have j:¬(a=v\/ypb (g.ports.getD a []) v=true):=by
  rintro(e|e)
  .omega
  .obtain⟨l,o,e⟩:=List.any_eq_true.1 e;have e:=of_decide_eq_true e;have:adj g v a:=n.adj_symm (ykn.2 ⟨l,o,e⟩);obtain⟨t,d,_⟩:=ykn.1 this;rw[h.none_ v (zAA _)]at d;exact absurd d zAG
 have e:yjh x.back g a v w=ycw x.back g a v w:=by unfold yjh;rw[if_neg j]
 refine⟨fun u k p=>?_,ybpk (by omega) f r h.wt,fun u p=>?_,?_⟩
 .by_cases q:u=v
  .subst q;exact⟨a,m,c⟩
  .exact ybhb (by omega) f h.tre u k (by omega)
 .rw[e,yfa x.back g w (by omega) f,if_neg (by omega),if_neg (by omega)]
  exact h.none_ u (by omega)
 .rw[e,ybuw (by omega) f (by omega)]
  have:=h.count;omega
namespace Sh
open Ev Go.RowKit
theorem yuj{n:Nat}{P:List (List (Int×Int))}{f:SV->SV}(a:∀k z,f (.i k z) = .i k z){i:Nat}(c:i<n):(match (if i<n then some (rowO (P.getD i []))else none)with|some b=>some (⟨b.e,b.bx,b.z,b.n,fun k=>(b.g k).map f⟩:OB)|none=>none)=some (rowO (P.getD i [])):=by
 rw[if_pos c];simp[rowO,a]
theorem ybxr{x:NetR}(T:x.ok){most:Nat}(hm:1<=most/\most<=24) :
 Cm zG 21 [] [] [.ag (netC x),.i .i64 most] fun r o=>∃g,ybe g/\TreeTo x g.ports.length g/\(g.ports.length<=most/\(g.ports.length:Int)=1+ycf (IntKind.wrap .i64 (x.n-1)) most/\ybgl x g.ids)/\r=yft g/\o=ycr g.ports:=by
 refine(okGM 21) [] [100,101] _ _ _ ?_;have R:=ybpm T hm;obtain⟨a1,O,P,a2⟩:=T;simp only[netC]at R;simp only[cdE 21,rgE 21 0,rgE 21 1,netC,go_sem,zA,zB,zC,↓reduceIte,reduceCtorEq];refine ydk R [(17,117)] 0 [2,4] [2,4] ?_ ?_
 .simp only[to1,okN,ybz,yeg,ydp,yda,wk,go_sem,zA,zB,zF,↓reduceIte,reduceCtorEq]
 rintro r o' ⟨c,Q,X,Y,rfl,rfl⟩;obtain⟨n,J⟩:∃n,c.length=n:=⟨_,rfl⟩;rw[J]at Q;simp only[J,ykz,yjk,nuF,nu,difN,ydp,yda,Fam.ren,OB.ren,dim,ydau,yly,ykc,go_sem,zA,zB,zC,zF,↓reduceIte];simp only[rgE 21 2,go_sem]
 refine ybk (σ:=Nat×Gr) (fun q=>⟨[(6,.i .i64 q.1),(5,.pt (5,0) 0 0),(2,.pt (2,0) 0 0),(4,.pt (4,0) 0 0)],
  (5,.one (some ⟨30,true,2,1,fun _=>[yj q.2.ids,.os (211,0) 0 n true]⟩))::(2,.one (some ⟨24,true,6,1,fun _=>netC x⟩))::(4,.one (some ⟨30,true,2,1,fun _=>[.a (.slice none 0 0),.a (.slice none 0 0)]⟩))::ycr q.2.ports⟩)
  (fun q=>ybe q.2/\q.2.ports.length=n/\TreeTo x q.1 q.2/\1<=q.1/\q.1<=n/\q.2.ids=c) (fun q=>n-q.1) (1,bare c) ⟨ybhd (by omega) (by omega) X Y,by simp[bare,J],TreeTo.zero x c,by omega,by omega,rfl⟩ ?_ ?_
 .refine ybm [(211,fun i=>(117,i))] [212] [] ?_;have U:(bare c).ids=c:=rfl;have V:(bare c).ports.length=n:=by simp[bare,J]
  have W:∀v,(bare c).ports.getD v []=[]:=ynf c;simp only[netC,ycr,rowO,U,V,W,zBO,wk,go_sem,zA,zC,zF,↓reduceIte,reduceCtorEq];refine⟨rfl,fun i d=>⟨(212,i),rfl,rfl,by simp[d]⟩,fun i b p=>?_⟩
  obtain⟨_,rfl⟩:=ycy p;exact⟨rfl,rfl⟩
 .rintro⟨v,g⟩ ⟨z,h,s,y,I,E⟩;have z:ybe g:=z;have h:g.ports.length=n:=h;have s:TreeTo x v g:=s;have y:1<=v:=y;have I:v<=n:=I
  by_cases a0:v<n
  .have N:decide ((v:Int)<(n:Int))=true:=decide_eq_true (by omega)
   have H:(v:Int)-1=((v-1:Nat):Int):=by omega
   have K:=at_ret x.links (v-1);have L:=at_ret x.weights (v-1);have F:=ydx (v:=atP x.links (v-1)) (m:=(v:Int)) (by omega)
   have M:=ydx (v:=atP x.weights (v-1)) (m:=15) (by omega)
   have C:=ydz (atP x.links (v-1)) v (by omega) (O _)
   have D:=ydz (atP x.weights (v-1)) 15 (by omega) (P _)
   obtain⟨a,ha⟩:∃a:Nat,ycf (atP x.links (v-1)) v=a:=zT F.1;obtain⟨w,S⟩:∃w:Int,ycf (atP x.weights (v-1)) 15=w:=⟨_,rfl⟩;rw[ha]at C F;rw[S]at D M;have hL:=ybwk (x:=x) (g:=g) (a:=a) (b:=v) (w:=1+w) (by omega) (by omega) (by omega) (fun u=>by have:=z.deg_lt (v:=u);omega)
   simp only[rgE 21 3,rgE 21 4,rgE 21 5,netC,ycr,N,H,clash,go_sem,zA,zB,zD,zF,↓reduceIte,reduceCtorEq];refine⟨ikw (by omega) (by omega),K.use ?_⟩
   simp only[yw,clash,go_sem,zA,zB,zD,zF,↓reduceIte,reduceCtorEq];refine C.use ?_;simp only[H,go_sem];refine⟨ikw (by omega) (by omega),L.use ?_⟩
   simp only[go_sem,↓reduceIte];refine D.use ?_;simp only[go_sem,zA,zF,↓reduceIte];refine⟨ikw (by omega) (by omega),ydk hL [(211,211),(212,212)] 0 [2,4,5,6] [2,4,5] ?_ ?_⟩
   .simp only[netC,yft,ycr,h,to1,okN,ybz,yeg,ydp,yda,wk,go_sem,zA,zB,zC,zF,↓reduceIte,reduceCtorEq];refine⟨⟨fun i _ j _ e=>e,fun i d=>by rw[if_pos d],fun i b p=>?_⟩,by decide⟩
    obtain⟨d,rfl⟩:=ycy p;exact⟨_,if_pos d,⟨rfl,rfl,rfl,rfl⟩,fun e=>absurd (show false=true from e) zM,fun k hk=>by simp only[rowO,wk,go_sem,reduceCtorEq]⟩
   .rintro r o' ⟨rfl,rfl⟩;simp only[ycr,ykz,yjk,nuF,nu,difN,ydp,yda,Fam.ren,OB.ren,dim,yqu,ykc,go_sem,zA,zB,zF,↓reduceIte,reduceCtorEq];obtain⟨A,t,l⟩:=ybbb (back:=x.back) (a:=a) (b:=v) (w:=1+w) z (by omega) (by omega) (by omega)
    have B:=s.succ z (by omega) y (a:=a) (by omega) (w:=1+w) ⟨v-1,by rw[S]⟩
    obtain⟨G,Z⟩:∃G,yjh x.back g a v (1+w)=G:=⟨_,rfl⟩;rw[Z]at A t l B ⊢;rw[h]at l;refine⟨ikw (by omega) (by omega),ybb (v+1,G) ⟨A,l,B,by omega,by omega,t.trans E⟩ (by show n-(v+1)<n-v;omega) ?_⟩
    .refine yx ?_;simp only[l,t,wk,go_sem,zA,zC,↓reduceIte,reduceCtorEq];refine⟨fun i _ j _ e=>e,by omega,fun i d=>by rw[if_pos d],fun i b p=>?_⟩
     obtain⟨d,rfl⟩:=ycy p;refine⟨_,yuj (f:=ren (nu [(211,211),(212,212)] 0) 5) (fun _ _=>rfl) d,⟨rfl,rfl,rfl,rfl⟩,fun e=>absurd (show false=true from e) zM,fun k hk=>?_⟩
     simp only[rowO,wk,go_sem,reduceCtorEq]
  .obtain rfl:v=n:=by omega
   have N:decide ((v:Int)<(v:Int))=false:=decide_eq_false (by omega)
   simp only[rgE 21 3,rgE 21 6,netC,ycr,N,clash,splice,ygo,go_sem,zA,zB,↓reduceIte,reduceCtorEq];refine⟨yft g,ycr g.ports,?_,?_,g,z,by rw[h];exact s,⟨by omega,by omega,by rw[show g.ids=c from E];exact Q.2.2.2⟩,rfl,rfl⟩
   .refine yx ?_;simp only[ycr,yft,h,wk,go_sem,zA,zC,↓reduceIte,reduceCtorEq];refine⟨fun i _ j _ e=>e,fun i d=>by rw[if_pos d],fun i b p=>?_⟩
    obtain⟨d,rfl⟩:=ycy p;exact⟨_,if_pos d,⟨rfl,rfl,rfl,rfl⟩,fun e=>absurd (show false=true from e) zM,fun k hk=>by simp only[rowO,wk,go_sem,reduceCtorEq]⟩
   .simp only[ycr,yft,ybz,yeg,wk,go_sem,zA,↓reduceIte];refine⟨fun i d=>by rw[if_pos d],fun i b p k hk=>?_⟩
    obtain⟨d,rfl⟩:=ycy p;simp only[rowO,go_sem]
end Sh
end
section
namespace Sh
open Ev Go.RowKit
theorem ycii{x:NetR}(hx:x.ok){g:Gr}(S:ybe g){Q:Gr->Prop}(ht:Q g)(V:∀G a b w,ybe G->G.ports.length=g.ports.length->a<G.ports.length->b<G.ports.length->(∃i,w=1+ycf (atP x.weights i) 15)->Q G->Q (yjh x.back G a b w)) :
 Cm zG 102 [] (ycr g.ports) [.ag (netC x),yft g] fun r o=>∃g',ybe g'/\Q g'/\g'.ports.length=g.ports.length/\r=yft g'/\o=ycr g'.ports:=by
 refine(okGM 102) [] [101] _ _ _ ?_;obtain⟨a1,N,U,a2⟩:=hx;have X:=S.1;have R:=S.2.1;obtain⟨n,P⟩:∃n,g.ports.length=n:=⟨_,rfl⟩;rw[P]at X R V;obtain⟨L,O⟩:∃L,x.links.length=L:=⟨_,rfl⟩;simp only[cdE 102,rgE 102 0,rgE 102 1,rgE 102 2,netC,yft,ycr,P,clash,go_sem,zA,zB,zC,↓reduceIte,reduceCtorEq]
 refine ybk (σ:=Nat×Gr) (fun q=>⟨[(6,.i .i64 q.1),(5,.i .i64 n),(3,.pt (3,0) 0 0),(2,.pt (2,0) 0 0),(4,.pt (4,0) 0 0)],
  (3,.one (some ⟨30,true,2,1,fun _=>[yj q.2.ids,.os (211,0) 0 n true]⟩))::(2,.one (some ⟨24,true,6,1,fun _=>netC x⟩))::(4,.one (some ⟨30,true,2,1,fun _=>[.a (.slice none 0 0),.a (.slice none 0 0)]⟩))::ycr q.2.ports⟩)
  (fun q=>ybe q.2/\q.2.ports.length=n/\Q q.2/\q.1<=61) (fun q=>62-q.1) (n,g) ⟨S,P,ht,by show n<=61;omega⟩ ?_ ?_
 .refine yx ?_;simp only[netC,ycr,P,wk,go_sem,zA,zC,↓reduceIte,reduceCtorEq];refine⟨fun i _ j _ e=>e,fun i c=>by rw[if_pos c],fun i b h=>?_⟩
  obtain⟨c,rfl⟩:=ycy h;exact⟨_,if_pos c,⟨rfl,rfl,rfl,rfl⟩,fun e=>absurd (show false=true from e) zM,fun k hk=>by simp only[rowO,wk,go_sem,reduceCtorEq]⟩
 .rintro⟨i,G⟩ ⟨z,d,l,y⟩;have z:ybe G:=z;have d:G.ports.length=n:=d;have l:Q G:=l;have y:i<=61:=y;have t:(i:Int)+1=((i+1:Nat):Int):=by omega
  by_cases a0:i+1<L
  .by_cases Y:i<60
   .have p:decide (((i+1:Nat):Int)<(L:Int))=true:=decide_eq_true (by omega)
    have A:decide ((i:Int)<60)=true:=decide_eq_true (by omega)
    have E:=at_ret x.weights i;have T:=ydx (v:=atP x.weights i) (m:=15) (by omega)
    have K:=ydx (v:=x.links.getD i 0) (m:=(n:Int)) (by omega)
    have M:=ydx (v:=x.links.getD (i+1) 0) (m:=(n:Int)) (by omega)
    have F:=ydz (x.links.getD i 0) n (by omega) (N i)
    have I:=ydz (x.links.getD (i+1) 0) n (by omega) (N (i+1))
    have J:=ydz (atP x.weights i) 15 (by omega) (U _)
    obtain⟨a,ha⟩:∃a:Nat,ycf (x.links.getD i 0) n=a:=zT K.1;obtain⟨b,h⟩:∃b:Nat,ycf (x.links.getD (i+1) 0) n=b:=zT M.1;obtain⟨w,W⟩:∃w:Int,ycf (atP x.weights i) 15=w:=⟨_,rfl⟩;rw[ha]at F K;rw[h]at I M;rw[W]at J T;have hK:=ybwk (x:=x) (g:=G) (a:=a) (b:=b) (w:=1+w) (by omega) (by omega) (by omega) (fun u=>by have:=z.deg_lt (v:=u);omega)
    simp only[rgE 102 3,rgE 102 4,rgE 102 5,netC,ycr,yj,O,t,p,A,clash,go_sem,zA,zB,zD,zF,↓reduceIte,reduceCtorEq];refine⟨ikw (by omega) (by omega),⟨by omega,by omega⟩,F.use ?_⟩
    simp only[yw,clash,t,go_sem,zA,zB,zD,zF,↓reduceIte,reduceCtorEq];refine⟨ikw (by omega) (by omega),⟨by omega,by omega⟩,I.use ?_⟩
    simp only[go_sem];simp only[yj]at E;refine E.use ?_;simp only[go_sem,↓reduceIte];refine J.use ?_;simp only[go_sem,zA,↓reduceIte];refine⟨ikw (by omega) (by omega),ydk hK [(211,211),(212,212)] 0 [2,3,4,5,6] [2,3,4] ?_ ?_⟩
    .simp only[netC,yft,ycr,d,yj,O,to1,okN,ybz,yeg,ydp,yda,wk,go_sem,zA,zB,zC,zF,↓reduceIte,reduceCtorEq];refine⟨⟨fun i _ j _ e=>e,fun i c=>by rw[if_pos c],fun i b h=>?_⟩,by decide⟩
     obtain⟨c,rfl⟩:=ycy h;exact⟨_,if_pos c,⟨rfl,rfl,rfl,rfl⟩,fun e=>absurd (show false=true from e) zM,fun k hk=>by simp only[rowO,wk,go_sem,reduceCtorEq]⟩
    .rintro r o' ⟨rfl,rfl⟩;simp only[ycr,ykz,yjk,nuF,nu,difN,ydp,yda,Fam.ren,OB.ren,dim,yqu,ykc,go_sem,zA,zB,zF,↓reduceIte,reduceCtorEq];obtain⟨B,C,s⟩:=ybbb (back:=x.back) (a:=a) (b:=b) (w:=1+w) z (by omega) (by omega) (by omega)
     have D:=V G a b (1+w) z d (by omega) (by omega) ⟨i,by rw[W]⟩ l
     obtain⟨H,Z⟩:∃H,yjh x.back G a b (1+w)=H:=⟨_,rfl⟩;rw[Z]at B C s D ⊢;rw[d]at s;refine⟨ikw (by omega) (by omega),ybb (i+2,H) ⟨B,s,D,by show i+2<=61;omega⟩ (by show 62-(i+2)<62-i;omega) ?_⟩
     refine yx ?_;simp only[s,C,wk,go_sem,zA,zC,↓reduceIte,reduceCtorEq];refine⟨fun i _ j _ e=>e,by omega,fun i c=>by rw[if_pos c],fun i b h=>?_⟩
     obtain⟨c,rfl⟩:=ycy h;refine⟨_,yuj (f:=ren (nu [(211,211),(212,212)] 0) 5) (fun _ _=>rfl) c,⟨rfl,rfl,rfl,rfl⟩,fun e=>absurd (show false=true from e) zM,fun k hk=>?_⟩
     simp only[rowO,wk,go_sem,reduceCtorEq]
   .have p:decide (((i+1:Nat):Int)<(L:Int))=true:=decide_eq_true (by omega)
    have A:decide ((i:Int)<60)=false:=decide_eq_false (by omega)
    simp only[rgE 102 3,rgE 102 6,netC,ycr,yj,O,t,p,A,clash,splice,ygo,go_sem,zA,zB,zD,↓reduceIte,reduceCtorEq];refine⟨ikw (by omega) (by omega),?_⟩
    refine⟨yft G,ycr G.ports,?_,?_,G,z,l,d,rfl,rfl⟩
    .refine yx ?_;simp only[ycr,yft,d,yj,wk,go_sem,zA,zC,↓reduceIte,reduceCtorEq];refine⟨fun i _ j _ e=>e,fun i c=>by rw[if_pos c],fun i b h=>?_⟩
     obtain⟨c,rfl⟩:=ycy h;exact⟨_,if_pos c,⟨rfl,rfl,rfl,rfl⟩,fun e=>absurd (show false=true from e) zM,fun k hk=>by simp only[rowO,wk,go_sem,reduceCtorEq]⟩
    .simp only[ycr,yft,ybz,yeg,wk,go_sem,zA,↓reduceIte];refine⟨fun i c=>by rw[if_pos c],fun i b h k hk=>?_⟩
     obtain⟨c,rfl⟩:=ycy h;simp only[rowO,go_sem]
  .have p:decide (((i+1:Nat):Int)<(L:Int))=false:=decide_eq_false (by omega)
   simp only[rgE 102 3,rgE 102 6,netC,ycr,yj,O,t,p,clash,splice,ygo,go_sem,zA,zB,zD,↓reduceIte,reduceCtorEq];refine⟨ikw (by omega) (by omega),?_⟩
   refine⟨yft G,ycr G.ports,?_,?_,G,z,l,d,rfl,rfl⟩
   .refine yx ?_;simp only[ycr,yft,d,yj,wk,go_sem,zA,zC,↓reduceIte,reduceCtorEq];refine⟨fun i _ j _ e=>e,fun i c=>by rw[if_pos c],fun i b h=>?_⟩
    obtain⟨c,rfl⟩:=ycy h;exact⟨_,if_pos c,⟨rfl,rfl,rfl,rfl⟩,fun e=>absurd (show false=true from e) zM,fun k hk=>by simp only[rowO,wk,go_sem,reduceCtorEq]⟩
   .simp only[ycr,yft,ybz,yeg,wk,go_sem,zA,↓reduceIte];refine⟨fun i c=>by rw[if_pos c],fun i b h k hk=>?_⟩
    obtain⟨c,rfl⟩:=ycy h;simp only[rowO,go_sem]
theorem yzc{x:NetR}(t:x.ok){most:Nat}(z:1<=most/\most<=24) :
 Ct zG 24 [.ag (netC x),.i .i64 most] fun r=>∃g,ybe g/\ycj g=true/\(g.ports.length<=most/\WtF x g)/\Sim r (grV g):=by
 refine(okGU 24) [21,102] _ _ ?_;have p:=ybxr t z;simp only[netC]at p;simp only[cdE 24,rgE 24 0,rgE 24 1,netC,clash,go_sem,zA,zB,zC,↓reduceIte,reduceCtorEq];refine ydk p [(211,211),(212,212)] 0 [2,4,5] [2,4] ?_ ?_
 .simp only[to1,okN,ybz,yeg,ydp,yda,wk,go_sem,zA,zB,zF,↓reduceIte,reduceCtorEq]
 rintro r A ⟨g,y,s,⟨D,-⟩,rfl,rfl⟩;have o:=ycii (Q:=fun G=>Tre G g.ports.length/\WtF x G) t y ⟨s.tre,s.wt⟩ (fun G a b w B C m gb c l=>⟨ybhb m gb l.1,ybpk m gb c l.2⟩);simp only[netC]at o;simp only[ycr,yft,ykz,yjk,nuF,nu,difN,ydp,yda,Fam.ren,OB.ren,dim,yly,ykc,go_sem,zA,zB,zF,↓reduceIte];refine ydk o [(211,211),(212,212)] 0 [4] [4] ?_ ?_
 .simp only[yft,ycr,to1,okN,ybz,yeg,ydp,yda,wk,go_sem,zA,zB,zC,zF,↓reduceIte,reduceCtorEq];refine⟨⟨fun i _ j _ e=>e,fun i d=>by rw[if_pos d],fun i b v=>?_⟩,by decide⟩
  obtain⟨d,rfl⟩:=ycy v;refine⟨_,yuj (f:=ren (nu [(211,211),(212,212)] 0) 5) (fun _ _=>rfl) d,⟨rfl,rfl,rfl,rfl⟩,fun e=>absurd (show false=true from e) zM,fun k hk=>?_⟩
  simp only[rowO,wk,go_sem,reduceCtorEq]
 rintro r A ⟨G,n,⟨gt,c⟩,u,rfl,rfl⟩;simp only[ycr,yft,clash,splice,ykz,yjk,nuF,nu,difN,ydp,yda,Fam.ren,OB.ren,dim,yly,ykc,go_sem,zA,zB,zF,↓reduceIte];refine⟨by decide,fun q h=>?_,G,n,Tre.conn n (by rw[u];exact gt),⟨by omega,c⟩,?_⟩
 .simp only[if_pos h];exact⟨zAA _,fun k hk=>by simp only[rowO,go_sem]⟩
 .refine yie ⟨Sim.refl _,?_,trivial⟩;refine yel fun q h=>?_;simp only[if_pos h];simp only[rowO,ybd,ygb,go_sem];exact⟨Sim.refl _,trivial⟩
theorem yqo{x:NetR}(f:x.ok){most:Nat}(e:1<=most/\most<=24) :
 Ct zG 24 [.ag (netC x),.i .i64 most] fun r=>∃g,ybe g/\ycj g=true/\g.ports.length<=most/\Sim r (grV g) :=
 (yzc f e).mono fun _ ⟨g,a,b,c,d⟩=>⟨g,a,b,c.1,d⟩
end Sh
end
section
namespace Sh
open Ev Go.RowKit
theorem ycrg(l:List Nat):one1 (usV l)=true:=rfl
theorem ycjm{n:Nat}(l:List Nat):owned (n+1) (usV l)=false:=rfl
theorem ybsc{n:Nat}(l:List Nat):scalar (n+1) (usV l)=false:=rfl
theorem ycru{n:Nat}(o:Own)(l:List Nat):view o (n+1) (usV l)=usV l:=rfl
theorem ycyr{n:Nat}(o:Own)(l:List Nat):vok o (n+1) (usV l)=True:=rfl
theorem ycws{n:Nat}(h:Nm->Nm)(l:List Nat):ren h (n+1) (usV l)=usV l:=rfl
theorem ycwf{n:Nat}(D:Nm->Bool)(l:List Nat):cln D (n+1) (usV l)=true:=rfl
theorem ybyw{n:Nat}(a:List Nm)(o:Own)(l:List Nat):yee a o (n+1) (usV l)=usV l:=rfl
theorem ycyg{n:Nat}(a:List Nm)(o:Own)(l:List Nat):pok a o (n+1) (usV l)=True:=rfl
theorem ycem(l:List Nat):SV.cells (usV l)=[usV l]:=rfl
theorem ybns(l:List Conf):one1 (yfv l)=true:=rfl
theorem ybgx{n:Nat}(l:List Conf):owned (n+1) (yfv l)=false:=rfl
theorem ybec{n:Nat}(l:List Conf):scalar (n+1) (yfv l)=false:=rfl
theorem ybmb{n:Nat}(o:Own)(l:List Conf):view o (n+1) (yfv l)=yfv l:=rfl
theorem ybvq{n:Nat}(o:Own)(l:List Conf):vok o (n+1) (yfv l)=True:=rfl
theorem ybtm{n:Nat}(h:Nm->Nm)(l:List Conf):ren h (n+1) (yfv l)=yfv l:=rfl
theorem ybrw{n:Nat}(D:Nm->Bool)(l:List Conf):cln D (n+1) (yfv l)=true:=rfl
theorem ybgt{n:Nat}(a:List Nm)(o:Own)(l:List Conf):yee a o (n+1) (yfv l)=yfv l:=rfl
theorem ybto{n:Nat}(a:List Nm)(o:Own)(l:List Conf):pok a o (n+1) (yfv l)=True:=rfl
theorem ybhn(l:List Conf):SV.cells (yfv l)=[yfv l]:=rfl
theorem ybur(l:List Cnt):one1 (yjx l)=true:=rfl
theorem ybmh{n:Nat}(l:List Cnt):owned (n+1) (yjx l)=false:=rfl
theorem ybhc{n:Nat}(l:List Cnt):scalar (n+1) (yjx l)=false:=rfl
theorem ybue{n:Nat}(o:Own)(l:List Cnt):view o (n+1) (yjx l)=yjx l:=rfl
theorem ycbp{n:Nat}(o:Own)(l:List Cnt):vok o (n+1) (yjx l)=True:=rfl
theorem ybxm{n:Nat}(h:Nm->Nm)(l:List Cnt):ren h (n+1) (yjx l)=yjx l:=rfl
theorem yccd{n:Nat}(D:Nm->Bool)(l:List Cnt):cln D (n+1) (yjx l)=true:=rfl
theorem ybma{n:Nat}(a:List Nm)(o:Own)(l:List Cnt):yee a o (n+1) (yjx l)=yjx l:=rfl
theorem ycfc{n:Nat}(a:List Nm)(o:Own)(l:List Cnt):pok a o (n+1) (yjx l)=True:=rfl
theorem yble(l:List Cnt):SV.cells (yjx l)=[yjx l]:=rfl
theorem ycsp(l:List Bool):one1 (blV l)=true:=rfl
theorem ybvx{n:Nat}(l:List Bool):owned (n+1) (blV l)=false:=rfl
theorem ybsy{n:Nat}(l:List Bool):scalar (n+1) (blV l)=false:=rfl
theorem yclz{n:Nat}(o:Own)(l:List Bool):view o (n+1) (blV l)=blV l:=rfl
theorem ycum{n:Nat}(o:Own)(l:List Bool):vok o (n+1) (blV l)=True:=rfl
theorem yczi{n:Nat}(h:Nm->Nm)(l:List Bool):ren h (n+1) (blV l)=blV l:=rfl
theorem ycyw{n:Nat}(D:Nm->Bool)(l:List Bool):cln D (n+1) (blV l)=true:=rfl
theorem ybzp{n:Nat}(a:List Nm)(o:Own)(l:List Bool):yee a o (n+1) (blV l)=blV l:=rfl
theorem ycvb{n:Nat}(a:List Nm)(o:Own)(l:List Bool):pok a o (n+1) (blV l)=True:=rfl
theorem ybwr(l:List Bool):SV.cells (blV l)=[blV l]:=rfl
attribute [go_sem] ycrg ycjm ybsc ycru ycyr ycws ycwf ybyw ycyg ycem ybns ybgx ybec ybmb ybvq ybtm ybrw ybgt ybto ybhn ybur ybmh ybhc ybue ycbp ybxm yccd ybma ycfc yble ycsp ybvx ybsy yclz ycum yczi ycyw ybzp ycvb ybwr
theorem Ct.found{P:Program}{g:FuncId}{args:List SV}{f:Type}{R:SV->f->Prop}{V:f->SV}{Q:SV->Prop}(h:Ct P g args fun r=>∃x,R r x)(n:∀r x,R r x->Sim r (V x))(l:∀r x,R r x->Q (V x)):Ct P g args Q:=fun G m p i j k=>by
 obtain⟨v,o,r,a,b,c,⟨x,d⟩,e⟩:=h G m p i j k;exact⟨v,o,V x,a,b,c,l r x d,n r x d _ _ _ e⟩
def ybah(e w:Nat):Nat:=if e<2^24 then resD e w else e
theorem ybye:ydnq ybah:=fun e w a=>by
 unfold ybah;split
 .exact yoo e w a ‹_›
 .exact⟨a,fun _ h=>h⟩
theorem ybyy(net:List Nat):DaemonOk 3 net ybah where
 resolve:=fun e w he hn h0 hw=>by unfold ybah;rw[if_pos he];exact(ybkx net).resolve e w he hn h0 hw
 permits:=fun e w he hn h0 hw=>by unfold ybah;rw[if_pos he];exact(ybkx net).permits e w he hn h0 hw
 zero:=(ybkx net).zero
 sub:=fun e w h0 he=>ybye e w h0
structure RunD(S:Sys)(res:Nat->Nat->Nat)(ws:List Nat)(c:Conf)(n:Nat)(Cs:List Conf)(Ks:List Cnt):Prop where
 cs:(S.runs res ws c).map (·.1)=Cs
 ks:(S.runs res ws c).map (·.2)=Ks
 len:(S.runs res ws c).length=n
 pos:0<n
 le:n<=ws.length+1
end Sh
end
section
namespace Sh
open Ev Go.RowKit
structure Layer(k low m:Nat)(kind:Int)(p q:ProgT)(Q1 Q2 Q3 Q4:(Nat->Option ABlk)->Value->Prop)(t tq:ByteArray)(G:Gr->Prop):Prop where
 graph:∀{x:NetR},x.ok->Ct zG 5 [.i .i64 k,.ag (netC x)] fun r=>∃g,G g/\Sim r (grV g)
 txt:Returns zG 7 [.i .i64 k] (.a (.string t))
 txtq:Returns zG 7 [.i .i64 low] (.a (.string tq))
 prog:Returns zG 6 [.a (.string t)] (.ag (ybs Q1 Q2 p.raw))
 progq:Returns zG 6 [.a (.string tq)] (.ag (ybs Q3 Q4 q.raw))
 chk:∀g,G g->Checked Q1 Q2 p g
 chkq:∀g,G g->Checked Q3 Q4 q g
 claim:∀g,G g->∃F S R M,Returns zG 8 [.i .i64 k,grV g] (.ag (ydq kind F S R M))
 vars:Returns zG 10 [.i .i64 k] (ybx p.vars)
 lowT:LowT q p
 lowB:Returns zG 14 [.ag (ybs Q1 Q2 p.raw),.i .u32 (2^m-1:Nat)] (.b true)
 m:q.vars.length=m/\1<=m/\m<=2
 kd:1<=kind/\kind<=4
 daemon:∀g,G g->∃(res:Nat->Nat->Nat) (R:Nat->Prop),DaemonOk kind (g.ports.map netP) res/\(∀e w,e≠0->e<2^24->R (res e w))/\(∀s t,subB s t->R t->R s) /\
  ∀e s:Nat,e<2^24->e<2^g.ids.length->s≠0->subB s e->R s->Returns zG 213 [usV (g.ports.map netP),.i .i64 kind,.i .u32 e,.i .u32 s] (.b true)
 legit:∀g,G g->∀c,ycb q g c=true->yh q g c=0->Returns zG 19 [.i .i64 low,grV g,ybf c] (.b true)
section
variable {k low m:Nat}{kind:Int}{p q:ProgT}{Q1 Q2 Q3 Q4:(Nat->Option ABlk)->Value->Prop}{t tq:ByteArray}{G:Gr->Prop}
set_option maxHeartbeats 4000000 in
theorem yid (L:Layer k low m kind p q Q1 Q2 Q3 Q4 t tq G) {j:Nat}{y:Int}(f9:inK .i64 y) (d:ycf y 6=j) (g8:j<6) (g5:k<15)
 (g1:zBA 1 (zBB (j*1) [SV.i .i64 5,SV.i .i64 10,SV.i .i64 11,SV.i .i64 12,SV.i .i64 13,SV.i .i64 14])=[.i .i64 k])
 (g2:zBA 1 (zBB (k*1) [SV.i .i64 0,SV.i .i64 0,SV.i .i64 0,SV.i .i64 0,SV.i .i64 0,SV.i .i64 4,SV.i .i64 0,SV.i .i64 0,SV.i .i64 0,SV.i .i64 0,SV.i .i64 8,SV.i .i64 0,SV.i .i64 0,SV.i .i64 0,SV.i .i64 0])=[.i .i64 low])
 {M:Nat}(hM:M=2^m-1) (hd:(k=5/\M=1)\/(k=10/\M=1)\/(k≠5/\k≠10/\M=3)) {x:NetR}(hx:x.ok) {raw:List Int}(hr:∀k,inK .i64 (raw.getD k 0)) {l:List Nat}(hb:∀k,l.getD k 0<2^32) (H:Returns zG 20 [] (.b true)) :
 Returns zG 3 [.i .i64 y,.ag (netC x),yj raw,usV l] (.b true):=by
 refine Returns.of ((okGU 3) [1000000000] _ _ ?_);have hW:=ydz y 6 (by decide) f9
 rw[d]at hW;have hG:=L.graph hx;simp only[netC]at hG;simp only[cdE 3,rgE 3 0,rgE 3 1,netC,yj,usV,splice,clash,go_sem,zA,zB,zD,zC,zF,↓reduceIte,reduceCtorEq];refine hW.use ?_;simp only[ylo,clash,g1,go_sem,zA,zB,↓reduceIte,reduceCtorEq]
 repeat refine ydc ?_
 simp only[rgE 3 2,splice,clash,g2,go_sem,zA,zB,zD,zC,zF,↓reduceIte,reduceCtorEq]
 repeat refine ydc ?_
 have go:∀z:Int,z=M->(SV.i .u32 z=SV.i .u32 M):=fun z hz=>by rw[hz]
 rcases hd with⟨hk,h1⟩|⟨hk,h1⟩|⟨g9,g4,h1⟩
 case' inl =>
  have e5:((k:Int)==5)=true:=by rw[beq_iff_eq];omega
  simp only[rgE 3 3,rgE 3 4,clash,e5,go_sem,zA,zB,↓reduceIte,reduceCtorEq];rw[go 1 (by omega)]
 case' inr.inl =>
  have e5:((k:Int)==5)=false:=by rw[beq_eq_false_iff_ne];omega
  have a9:((k:Int)==10)=true:=by rw[beq_iff_eq];omega
  simp only[rgE 3 3,rgE 3 4,clash,e5,a9,go_sem,zA,zB,↓reduceIte,reduceCtorEq];rw[go 1 (by omega)]
 case' inr.inr =>
  have e5:((k:Int)==5)=false:=by rw[beq_eq_false_iff_ne];omega
  have a9:((k:Int)==10)=false:=by rw[beq_eq_false_iff_ne];omega
  simp only[rgE 3 3,clash,e5,a9,go_sem,zA,zB,↓reduceIte,reduceCtorEq];rw[go 3 (by omega)]
 all_goals
  simp only[rgE 3 5,clash,go_sem,zA,zB,zF,↓reduceIte,reduceCtorEq];refine hG.found (V:=grV) (fun r g h=>h.2) fun r g h=>?_;obtain⟨hg,-⟩:=h;have o:=L.chk g hg;have c5:=L.chkq g hg;have P:=o.hg;have d8:=L.txt;have f3:=L.txtq;have d7:=L.prog;have d6:=L.progq;obtain⟨cF,cS,cR,cM,c4⟩:=L.claim g hg;have f4:=L.vars;have b1:=ybuu P o.hp o.hf hr;have b4:=ybok l hb 50 (by omega)
  simp only[grV]at c4 b1;simp only[ybs]at d7 d6;simp only[usV,yj]at b4 b1;simp only[ylo,splice,clash,grV,go_sem,zA,zB,zC,↓reduceIte];simp only[rgE 3 6,go_sem,zA,zB,zF,↓reduceIte];refine d8.use ?_;simp only[yw,ylo,splice,clash,go_sem,zA,zB,zC,zF,↓reduceIte,reduceCtorEq];refine d7.use ?_;simp only[go_sem,zA,zB,↓reduceIte];refine f3.use ?_;simp only[go_sem,↓reduceIte];refine d6.use ?_;simp only[go_sem,zB,↓reduceIte]
  simp only[rgE 3 7,clash,go_sem,zA,zB,zF,↓reduceIte,reduceCtorEq];refine c4.use ?_;simp only[ylo,clash,ydq,go_sem,zA,zB,zD,↓reduceIte,reduceCtorEq];simp only[rgE 3 8,go_sem,zA,zB,zF,↓reduceIte,reduceCtorEq];refine f4.use ?_;simp only[ylo,clash,go_sem,zA,zB,zF,↓reduceIte,reduceCtorEq];refine b1.found (V:=ybf) (fun r c h=>h.2) fun r c h=>?_;obtain⟨b5,-⟩:=h;refine⟨by decide,?_⟩
  obtain⟨res,R,hD,e7,e8,e9⟩:=L.daemon g hg;simp only[rgE 3 9,clash,go_sem,zA,zB,zF,↓reduceIte,reduceCtorEq];refine b4.found (V:=usV) (fun r ws h=>h.2) fun r ws h=>?_;obtain⟨⟨h3,hw,f8⟩,-⟩:=h;obtain⟨st,E⟩:∃st,st=stAt (ybq p g) res ws c (yeo (yh p g c)):=⟨_,rfl⟩;obtain⟨N,hN,n1,n2⟩:=yctv (fun i=>yh p g (st i).1) ws.length;have c7:=yzy o L.kd hD b5 hw (by omega) E hN n1 n2
  have b3:=yczl L.prog o L.kd hD b5 hw (by omega)
  have e1:=ybab (ybq p g) res ws c N (fun j d=>by have:=n1 j d;rw[E]at this;exact this) hN (by rw[E]at n2;exact n2)
  rw[show(zBH (N+1)).map (fun j=>stAt (ybq p g) res ws c (yeo ((ybq p g).en c)) j)=mapR (N+1) st by rw[E];rfl]at e1
  rw[e1,yun,yun]at b3;have g3:N<=50:=by omega
  simp only[grV,usV,ybs,yfe]at c7;simp only[grV,usV,yfv,yjx,yfe]at b3;simp only[ylo,splice,clash,usV,go_sem,zA,zB,zC,zF,↓reduceIte,reduceCtorEq];refine c7.use ?_;simp only[cntV,go_sem,zA,zB,↓reduceIte];refine⟨by decide,?_⟩
  simp only[rgE 3 10,go_sem,zA,zB,zF,↓reduceIte];refine⟨by decide,d8.use ?_⟩
  simp only[yw,ylo,clash,go_sem,zA,zB,zF,↓reduceIte,reduceCtorEq];refine b4.found (V:=usV) (fun r ws h=>h.2) fun r Q h=>?_;obtain⟨⟨g6,-,e2⟩,-⟩:=h
  obtain rfl:Q=ws:=List.ext_getElem (by omega) fun i h1 h2=>by
   have a:=f8 i h2;have b:=e2 i h1;rw[<-b]at a
   simpa[zAB,h1,h2]using a.symm
  simp only[usV,go_sem,↓reduceIte];refine⟨by decide,b3.use ?_⟩
  simp only[go_sem,zA,↓reduceIte];refine⟨by decide,?_⟩
  have b2:=L.lowB;rw[<-hM]at b2;simp only[ybs]at b2;have d1:(((N+1:Nat):Int)!=(N:Int)+1)=false:=by rw[bne_eq_false_iff_eq];omega
  simp only[rgE 3 11,rgE 3 13,rgE 3 14,clash,d1,bne_self_eq_false,go_sem,zA,zB,zD,zF,↓reduceIte,reduceCtorEq]
  repeat refine ydc ?_
  refine b2.use ?_;simp only[ylo,clash,go_sem,zA,zB,↓reduceIte];obtain⟨c0,b7,b8⟩:=L.m;have hid:=P.2.2.1;have g7:=P.2.1;have b0:2^g.ids.length<=2^24:=zAO (by omega) (by omega)
  have a3:∀i,st (i+1)=(yez p g (st i).1 (res (yh p g (st i).1) (Q.getD i 0)),addP (st i).2 (res (yh p g (st i).1) (Q.getD i 0)) (yh p g (yez p g (st i).1 (res (yh p g (st i).1) (Q.getD i 0))))):=fun i=>by
   rw[E];exact yqa (ybq p g) res i Q c _
  obtain⟨O,a5⟩:∃O:Nat->Nat,∀i,res (yh p g (st i).1) (Q.getD i 0)=O i:=⟨_,fun _=>rfl⟩;have B:∀i,yh p g (st i).1<2^24:=fun i=>zAD (yrx p g _) b0
  have Y:∀i,i<N->O i≠0/\subB (O i) (yh p g (st i).1):=fun i n=>by
   rw[<-a5 i];exact hD.sub _ _ (n1 i n) (B i)
  have X:∀i,i<N->O i<2^24:=fun i n=>ygj (Y i n).2 (B i)
  have A:∀i,i<=N->ycb p g (st i).1=true:=fun i=>by
   induction i with
   |zero=>intro _;rw[E];exact b5
   | succ i ih =>
     intro n;rw[a3 i];exact yhz P o.hp o.hf (ih (by omega)) _
  have e:∀i,i<=N->(st i).1.length=g.ids.length:=fun i n=>(ydf P o.hp (A i n)).len.trans (by omega)
  have a0:∀i,i<=N->∀v,v<(st i).1.length->m<=((st i).1.getD v []).length/\((st i).1.getD v []).length<=6:=fun i n v hv=>by
   have h1:=(ydf P o.hp (A i n)).at_ (v:=v) (by rw[e i n]at hv;omega)
   have h2:=congrArg zBS L.lowT.vars;rw[zCB]at h2;have d9:=o.hp;unfold ProgT.ok at d9;simp only[zH,decide_eq_true_eq]at d9;omega
  have b9:∀i,i<=N->ycb q g (prjC m (st i).1)=true:=fun i n=>by
   have:=L.lowT.conf (A i n)
   rwa [c0]at this
  simp only[a5]
  let f:Nat->Nat:=fun i=>O i&&&yh q g (prjC m (st i).1)
  let CS:SV:=.sl 1 (N+1) fun i=>[ybf ((mapR (N+1) fun k=>(st k).1).getD i [])]
  let TR:List SV:=[.sl 1 N fun k=>[.i .u32 ((mapR N O).getD k 0:Nat)],.sl 1 (N+1) fun k=>[.i .u32 ((mapR (N+1) fun i=>yh p g (st i).1).getD k 0:Nat)],ybf (st N).1,.i .i64 (st N).2.steps,.i .i64 (st N).2.moves,.i .i64 (st N).2.rounds,.i .i64 (st N).2.begun,.i .u32 (st N).2.pend]
  let T:Own:=[(17,.one (some ⟨47,true,8,1,fun _=>TR⟩)),(14,.one (some ⟨35,true,3,1,fun _=>[.a (.string q.raw.name),.ex Q3 (ybx q.raw.vars),.ex Q4 (ydr q.raw.rules)]⟩)),(12,.one (some ⟨30,true,2,1,fun _=>[yj g.ids,yba g.ports]⟩))]
  let U:List (Nat×SV):=[(19,CS),(17,.pt (17,0) 0 0),(16,ybf c),(15,.i .i64 kind),(14,.pt (14,0) 0 0),(12,.pt (12,0) 0 0),(11,.i .u32 M),(10,.i .i64 low),(8,.b false)]
  obtain⟨ss,a6,a7⟩:∃ss:Nat->SS,(∀i,i<N->ss i=⟨(23,.i .i64 i)::(22,.os (61,0) 0 (schP f i).length true)::U,(61,.one (some ⟨27,false,1,(schP f i).length,fun j=>[.i .u32 ((schP f i).getD j 0:Nat)]⟩))::T⟩) /\
   ∀i,i=N->ss i=⟨(23,.i .i64 i)::(22,.sl 1 (schP f i).length fun j=>[.i .u32 ((schP f i).getD j 0:Nat)])::U,T⟩ :=
   ⟨fun i=>if i<N then⟨(23,.i .i64 i)::(22,.os (61,0) 0 (schP f i).length true)::U,(61,.one (some ⟨27,false,1,(schP f i).length,fun j=>[.i .u32 ((schP f i).getD j 0:Nat)]⟩))::T⟩
     else⟨(23,.i .i64 i)::(22,.sl 1 (schP f i).length fun j=>[.i .u32 ((schP f i).getD j 0:Nat)])::U,T⟩,fun i n=>if_pos n,fun i n=>if_neg (by omega)⟩
  refine ybk (σ:=Nat) ss (fun i=>i<=N) (fun i=>N-i) 0 (zK _) ?_ ?_
  .by_cases e4:0<N
   .rw[a6 0 e4];refine ybm [] [61] [] ?_;simp only[U,CS,TR,T,schP,zBO,wk,go_sem,zA,zC,zF,↓reduceIte,reduceCtorEq];exact⟨(61,0),rfl,rfl,rfl⟩
   .rw[a7 0 (by omega)]
    refine yx ?_;simp only[U,CS,TR,T,schP,zBO,wk,go_sem,zA,zC,↓reduceIte,reduceCtorEq];exact yvf
  .intro i n
   by_cases C:i<N
   .rw[a6 i C];have d2:=dLt C;have c1:(mapR (N+1) fun k=>(st k).1).getD i []=(st i).1:=gmR _ _ _ _ (by omega)
    have c2:(mapR N O).getD i 0=O i:=gmR _ _ _ _ C;have e6:=yom (m:=m) (M:=M) hM ⟨b7,b8⟩ (c:=(st i).1) (by rw[e i n];omega) (a0 i n)
    have c6:=yvv c5 (b9 i n);simp only[ybs,grV]at c6;have f5:yh q g (prjC m (st i).1)<2^24:=zAD (yrx q g _) b0;have W:=u32_and (a:=O i) (b:=yh q g (prjC m (st i).1)) (zCG (X i C) (by decide)) (zCG f5 (by decide))
    obtain⟨F,hF⟩:∃F,f i=F:=⟨_,rfl⟩;have g0:F<2^24:=by rw[<-hF];exact Nat.lt_of_le_of_lt Nat.and_le_left (X i C)
    rw[show((O i&&&yh q g (prjC m (st i).1):Nat):Int)=(F:Int)by rw[<-hF]]at W
    simp only[IntKind.bits]at W;have D:schP f (i+1)=if F=0 then schP f i else schP f i++[F]:=by rw[<-hF];rfl
    have f7:=ybdk f i;simp only[rgE 3 15,rgE 3 17,U,CS,TR,T,d2,c1,c2,clash,go_sem,zA,zB,zD,zF,↓reduceIte,reduceCtorEq]
    repeat refine ydc ?_
    refine e6.use ?_;simp only[ylo,clash,go_sem,zA,zB,zF,↓reduceIte,reduceCtorEq];refine c6.use ?_;simp only[W,go_sem,↓reduceIte];refine⟨by decide,?_⟩
    by_cases h0:F=0
    .have z0:((F:Int)!=0)=false:=by rw[bne_eq_false_iff_eq];omega
     rw[if_pos h0]at D;simp only[rgE 3 16,rgE 3 18,z0,clash,go_sem,zA,zB,↓reduceIte,reduceCtorEq]
     repeat refine ydc ?_
     refine ybb (i+1) C (by omega) ?_
     by_cases b6:i+1<N
     .rw[a6 _ b6];refine yx ?_;simp only[U,CS,TR,T,D,wk,go_sem,zA,zC,↓reduceIte,reduceCtorEq];omega
     .rw[a7 _ (by omega)]
      refine ybm [] [] [(61,0)] ?_;simp only[U,CS,TR,T,D,wk,go_sem,zA,zD,zC,↓reduceIte,reduceCtorEq];omega
    .have z0:((F:Int)!=0)=true:=by rw[bne_iff_ne];omega
     rw[if_neg h0]at D;obtain⟨L0,c8⟩:∃L,schP f i=L:=⟨_,rfl⟩;rw[c8]at D f7;simp only[rgE 3 16,rgE 3 18,rgE 3 19,z0,c8,splice,clash,go_sem,zA,zB,zD,zC,zF,↓reduceIte,reduceCtorEq]
     repeat refine ydc ?_
     refine ybb (i+1) C (by omega) ?_
     have a8:∀j,j<L0.length+1->(if j<L0.length then[SV.i .u32 (L0.getD j 0:Nat)]else zBA 1 (zBB ((j-L0.length)*1) [SV.i .u32 (F:Nat)]))=[SV.i .u32 ((L0++[F]).getD j 0:Nat)]:=fun j d=>by
      rw[yqd]
      by_cases q1:j<L0.length
      .rw[if_pos q1,if_pos q1]
      .obtain rfl:j=L0.length:=by omega
       rw[if_neg q1,zAK,if_neg q1,if_pos rfl];rfl
     by_cases b6:i+1<N
     .rw[a6 _ b6];refine ybm [(61,fun j=>(138,j))] [] [] ?_;simp only[U,CS,TR,T,D,zL,wk,go_sem,zA,zC,↓reduceIte,reduceCtorEq];refine⟨by omega,fun j d=>?_⟩
      rw[yqd]
      by_cases q1:j<L0.length
      .simp only[if_pos q1];simp only[wk,go_sem,reduceCtorEq]
      .obtain rfl:j=L0.length:=by omega
       simp only[if_neg q1,zAK,zBK];simp only[wk,go_sem,↓reduceIte,reduceCtorEq]
     .rw[a7 _ (by omega)]
      refine ybm [] [] [(138,0)] ?_;simp only[U,CS,TR,T,D,zL,wk,go_sem,zA,zD,zC,↓reduceIte,reduceCtorEq];exact⟨fun j d=>by rw[a8 j d];rfl,by omega,yel fun j d=>by rw[a8 j d];exact⟨⟨Sim.refl _,trivial⟩,rfl⟩⟩
   .obtain rfl:i=N:=by omega
    have J:st 0=(c,yeo (yh p g c)):=by rw[E];rfl
    have a2:∀j,j<i->(st (j+1)).1=yez p g (st j).1 (O j):=fun j _=>by rw[a3 j,a5 j]
    obtain⟨K,hK⟩:∃K,yeo (yh q g (prjC m c))=K:=⟨_,rfl⟩;have w:=L.lowT.play a2 (fun j d=>(Y j d).2) e K i (zAA _);have I:=L.lowT.sched a2 (fun j d=>(Y j d).2) e K (R:=R) (fun j d s hs=>e8 s _ hs (by rw[<-a5 j];exact e7 _ _ (n1 j d) (B j))) i (zAA _)
    rw[c0,J]at w I;simp only at w I;have f1:=ybdk f i;obtain⟨S,hS⟩:∃S,schP f i=S:=⟨_,rfl⟩;have f0:schP (fun i=>O i&&&yh q g (prjC m (st i).1)) i=S:=hS;rw[f0]at w I;rw[hS]at f1;have e0:=b9 0 (zK _);rw[J]at e0;have a1:∀j,j<S.length->_:=fun j d=>I j (S.getD j 0) (by rw[getD_at d];exact zN d)
    have a4:=ycri c5 L.kd e0 (ws:=S) (by omega) (st:=fun j=>plS (ybq q g) (prjC m c,K) (S.take j)) (by rw[hK];rfl)
     (fun j d=>by
       show plS _ _ (S.take (j+1))=_;rw[zAZ d,ybot,getD_at d];rfl)
     (fun j d=>⟨(a1 j d).1,(a1 j d).2.1⟩)
     (fun j d=>e9 _ _ (zAD (yrx q g _) b0) (yrx q g _) (a1 j d).1 (a1 j d).2.1 (a1 j d).2.2)
    obtain⟨kz,f6⟩:∃z,(plS (ybq q g) (prjC m c,K) (S.take S.length)).2=z:=⟨_,rfl⟩;have hend:(plS (ybq q g) (prjC m c,K) (S.take S.length)).1=prjC m (st i).1:=by rw[zBL];exact w
    have u:(mapR (S.length+1) fun j=>yh q g (plS (ybq q g) (prjC m c,K) (S.take j)).1).getD S.length 0=yh q g (prjC m (st i).1):=by
     rw[gmR _ _ _ _ (zAY _),hend]
    simp only[f6,hend]at a4;obtain⟨ML,d0⟩:∃l,(mapR (S.length+1) fun j=>yh q g (plS (ybq q g) (prjC m c,K) (S.take j)).1)=l:=⟨_,rfl⟩;have e3:ML.length=S.length+1:=by rw[<-d0,yfe]
    rw[d0]at a4 u;simp only[ybs,grV,usV,cntV,e3,yfe]at a4;have d4:=yom (m:=m) (M:=M) hM ⟨b7,b8⟩ (c:=c) (by have:=e 0 (zK _);rw[J]at this;have this:c.length=_:=this;omega) (by have:=a0 0 (zK _);rw[J]at this;exact this)
    have d5:=yom (m:=m) (M:=M) hM ⟨b7,b8⟩ (c:=(st i).1) (by rw[e i n];omega) (a0 i n)
    rw[a7 _ rfl];simp only[rgE 3 15,rgE 3 20,U,CS,TR,T,hS,zAF,clash,go_sem,zA,zB,zD,zF,↓reduceIte,reduceCtorEq];refine d4.use ?_;simp only[ylo,splice,clash,go_sem,zA,zB,zC,zF,↓reduceIte,reduceCtorEq];refine a4.use ?_;simp only[go_sem,zA,zB,↓reduceIte];refine⟨by decide,by decide,?_⟩
    have f2:=ybzk (prjC m (st i).1) (by have:=e i n;simp only[prjC,zS];omega) (fun s hs=>by
     unfold prjC at hs;obtain⟨r,-,rfl⟩:=List.mem_map.1 hs;rw[zCB];omega)
    have d3:(((S.length+1:Nat):Int)!=(S.length:Int)+1)=false:=by rw[bne_eq_false_iff_eq];omega
    simp only[rgE 3 21,clash,zCF,go_sem,zA,zB,zD,zF,↓reduceIte,reduceCtorEq];refine d5.use ?_;simp only[ylo,clash,go_sem,zA,zB,zF,↓reduceIte,reduceCtorEq];refine f2.use ?_;simp only[clash,d3,go_sem,zA,zB,zD,↓reduceIte,reduceCtorEq]
    repeat refine ydc ?_
    have dI:((i+1:Nat):Int)-1=(i:Int):=by omega
    have c3:(mapR (i+1) fun j=>yh p g (st j).1).getD i 0=yh p g (st i).1:=gmR _ _ _ _ (zAY _)
    by_cases hz:yh p g (st i).1=0
    .have Z:yh q g (prjC m (st i).1)=0:=by
      have:=L.lowT.rest hz
      rwa [c0]at this
     have c9:=L.legit g hg (prjC m (st i).1) (b9 i n) Z;simp only[grV]at c9;rw[Z]at u;rw[hz]at c3;simp only[rgE 3 23,dI,c3,u,zCA,zCF,clash,go_sem,zA,zB,zD,zF,↓reduceIte,reduceCtorEq]
     repeat refine ydc ?_
     refine c9.use ?_;simp only[ylo,clash,rgE 3 25,go_sem,zA,zB,zF,↓reduceIte,reduceCtorEq];refine H.use ?_;simp only[go_sem];exact Sim.refl _
    .have zE:(((yh p g (st i).1:Nat):Int)==0)=false:=by rw[beq_eq_false_iff_ne];omega
     simp only[rgE 3 23,rgE 3 25,dI,c3,zE,clash,go_sem,zA,zB,zD,zF,↓reduceIte,reduceCtorEq]
     repeat refine ydc ?_
     refine H.use ?_;simp only[ylo,clash,go_sem,zB,↓reduceIte,reduceCtorEq];exact Sim.refl _
end
end Sh
end
section
namespace Sh
open Ev Go.RowKit
theorem ybuh(nm:ByteArray)(b d c:Int):Returns zG 130 [.a (.string nm),.i .i64 b,.i .i64 d,.i .i64 c] (.ag (varC ⟨nm,1,0,b,d,c⟩)):=by
 refine Returns.of ((okG 130) _ _ ?_);simp only[cdE 130,rgE 130 0,rgE 130 1,varC,go_sem,zA,zB,zD,zC,↓reduceIte,reduceCtorEq];exact Sim.refl _
end Sh
end
section
namespace Sh
open Ev Go.RowKit
end Sh
end
section
structure Stab(g:Gr)(c:Conf)(v:Nat):Prop where
 low:¬Peak g v->lAt c v=0
 one:Peak g v->(∀u,adj g v u->htP g u<htP g v)->lAt c v=1
 two:Peak g v->∀u,adj g v u->htP g u=htP g v->lAt c u≠lAt c v
section
variable {nm nh nl nf nd nt ni:ByteArray}{g:Gr}{c:Conf}{u v w s:Nat}
theorem ydaf(a:ybe g):Sh.yhj (ycag nm nh nl nf nd nt ni) g=true:=by
 have b:=a.1;have d:=a.2.1;have e:=a.2.2.1;simp[Sh.yhj,ycag,ybj];omega
end
end
section
theorem ybit{c:Type}(f:c->Int)(p:c->Bool):∀(l:List c) (m:Int),m<=l.foldl (fun m w=>if p w then max m (f w)else m) m/\(∀w∈l,p w=true->f w<=l.foldl (fun m w=>if p w then max m (f w)else m) m)/\∀t,m<=t->(∀w∈l,p w=true->f w<=t)->l.foldl (fun m w=>if p w then max m (f w)else m) m<=t
 |[],m=>⟨zAP _,fun w a=>absurd a zAG,fun t b _=>b⟩
 | x :: l,m=>by
   obtain⟨d,j,k⟩:=ybit f p l (if p x then max m (f x)else m)
   rw[zBP];refine⟨?_,fun w a i=>?_,fun t b h=>k t ?_ fun w a=>h w (zAN _ a)⟩
   .refine zBY ?_ d;split<;>omega
   .rcases List.mem_cons.1 a with e|a
    .subst e;refine zBY ?_ d;rw[if_pos i];omega
    .exact j w a i
   .by_cases q:p x=true
    .rw[if_pos q];have:=h x zAC q;omega
    .rw[if_neg q];exact b
section
variable {g:Gr}{u v:Nat}
def yrs(g:Gr)(v u:Nat)(m:Int)(l:Int×Int):Int:=if (l.1 != (v:Int))=true then max m (1+rchP g u l.1.toNat)else m
theorem Tr.rch_loop(h:Tr g)(c:adj g v u):(g.ports.getD u []).foldl (yrs g v u) 1=rchP g v u:=by
 obtain⟨r,a⟩:=h.good.adj_lt c;obtain⟨m,n,o⟩:=ybit (fun l:Int×Int=>1+rchP g u l.1.toNat) (fun l:Int×Int=>l.1 != (v:Int)) (g.ports.getD u []) 1;refine Int.le_antisymm (o _ (h.rch_pos c) fun l b f=>?_) ?_
 .obtain⟨i,_,j,_⟩:=yfg h.good a b;rw[bne_iff_ne]at f;exact h.rch_step c j (fun e=>f (by omega))
 .rcases zBV (rchP g v u) 2 with q|q
  .exact zBY (by omega) m
  .obtain⟨x,p,d,e⟩:=h.rch_from c q;obtain⟨l,b,k⟩:=ymk p;obtain⟨i,_⟩:=yfg h.good a b;have:=n l b (by rw[bne_iff_ne];intro e;exact d (by omega))
   rw[k]at this;rw[e];exact this
theorem Tr.rch_less(h:Tr g)(c:adj g v u){l:Int×Int}(f:l∈g.ports.getD u [])(a:l.1≠(v:Int)):rchP g u l.1.toNat<rchP g v u:=by
 obtain⟨j,b⟩:=h.good.adj_lt c;obtain⟨i,_,d,_⟩:=yfg h.good b f;have:=h.rch_step c d (fun e=>a (by omega))
 omega
def ytt(s:Int×Int)(x:Int):Int×Int:=(max s.1 x,max s.2 (min x s.1))
theorem yckh{s:Int×Int}{x:Int}(h:s.2<=s.1):ytt s x=step2 s x:=by
 unfold ytt step2;split<;>(try split)<;>(refine Prod.ext ?_ ?_<;>simp only<;>omega)
theorem ybrh:∀(l:List Int) (s:Int×Int),s.2<=s.1->l.foldl ytt s=l.foldl step2 s
 |[],_,_=>rfl
 | x::l,s,h=>by
   rw[zBP,zBP,<-yckh h];exact ybrh l _ (by unfold ytt;simp only;omega)
theorem ycvm(g:Gr)(v:Nat):(((g.ports.getD v []).map fun l=>rchP g v l.1.toNat).foldl ytt (0,0)).2=htP g v:=by
 rw[ybrh _ _ (zAP _)];rfl
end
end
section
def yss(g:Gr)(k:Nat):Int:=(zBH k).foldl (fun m v=>max m (ybu (ybr g v))) 0
abbrev ybeh(g:Gr):Int:=yss g g.ports.length
section
variable {g:Gr}{a b v:Nat}
theorem ypc(k:Nat):yss g (k+1)=max (yss g k) (ybu (ybr g k)):=by
 unfold yss;rw[List.range_succ,List.foldl_append];rfl
theorem ywc:∀k,0<=yss g k
 |0=>zAP _
 | k+1=>by
   rw[ypc];have:=ywc k;omega
end
end
section
def yim(g:Gr)(k:Nat):Nat:=((g.ports.take k).map zBS).sum
theorem ytw{g:Gr}{k:Nat}(h:k<g.ports.length):yim g (k+1)=yim g k+(g.ports.getD k []).length:=by
 unfold yim;rw[zAZ h,List.map_append,List.sum_append,Sh.getD_at h];simp
theorem ymz{g:Gr}(a:ybe g):∀k,k<=g.ports.length->yim g k<=24*k
 |0,_=>by simp[yim]
 | k+1,h=>by
   rw[ytw (by omega)]
   have:=ymz a k (by omega)
   have:=a.deg_lt (v:=k);omega
theorem yvo(g:Gr):yim g g.ports.length=yhq g:=by unfold yim yhq;rw[zBL]
def yxg(g:Gr):Nat:=yhq g/2
namespace Sh
open Ev Go.RowKit
def ycqd(g:Gr):List SV:=if yhc g=true then[.i .i64 g.ports.length,.i .i64 (yxg g)]else[.i .i64 0,.i .i64 0]
theorem ycku(n:Nat):((n:Nat):Int).tdiv 2=((n/2:Nat):Int):=by
 rw[Int.tdiv_eq_ediv_of_nonneg (by omega)]
 omega
theorem ybht{g:Gr}(p:GrI g):Returns zG 122 [grV g] (.tp (ycqd g)):=by
 refine Returns.of ((okG 122) _ _ ?_);have a:=yhy p;unfold ycqd;cases l:yhc g with
 | false =>
   rw[l]at a;simp only[grV]at a;simp only[cdE 122,rgE 122 0,rgE 122 1,rgE 122 2,grV,clash,go_sem,zA,zB,zC,↓reduceIte];refine a.use ?_;simp only[yw,clash,go_sem,zA,zB,↓reduceIte];exact Sim.refl _
 | true =>
   have f:=(ycm g).1 l;have j:=f.2.1;have h:=f.2.2.1;obtain⟨n,b⟩:∃n,g.ports.length=n:=⟨_,rfl⟩;rw[l]at a;simp only[grV]at a;rw[b]at j h;simp only[cdE 122,rgE 122 0,rgE 122 1,rgE 122 3,grV,clash,go_sem,zA,zB,zC,↓reduceIte];refine a.use ?_;simp only[yw,yba,b,clash,go_sem,zA,zB,↓reduceIte,reduceCtorEq];refine ybk (σ:=Nat) (fun k=>⟨[(12,.i .i64 k),(11,.i .i64 n),(10,yba g.ports),(3,.i .i64 (yim g k:Nat)),(1,.pt (1,0) 0 0)],[(1,.one (some ⟨30,true,2,1,fun _=>[yj g.ids,yba g.ports]⟩))]⟩) (fun k=>k<=n) (fun k=>n-k) 0 (zK _) ?_ ?_
   .refine yx ?_;simp only[yba,b,wk,go_sem,zA,zC,↓reduceIte,reduceCtorEq];rfl
   intro k hk
   by_cases s:k<n
   .have t1:decide ((k:Int)<(n:Int))=true:=decide_eq_true (by omega)
    have m:=ytw (g:=g) (k:=k) (by omega)
    have q:=ymz f k (by omega)
    have r:=f.deg_lt (v:=k);obtain⟨d,c⟩:∃d,(g.ports.getD k []).length=d:=⟨_,rfl⟩;rw[c]at m r;have e:(yim g k:Int)+(d:Int)=((yim g (k+1):Nat):Int):=by rw[m];omega
    simp only[rgE 122 4,rgE 122 5,rgE 122 6,rgE 122 7,yba,ybd,b,t1,c,e,clash,go_sem,zA,zB,↓reduceIte,reduceCtorEq];refine⟨by omega,ikw (by omega) (by omega),ikw (by omega) (by omega),?_⟩
    refine ybw (k+1) ?_;refine yx ?_;simp only[wk,go_sem,zA,zC,↓reduceIte,reduceCtorEq];omega
   .obtain rfl:k=n:=by omega
    have t1:decide ((k:Int)<(k:Int))=false:=decide_eq_false (by omega)
    have q:=ymz f k (by omega)
    have e:=yvo g;rw[b]at e;have o:=ycku (yim g k);simp only[rgE 122 4,rgE 122 8,yba,yj,b,h,t1,o,clash,go_sem,zA,zB,zD,↓reduceIte,reduceCtorEq];unfold yxg;rw[<-e];exact⟨⟨by decide,ikw (by omega) (by omega)⟩,Sim.refl _⟩
theorem ybik{g:Gr}(f:GrI g):Returns zG 208 [grV g] (.b (yck g)):=by
 refine Returns.of ((okG 208) _ _ ?_);have c:=yih f;have d:=ybht f;unfold yck;cases a:ycj g with
 | false =>
   rw[a]at c;simp only[grV]at c;simp only[cdE 208,rgE 208 0,rgE 208 1,rgE 208 2,grV,clash,go_sem,zA,zB,zC,↓reduceIte];refine c.use ?_;simp only[yw,clash,go_sem,zB,↓reduceIte];exact Sim.refl _
 | true =>
   have h:=ygv a;have j:=(ycm g).1 h;have i:=j.2.1;rw[a]at c;unfold ycqd at d;rw[if_pos h]at d;simp only[grV]at c d;simp only[cdE 208,rgE 208 0,rgE 208 1,rgE 208 3,rgE 208 4,grV,clash,go_sem,zA,zB,zC,↓reduceIte];refine c.use ?_;simp only[yw,clash,go_sem,zA,zB,↓reduceIte,reduceCtorEq];refine d.use ?_;simp only[go_sem,zA,↓reduceIte];refine⟨ikw (by omega) (by omega),?_⟩
   have e:(((yxg g:Nat):Int)==(g.ports.length:Int)-1)=decide (yhq g/2+1=g.ports.length):=by
    rw[zAS,beq_iff_eq,decide_eq_true_iff];unfold yxg;omega
   rw[<-e];exact Sim.refl _
theorem yccj{g:Gr}(b:ybe g):∀k,k<=g.ports.length->yss g k<=24
 |0,_=>by show(0:Int)<=24;decide
 | k+1,h=>by
   rw[ypc];have d:=yccj b k (by omega)
   have e:ybu (ybr g k)<=24:=ytu _ _ (by omega) fun x c=>((yec b (a:=k) (by omega)).bound b (by omega) x c).2
   omega
theorem ybwx{g:Gr}(q:GrI g):Returns zG 118 [grV g] (.i .i64 (if ycj g=true then ybeh g else -1)):=by
 refine Returns.of ((okG 118) _ _ ?_);have c:=yih q;cases b:ycj g with
 | false =>
   rw[b]at c;simp only[grV]at c;simp only[cdE 118,rgE 118 0,rgE 118 1,rgE 118 2,grV,clash,go_sem,zA,zB,zC,↓reduceIte];refine c.use ?_;simp only[yw,clash,go_sem,zB,↓reduceIte];exact Sim.refl _
 | true =>
   have l:=(ycm g).1 (ygv b);have f:=l.2.1;have j:yss g 0=0:=rfl;obtain⟨n,e⟩:∃n,g.ports.length=n:=⟨_,rfl⟩;rw[b]at c;simp only[grV]at c;rw[e]at f;simp only[cdE 118,rgE 118 0,rgE 118 1,rgE 118 3,rgE 118 4,grV,clash,go_sem,zA,zB,zC,↓reduceIte];refine c.use ?_;simp only[yw,yba,e,clash,go_sem,zA,zB,↓reduceIte,reduceCtorEq];refine ybk (σ:=Nat) (fun k=>⟨[(11,.i .i64 k),(10,.i .i64 n),(3,.i .i64 (yss g k)),(1,.pt (1,0) 0 0)],[(1,.one (some ⟨30,true,2,1,fun _=>[yj g.ids,yba g.ports]⟩))]⟩) (fun k=>k<=n) (fun k=>n-k) 0 (zK _) ?_ ?_
   .refine yx ?_;simp only[yba,e,j,wk,go_sem,zA,zC,↓reduceIte,reduceCtorEq]
   intro k hk
   by_cases r:k<n
   .have t1:decide ((k:Int)<(n:Int))=true:=decide_eq_true (by omega)
    have d:=ybas l (a:=k) (by omega)
    have m:=yhg l (a:=k) (by omega)
    have h:=ybjk (ybr g k) (by omega)
    have o:=ypc (g:=g) k;obtain⟨D,p⟩:∃D,ybr g k=D:=⟨_,rfl⟩;rw[p]at d h o m;simp only[grV]at d;simp only[yj,m]at h d;simp only[rgE 118 5,rgE 118 6,rgE 118 7,rgE 118 8,yba,t1,clash,go_sem,zA,zB,↓reduceIte,reduceCtorEq];refine d.use ?_;simp only[yw,clash,go_sem,zA,zB,↓reduceIte,reduceCtorEq];refine h.use ?_;simp only[<-o,go_sem,zA,↓reduceIte];refine⟨ikw (by omega) (by omega),?_⟩
    refine ybw (k+1) ?_;refine yx ?_;simp only[go_sem,wk,go_sem,zA,zC,↓reduceIte,reduceCtorEq];omega
   .obtain rfl:k=n:=by omega
    have t1:decide ((k:Int)<(k:Int))=false:=decide_eq_false (by omega)
    simp only[rgE 118 5,rgE 118 9,t1,clash,go_sem,zA,zB,↓reduceIte,reduceCtorEq];unfold ybeh;rw[e];exact Sim.refl _
end Sh
end
section
namespace Ev
theorem ybuk(a:Int):eqInt a a=true:=by cases a<;>exact zO _
theorem ytx:∀l:List UInt8,eqBytes l l=true
 |[]=>rfl
 | x::l=>by
   show(zU x.toNat x.toNat&&eqBytes l l)=true;rw[zO,ytx l];rfl
theorem ybbf{ρ:Nat->Nat}{a:Addr}(h:a.spot.isNone=true):eqAddr (renA ρ a) (renA ρ a)=true:=by
 rw[ymq];unfold eqAddr;simp only[zO,h,Bool.and_self]
theorem yccy{ρ:Nat->Nat}{v:Value}(b:yui v=true)(h:eq1 v v=true):eq1 (ren1 ρ v) (ren1 ρ v)=true:=by
 unfold yui at b;split at b
 .exact ybbf b
 .rename_i a n c
  show(eqAddr (renA ρ a) (renA ρ a)&&zU n n&&zU c c)=true;rw[ybbf b,zO,zO];rfl
 .rename_i d e
  have:ren1 ρ v=v:=by
   unfold ren1;split
   .rename_i a;exact absurd rfl (d a)
   .rename_i a n c;exact absurd rfl (e a n c)
   .rfl
  rw[this];exact h
theorem yvb{ρ:Nat->Nat}:∀{l:List Value},l.all yui=true->eqL1 l l=true->eqL1 (l.map (ren1 ρ)) (l.map (ren1 ρ))=true
 |[],_,_=>rfl
 | x::l,a,h=>by
   simp only[zCD,zH]at a;have h:(eq1 x x&&eqL1 l l)=true:=h;rw[zH]at h;show(eq1 (ren1 ρ x) (ren1 ρ x)&&eqL1 (l.map (ren1 ρ)) (l.map (ren1 ρ)))=true;rw[yccy a.1 h.1,yvb a.2 h.2];rfl
theorem ycen{v:Value}(b:∀a,v = .agg a->False)(d:∀g a c,v = .func (.func g) a c->False):eq2 v v=eq1 v v:=by
 cases v with
 |agg a=>exact(b a rfl).elim
 | func f a c=>cases f with
   |func g=>exact(d g a c rfl).elim
   |_=>rfl
 |_=>rfl
theorem ycia{ρ:Nat->Nat}{v:Value}(b:∀a,v = .agg a->False)(d:∀g a c,v = .func (.func g) a c->False)(e:yui v=true):ren2 ρ v=ren1 ρ v:=by
 cases v with
 |agg a=>exact(b a rfl).elim
 | func f a c=>cases f with
   |func g=>exact(d g a c rfl).elim
   |_=>cases e
 |_=>rfl
theorem yzu{ρ:Nat->Nat}{v:Value}(b:yui v=true):(∀a,ren1 ρ v = .agg a->False)/\∀g a c,ren1 ρ v = .func (.func g) a c->False:=by
 cases v with
 |agg a=>cases b
 |func f a c=>cases b
 |pointer p=>cases p<;>exact⟨fun _ h=>(by cases h),fun _ _ _ h=>(by cases h)⟩
 |slice p n c=>cases p<;>exact⟨fun _ h=>(by cases h),fun _ _ _ h=>(by cases h)⟩
 |_=>exact⟨fun _ h=>(by cases h),fun _ _ _ h=>(by cases h)⟩
theorem ycae{ρ:Nat->Nat}{v:Value}(b:ynp v=true)(h:eq2 v v=true):eq2 (ren2 ρ v) (ren2 ρ v)=true:=by
 unfold ynp at b;split at b
 .rename_i a
  have h:eqL1 a.toList a.toList=true:=h;show eqL1 (a.toList.map (ren1 ρ)).toArray.toList (a.toList.map (ren1 ρ)).toArray.toList=true;exact yvb b h
 .rename_i g a c
  rw[zH]at b;have h:(zU g g&&eqL1 a.toList a.toList&&eqL1 c.toList c.toList)=true:=h;simp only[zH]at h;show(zU g g&&eqL1 (a.toList.map (ren1 ρ)).toArray.toList (a.toList.map (ren1 ρ)).toArray.toList&&eqL1 (c.toList.map (ren1 ρ)).toArray.toList (c.toList.map (ren1 ρ)).toArray.toList)=true;rw[zO,yvb b.1 h.1.2,yvb b.2 h.2];rfl
 .rename_i d e
  rw[ycen d e]at h;rw[ycia d e b,ycen (yzu b).1 (yzu b).2];exact yccy b h
def reflB(b:BlkL):Bool:=b.l.all (fun v=>eq2 v v&&ynp v)&&zAQ b.l.length 1000000
theorem ywo{ρ:Nat->Nat}{b:BlkL}(h:reflB b=true):∀v∈(b.ren ρ).l,eq2 v v=true:=by
 unfold reflB at h;rw[zH]at h;intro v a;obtain⟨x,c,rfl⟩:=List.mem_map.1 a;have:=List.all_eq_true.1 h.1 x c;rw[zH]at this;exact ycae this.2 this.1
theorem yrl{l:List Value}(h:∀v∈l,eq2 v v=true):∀(k:List Value) (n:Nat),l.drop n=k->cellsAre (tOf l) n k=true
 |[],_,_=>rfl
 | v :: k,n,e=>by
   have a:n<l.length:=by
    rcases Nat.lt_or_ge n l.length with q|q
    .exact q
    .rw[zBR q]at e;cases e
   rw[zBI a]at e
   injection e with e1 e2
   unfold cellsAre;rw[ycx,zN a,e1];simp only;rw[h v (by rw[<-e1];exact zW _),yrl h k (n+1) e2]
   rfl
theorem ysn{m:Mem}{b:BlkL}(a:m.b.get b.i=some b.blk)(h:∀v∈b.l,eq2 v v=true)(c:zAQ b.l.length 1000000=true):blkIs m b=true:=by
 unfold blkIs;rw[a];show(zU b.l.length b.l.length&&zU b.e b.e&&zU b.z b.z&&zAQ b.l.length 1000000&&cellsAre (tOf b.l) 0 b.l)=true;rw[zO,zO,zO,c,yrl h b.l 0 (List.drop_zero ..)];rfl
theorem yqq:∀{l:List BlkL}{t:T ABlk}{i:Nat},(∀b∈l,b.i≠i)->(blksT t l).get i=t.get i
 |[],_,_,_=>rfl
 | b::l,t,i,h=>by
   unfold blksT;rw[T.strict_eq,yqq fun c a=>h c (zAN _ a),T.set_at,if_neg (fun e=>h b zAC e.symm)]
theorem yqh:∀{l:List BlkL}{t:T ABlk},yho (l.map (·.i))=true->∀b∈l,(blksT t l).get b.i=some b.blk
 |[],_,_,b,a=>by cases a
 | c :: l,t,h,b,a=>by
   have h:(!(l.map (·.i)).elem c.i&&yho (l.map (·.i)))=true:=h;rw[zH,zAV]at h;unfold blksT;rw[T.strict_eq];rcases List.mem_cons.1 a with e|a
   .subst e;rw[yqq fun d f e=>?_,T.set_at,if_pos rfl];have:(l.map (·.i)).elem b.i=true:=List.elem_eq_true_of_mem (List.mem_map.2 ⟨d,f,e⟩);rw[this]at h;cases h.1
   .exact yqh h.2 b a
theorem ymg:∀{l:List Nat},l.Nodup->yho l=true
 |[],_=>rfl
 | x :: l,h=>by
   rw[zBQ]at h;show(!(l.elem x)&&yho l)=true
   have:l.elem x=false:=by
    cases a:l.elem x with
    |false=>rfl
    |true=>exact absurd (by simpa using a) h.1
   rw[this,ymg h.2];rfl
theorem ybdx:∀{l:List Nat},yho l=true->l.Nodup
 |[],_=>zBT
 | x::l,h=>by
   have h:(!(l.elem x)&&yho l)=true:=h;rw[zH,zAV]at h;rw[zBQ];refine⟨fun a=>?_,ybdx h.2⟩;have:l.elem x=true:=by simpa using a
   rw[this]at h;cases h.1
theorem ybou{d:Nat}:∀{l:List BlkL}{k:List Nat},(l.map (·.i)).Nodup->l.length=k.length->l.map (fun b=>ybbu l k d b.i)=k
 |[],[],_,_=>rfl
 | b :: l,t::k,a,g=>by
   rw[zBU,zBQ]at a;have m:=ybou (d:=d) a.2 (by simpa using g)
   rw[zBU];have e:ybbu (b::l) (t::k) d b.i=t:=by unfold ybbu;rw[zO];rfl
   rw[e];congr 1;refine zCH (zZ fun c f=>?_) m;show(bif zU b.i c.i then t else ybbu l k d c.i)=_
   have:zU b.i c.i=false:=by
    cases j:zU b.i c.i with
    |false=>rfl
    |true=>exact absurd (List.mem_map.2 ⟨c,f,(zAE j).symm⟩) a.1
   rw[this];rfl
 |[],_::_,_,h=>by cases h
 |_::_,[],_,h=>by cases h
def Fact.still(f:Fact):Bool:=zBD f.next0 f.low&&f.args.all ynp&&ycfh f.v&&f.pre.all (fun b=>zAQ b.i f.next0&&reflB b)&&yho (f.pre.map (·.i))&&f.post.all (fun b=>zBD f.next0 b.i&&zAQ b.i f.next1&&reflB b)&&yho (f.post.map (·.i))&&zBD f.next0 f.next1
theorem ycuj{a b:Nat}(h:zAQ a b=true):a<b:=zAD (zAY _) (zV h)
theorem ybop{a b:Nat}(h:a<b):zAQ a b=true:=zAM h
theorem ylb{f:Fact}(h:f.still=true):f.next0<=f.low/\(f.args.all ynp=true/\ycfh f.v=true)/\(∀b∈f.pre,b.i<f.next0/\reflB b=true)/\(f.pre.map (·.i)).Nodup/\(∀b∈f.post,f.next0<=b.i/\b.i<f.next1/\reflB b=true)/\(f.post.map (·.i)).Nodup/\f.next0<=f.next1:=by
 unfold Fact.still at h;simp only[zH]at h;obtain⟨⟨⟨⟨⟨⟨⟨c,d⟩,e⟩,g⟩,j⟩,k⟩,l⟩,m⟩:=h;refine⟨zV c,⟨d,e⟩,fun b a=>?_,ybdx j,fun b a=>?_,ybdx l,zV m⟩
 .have:=List.all_eq_true.1 g b a;rw[zH]at this;exact⟨ycuj this.1,this.2⟩
 .have:=List.all_eq_true.1 k b a;simp only[zH]at this;exact⟨zV this.1.1,ycuj this.1.2,this.2⟩
theorem ycfa{f:Fact}{tgt:List Nat}{n0:Nat}(g:∀b∈f.pre,b.i<f.next0/\reflB b=true)(e:(f.pre.map (·.i)).Nodup)(c:f.pre.length=tgt.length):f.pre.map (fun b=>f.rho tgt n0 b.i)=tgt:=by
 refine zCH (zZ fun b a=>?_) (ybou (d:=Nat.add n0 (Nat.sub f.next1 f.next0)) e c);unfold Fact.rho;have j:=(g b a).1
 have:(zBD f.next0 b.i&&zAQ b.i f.next1)=false:=by
  rw[Bool.and_eq_false_iff];left
  cases h:zBD f.next0 b.i with
  |false=>rfl
  |true=>have:=zV h;omega
 rw[this];rfl
theorem ybcc{f:Fact}{tgt:List Nat}{n0 i:Nat}(a:f.next0<=i)(b:i<f.next1):f.rho tgt n0 i=i-f.next0+n0:=by
 unfold Fact.rho;rw[Bool.cond_eq_ite,if_pos (by rw[zAM a,ybop b];rfl)]
 rfl
theorem yrw{P:Program}{f:Fact}{tgt:List Nat}{n0:Nat}(r:ybp P f)(E:f.still=true)(C:f.pre.length=tgt.length)(D:tgt.Nodup)(q:∀t∈tgt,t<n0):ybp P (f.move tgt n0):=by
 refine ybg r ?_;obtain⟨H,⟨I,J⟩,m,K,j,z,L⟩:=ylb E
 have k:(f.move tgt n0).pre.map (·.i)=tgt:=by
  show(f.pre.map (BlkL.ren (f.rho tgt n0))).map (·.i)=tgt;rw[zAU];exact zCH (zZ fun b a=>b.ygb) (ycfa (n0:=n0) m K C)
 have s:yho ((f.move tgt n0).post.map (·.i))=true:=by
  refine ymg ?_;show((f.post.map (BlkL.ren (f.rho tgt n0))).map (·.i)).Nodup
  have e:(f.post.map (BlkL.ren (f.rho tgt n0))).map (·.i)=(f.post.map (·.i)).map (fun i=>i-f.next0+n0):=by
   rw[zAU,zAU];refine zZ fun b a=>?_;show(b.ren (f.rho tgt n0)).i=b.i-f.next0+n0;rw[b.ygb,ybcc (j b a).1 (j b a).2.1]
  rw[e];unfold List.Nodup at z ⊢;rw[zAW];refine List.Pairwise.imp_of_mem (fun {x y} F G h=>?_) z;obtain⟨B,o,rfl⟩:=List.mem_map.1 F;obtain⟨n,p,rfl⟩:=List.mem_map.1 G;have:=(j B o).1;have:=(j n p).1;omega
 have g:yho ((f.move tgt n0).pre.map (·.i))=true:=by rw[k];exact ymg D
 unfold Fact.moves;simp only[zH];refine⟨⟨⟨⟨⟨⟨⟨⟨zAM H,I⟩,J⟩,?_⟩,?_⟩,g⟩,?_⟩,?_⟩,zAM L⟩
 .refine List.all_eq_true.2 fun b a=>?_;have:=(m b a).2;unfold reflB at this;rw[zH]at this;rw[ybop (m b a).1,zY];exact List.all_eq_true.2 fun v u=>by have:=List.all_eq_true.1 this.1 v u;rw[zH]at this;exact this.2
 .refine List.all_eq_true.2 fun b a=>?_;have:=(j b a).2.2;unfold reflB at this;rw[zH]at this;rw[ybop (j b a).2.1,zY];exact List.all_eq_true.2 fun v u=>by have:=List.all_eq_true.1 this.1 v u;rw[zH]at this;exact this.2
 .refine List.all_eq_true.2 fun A c=>?_;obtain⟨b,a,rfl⟩:=List.mem_map.1 c;have d:=(m b a).2;have w:(b.ren (f.rho tgt n0)).i∈(f.move tgt n0).pre.map (·.i):=List.mem_map.2 ⟨_,c,rfl⟩;rw[k]at w;rw[ybop (q _ w),zY];refine ysn (yqh g _ c) (ywo d) ?_;show zAQ (b.l.map _).length 1000000=true;rw[zS];unfold reflB at d;rw[zH]at d;exact d.2
 .refine List.all_eq_true.2 fun A c=>?_;obtain⟨b,a,rfl⟩:=List.mem_map.1 c;have d:=(j b a).2.2;refine ysn (yqh s _ c) (ywo d) ?_;show zAQ (b.l.map _).length 1000000=true;rw[zS];unfold reflB at d;rw[zH]at d;exact d.2
end Ev
end
section
namespace Sh
open Go Ev
def Lies(B:List BlkL)(v:Value)(F:AM)(u:Value):Prop :=
 ∃ρ:Nat->Nat,(∀b∈B,∀c∈B,ρ b.i=ρ c.i->b.i=c.i)/\(∀b∈B,F (ρ b.i)=some (b.ren ρ).blk)/\u=ren1 ρ v
theorem Lies.mono{B:List BlkL}{v:Value}(F G:AM)(u:Value)(h:Le F G)(k:Lies B v F u):Lies B v G u:=by
 obtain⟨ρ,a,c,d⟩:=k;exact⟨ρ,a,fun b e=>h _ _ (c b e),d⟩
def ydnd(B:List BlkL)(j:Nat):Option BlkL:=B.find? fun b=>zU b.i j
def yclc(p:Nat->Bool):Nat->Bool
 |0=>true
 |n+1=>p n&&yclc p n
theorem ybrg{p:Nat->Bool}:∀{n:Nat},yclc p n=true->∀k,k<n->p k=true
 |0,_,k,h=>absurd h (zAI k)
 | n+1,h,k,hk=>by
   have h:(p n&&yclc p n)=true:=h;rw[zH]at h
   by_cases q:k=n
   .rw[q];exact h.1
   .exact ybrg h.2 k (by omega)
def ybon(B:List BlkL)(z n:Nat)(row:Nat->List Value->Bool):Value->Bool
 | .slice (some a) m _=>a.spot.isNone&&zU m n&&(match ydnd B a.block with
   |some b=>zU b.z z&&zBD (a.off+n*z) b.l.length&&yclc (fun k=>row k ((b.l.drop (a.off+k*z)).take z)) n
   |none=>false)
 |.slice none 0 0=>zU n 0
 |_=>false
theorem yuk {B:List BlkL}{F:AM}{ρ:Nat->Nat}{z n:Nat}{row:Nat->List Value->Bool}{v:Value}{g:Nat->List SV}(D:∀b∈B,F (ρ b.i)=some (b.ren ρ).blk) (h:ybon B z n row v=true)
 (I:∀k L,k<n->row k L=true->L.length=z/\RVL F om0 (g k) (L.map (ren2 ρ))/\(g k).all one1=true):RV F om0 (.sl z n g) (ren1 ρ v):=by
 unfold ybon at h;split at h
 .rename_i a m c
  simp only[zH]at h;obtain⟨⟨x,y⟩,f⟩:=h;split at f
  .rename_i b u
   simp only[zH]at f;obtain⟨⟨f,s⟩,C⟩:=f;have H:m=n:=zAE y;have J:=zAE f;have s:=zV s;have q:=List.mem_of_find?_eq_some u;have E:b.i=a.block:=zAE (List.find?_some (p:=fun b:BlkL=>zU b.i a.block) u);have r:=D b q;rw[E]at r;show RV F om0 _ (.slice (some (renA ρ a)) m c);rw[ymq];subst H;obtain⟨A,o,K⟩:=a;have t:K=none:=by simpa using x
   subst t;have r:F (ρ A)=some (.cells (tOf (b.l.map (ren2 ρ))) (b.l.map (ren2 ρ)).length b.e b.z):=r;have d:∀k,k<m->_:=fun k hk=>I k _ hk (ybrg C k hk);refine .sl (L:=fun k=>((b.l.drop (o+k*z)).take z).map (ren2 ρ)) r (.inl J) (by rw[zS];exact s) ?_ ?_ (fun k hk=>(d k hk).2.1) (fun k hk=>(d k hk).2.2)
   .intro k hk;rw[zS];exact(d k hk).1
   .intro k hk j G;rw[ycx];simp only[List.getElem?_map,List.getElem?_take,zBW,G,if_true]
  .cases f
 .have h:zU n 0=true:=h;have w:=zAE h;subst w;exact .sl0 (.inl rfl)
 .cases h
def isI(v:Value)(n:Int):Bool:=match v with
 |.int .i64 m=>eqInt m n
 |_=>false
def isS(v:Value)(s:ByteArray):Bool:=match v with
 |.string t=>eqBytes t.data.toList s.data.toList
 |_=>false
theorem ytj{F:AM}{ρ:Nat->Nat}{v:Value}{n:Int}(h:isI v n=true):RV F om0 (.i .i64 n) (ren2 ρ v):=by
 unfold isI at h;split at h
 .rw[yuy h];exact .i
 .cases h
theorem ycub{F:AM}{ρ:Nat->Nat}{v:Value}{s:ByteArray}(h:isS v s=true):RV F om0 (.a (.string s)) (ren2 ρ v):=by
 unfold isS at h;split at h
 .rename_i t
  have e:=yrp h
  have:t=s:=by
   cases t;cases s
   congr 1;exact Array.toList_inj.1 e
  rw[this];exact .a rfl
 .cases h
def ydda(ls:List (Int×Int))(k:Nat):List Value->Bool
 |[x,y]=>isI x (ls.getD k (0,0)).1&&isI y (ls.getD k (0,0)).2
 |_=>false
def yctq(l:List VarR)(k:Nat):List Value->Bool
 |[s,a,b,c,d,e]=>isS s (l.getD k default).name&&isI a (l.getD k default).kind&&isI b (l.getD k default).lo&&isI c (l.getD k default).hi&&isI d (l.getD k default).perNode&&isI e (l.getD k default).perID
 |_=>false
def ybby(B:List BlkL)(ls:List (Int×Int))(v:Value):Bool:=ybon B 2 ls.length (ydda ls) v
def isSl:Value->Bool
 |.slice _ _ _=>true
 |_=>false
def ycdn(B:List BlkL)(l:List SetR)(k:Nat):List Value->Bool
 |[a,v]=>isI a (l.getD k default).var&&isSl v&&ybby B (l.getD k default).val v
 |_=>false
def ybxl(B:List BlkL)(l:List RuleR)(k:Nat):List Value->Bool
 |[s,v,w]=>isS s (l.getD k default).name&&isSl v&&ybby B (l.getD k default).guard v&&isSl w&&ybon B 2 (l.getD k default).sets.length (ycdn B (l.getD k default).sets) w
 |_=>false
def ybmz(B:List BlkL)(v:Value)(l:List VarR):Bool:=ybon B 6 l.length (yctq l) v
def ybpr(B:List BlkL)(v:Value)(l:List RuleR):Bool:=ybon B 3 l.length (ybxl B l) v
section
variable {B:List BlkL}{F:AM}{ρ:Nat->Nat}
theorem yblg{v:Value}(h:isSl v=true):ren2 ρ v=ren1 ρ v:=by
 unfold isSl at h;split at h
 .rfl
 .cases h
theorem yxz(c:∀b∈B,F (ρ b.i)=some (b.ren ρ).blk){ls:List (Int×Int)}{v:Value}(h:ybby B ls v=true):RV F om0 (ybd ls) (ren1 ρ v):=by
 refine yuk c h fun k L hk a=>?_;unfold ydda at a;split at a
 .simp only[zH]at a;exact⟨rfl,.cons (ytj a.1) (.cons (ytj a.2) .nil),rfl⟩
 .cases a
theorem ybar(m:∀b∈B,F (ρ b.i)=some (b.ren ρ).blk){l:List VarR}{v:Value}(h:ybmz B v l=true):RV F om0 (ybx l) (ren1 ρ v):=by
 refine yuk m h fun k L hk a=>?_;unfold yctq at a;split at a
 .simp only[zH]at a;obtain⟨⟨⟨⟨⟨c,d⟩,e⟩,f⟩,g⟩,j⟩:=a;exact⟨rfl,.cons (ycub c) (.cons (ytj d) (.cons (ytj e) (.cons (ytj f) (.cons (ytj g) (.cons (ytj j) .nil))))),rfl⟩
 .cases a
theorem ybsa(c:∀b∈B,F (ρ b.i)=some (b.ren ρ).blk){l:List SetR}{v:Value}(h:ybon B 2 l.length (ycdn B l) v=true):RV F om0 (yki l) (ren1 ρ v):=by
 refine yuk c h fun k L hk a=>?_;unfold ycdn at a;split at a
 .simp only[zH]at a;obtain⟨⟨d,e⟩,f⟩:=a;refine⟨rfl,.cons (ytj d) (.cons ?_ .nil),rfl⟩;rw[yblg e];exact yxz c f
 .cases a
theorem ybmy(c:∀b∈B,F (ρ b.i)=some (b.ren ρ).blk){l:List RuleR}{v:Value}(h:ybpr B v l=true):RV F om0 (ydr l) (ren1 ρ v):=by
 refine yuk c h fun k L hk a=>?_;unfold ybxl at a;split at a
 .simp only[zH]at a;obtain⟨⟨⟨⟨d,e⟩,f⟩,g⟩,j⟩:=a;refine⟨rfl,.cons (ycub d) (.cons ?_ (.cons ?_ .nil)),rfl⟩
  .rw[yblg e];exact yxz c f
  .rw[yblg g];exact ybsa c j
 .cases a
end
structure LaidP(fp:Fact)(t:ByteArray)(p:ProgR)(vv vr:Value)(Bv Br:List BlkL):Prop where
 args:fp.args=[.string t]
 pre:fp.pre=[]
 v:fp.v = .agg #[.string p.name,vv,vr]
 still:fp.still=true
 bv:∀b∈Bv,b∈fp.post
 br:∀b∈Br,b∈fp.post
 vars:ybmz Bv vv p.vars=true
 rules:ybpr Br vr p.rules=true
theorem yht{P:Program}{fp:Fact}{t:ByteArray}{p:ProgR}{N M:Value}{Q O:List BlkL}(I:ybp P fp)(h:LaidP fp t p N M Q O):Returns P fp.g [.a (.string t)] (.ag (ybs (Lies Q N) (Lies O M) p)):=by
 intro G m Z L T K
 have V:Z=[.string t]:=by
  cases K with
  |cons a b=>cases a with|a _=>cases b with|nil=>rfl
 subst V;obtain⟨s1,⟨s2,s3⟩,s4,s5,q,R,s8⟩:=ylb h.still;have E:=yrw (tgt:=[]) (n0:=m.next) I h.still (by rw[h.pre];rfl) zBT (fun t U=>by cases U)
 obtain⟨ρ,o⟩:∃ρ,fp.rho [] m.next=ρ:=⟨_,rfl⟩
 have n:(fp.move [] m.next).post=fp.post.map (BlkL.ren ρ):=by rw[<-o];rfl
 have W:(fp.move [] m.next).v = .agg #[.string p.name,ren1 ρ N,ren1 ρ M]:=by
  show renV (fp.rho [] m.next) fp.v=_
  rw[o,h.v];rfl
 have l:(fp.move [] m.next).pre=[]:=by
  show fp.pre.map _=[];rw[h.pre];rfl
 have r:(fp.move [] m.next).fits fp.g [.string t] m=true:=by
  unfold Fact.fits;rw[l];show(zU fp.g fp.g&&zU m.next m.next&&eqL2 (fp.args.map (ren2 _)) [.string t]&&true)=true
  rw[zO,zO,h.args];show(true&&true&&(eqBytes t.data.toList t.data.toList&&true)&&true)=true;rw[ytx];rfl
 have f:∀b∈fp.post,ρ b.i=b.i-fp.next0+m.next:=fun b d=>by rw[<-o];exact ybcc (q b d).1 (q b d).2.1
 have H:yho ((fp.post.map (BlkL.ren ρ)).map (·.i))=true:=by
  refine ymg ?_
  have e:(fp.post.map (BlkL.ren ρ)).map (·.i)=(fp.post.map (·.i)).map (fun i=>i-fp.next0+m.next):=by
   rw[zAU,zAU];refine zZ fun b d=>?_;show(b.ren ρ).i=_;rw[b.ygb,f b d];rfl
  rw[e];unfold List.Nodup at R ⊢;rw[zAW];refine List.Pairwise.imp_of_mem (fun {x y} X Y h=>?_) R;obtain⟨S,z,rfl⟩:=List.mem_map.1 X;obtain⟨u,C,rfl⟩:=List.mem_map.1 Y;have:=(q S z).1;have:=(q u C).1;omega
 have J:=yuz E r;unfold Fact.out at J;rw[W,l,n]at J;refine⟨_,_,_,J,zAA _,?_,rfl,?_⟩
 .intro i b d;show(blksT m.b (fp.post.map (BlkL.ren ρ))).get i=some b;rw[yqq fun c j=>?_]
  .exact d
  .obtain⟨c,D,rfl⟩:=List.mem_map.1 j;have:=L i b d;rw[c.ygb,f c D];omega
 .have s:∀b∈fp.post,frsh m.next ⟨(fp.move [] m.next).next1,blksT m.b (fp.post.map (BlkL.ren ρ)),(fp.move [] m.next).low⟩ G (ρ b.i)=some (b.ren ρ).blk:=fun b d=>by
   unfold frsh;rw[if_pos (by rw[f b d];omega)]
   have:=yqh (t:=m.b) H _ (List.mem_map.2 ⟨b,d,rfl⟩);rw[b.ygb]at this;exact this
  have k:∀b∈fp.post,∀c∈fp.post,ρ b.i=ρ c.i->b.i=c.i:=fun b d c j e=>by
   rw[f b d,f c j]at e;have:=(q b d).1;have:=(q c j).1;omega
  refine .ag (.cons (.a rfl) (.cons (.ex ?_ (fun A B w=>Lies.mono A B w) ?_) (.cons (.ex ?_ (fun A B w=>Lies.mono A B w) ?_) .nil)))
  .exact⟨ρ,fun b d c j=>k b (h.bv b d) c (h.bv c j),fun b d=>s b (h.bv b d),rfl⟩
  .exact ybar (fun b d=>s b (h.bv b d)) h.vars
  .exact⟨ρ,fun b d c j=>k b (h.br b d) c (h.br c j),fun b d=>s b (h.br b d),rfl⟩
  .exact ybmy (fun b d=>s b (h.br b d)) h.rules
def inB(B:List BlkL):Value->Bool
 |.slice (some a) _ _=>(B.map (·.i)).elem a.block
 |.pointer (some a)=>(B.map (·.i)).elem a.block
 |.agg _=>false
 |.func _ _ _=>false
 |_=>true
theorem yjm{B:List BlkL}{ρ σ:Nat->Nat}(h:∀b∈B,ρ b.i=σ b.i){v:Value}(d:inB B v=true):ren1 ρ v=ren1 σ v:=by
 have hk:∀j,(B.map (·.i)).elem j=true->ρ j=σ j:=fun j g=>by
  have:j∈B.map (·.i):=by simpa using g
  obtain⟨b,e,rfl⟩:=List.mem_map.1 this;exact h b e
 cases v with
 | slice p n c=>cases p with
   |none=>rfl
   | some a =>
     show Value.slice (some (renA ρ a)) n c = .slice (some (renA σ a)) n c;rw[ymq,ymq,hk _ d]
 | pointer p=>cases p with
   |none=>rfl
   | some a =>
     show Value.pointer (some (renA ρ a)) = .pointer (some (renA σ a));rw[ymq,ymq,hk _ d]
 |agg a=>cases d
 |func f a c=>cases d
 |_=>rfl
theorem ybrc{B:List BlkL}{d:Nat->Nat}{v:Value}(b:inB B v=true):ren2 d v=ren1 d v:=by
 cases v with
 |agg a=>cases b
 |func f a c=>cases b
 |_=>rfl
theorem ybsb{B:List BlkL}{ρ σ:Nat->Nat}(h:∀b∈B,ρ b.i=σ b.i){v:Value}(a:inB B v=true):ren2 ρ v=ren2 σ v:=by
 rw[ybrc a,ybrc a];exact yjm h a
def ybmu(B:List BlkL):Bool:=B.all fun b=>b.l.all (inB B)
theorem ybfb{B:List BlkL}{ρ σ:Nat->Nat}(f:ybmu B=true)(h:∀b∈B,ρ b.i=σ b.i){b:BlkL}(c:b∈B):b.ren ρ=b.ren σ:=by
 have d:=List.all_eq_true.1 (List.all_eq_true.1 f b c)
 have e:∀a:Nat->Nat,b.ren a=⟨a b.i,b.e,b.z,b.l.map (ren2 a)⟩:=fun a=>by
  unfold BlkL.ren;rw[ybo]
 rw[e,e,h b c];congr 1;exact zZ fun v g=>ybsb h (d v g)
theorem ybbe{low:Nat}:∀{l:List BlkL}{t:T ABlk},(∀b∈l,b.i<low)->dropT t low l=t
 |[],_,_=>rfl
 | b :: l,t,h=>by
   have d:=h b zAC;unfold dropT
   have e:zBD low b.i=false:=by
    cases q:zBD low b.i with
    |false=>rfl
    |true=>have:=zV q;omega
   rw[e,ybh,if_neg (by simp)]
   exact ybbe fun c a=>h c (zAN _ a)
def u32s(ns:List Int):List Value:=ns.map fun n=>.int .u32 n
def u32S(ns:List Int):List SV:=ns.map fun n=>.i .u32 n
theorem ybqz{F:AM}{ω:Om}:∀{ns:List Int}{us:List Value},RVL F ω (u32S ns) us->us=u32s ns
 |[],_,.nil=>rfl
 | n::ns,_,.cons a b=>by
   rw[ybqz b,a.int_inv];rfl
theorem ybxe:∀ns:List Int,eqL2 (u32s ns) (u32s ns)=true
 |[]=>rfl
 | n::ns=>by
   show(eq2 (.int .u32 n) (.int .u32 n)&&eqL2 (u32s ns) (u32s ns))=true;rw[ybxe ns,zCE];show(eqK .u32 .u32&&eqInt n n)=true;rw[ybuk];rfl
theorem ycnd(ρ:Nat->Nat)(ns:List Int):(u32s ns).map (ren2 ρ)=u32s ns:=by
 unfold u32s;rw[zAU];rfl
structure GoodV(fv:Fact)(p:ProgR)(vv vr:Value)(Bv Br:List BlkL)(ns:List Int:=[]):Prop where
 args:fv.args = .agg #[.string p.name,vv,vr]::u32s ns
 pre:∀b∈fv.pre,b∈Bv\/b∈Br
 bv:∀b∈Bv,b∈fv.pre
 br:∀b∈Br,b∈fv.pre
 v:fv.v = .bool true
 post:fv.post=[]
 still:fv.still=true
 apart:(Bv.all fun b=>Br.all fun c=>!(zU b.e c.e) && !(zU b.i c.i))=true
 cv:ybmu Bv=true
 cr:ybmu Br=true
 iv:inB Bv vv=true
 ir:inB Br vr=true
 refl:eq2 (.agg #[.string p.name,vv,vr]) (.agg #[.string p.name,vv,vr])=true
theorem yil {P:Program}{fv:Fact}{p:ProgR}{w u:Value}{Bv z:List BlkL}{ns:List Int}(a7:ybp P fv)(h:GoodV fv p w u Bv z ns):Returns P fv.g (.ag (ybs (Lies Bv w) (Lies z u) p)::u32S ns) (.b true):=by
 intro G m us a9 L a8
 obtain⟨f,j,hu,a1,a2,a3,a4⟩:∃f j:Nat->Nat,us = .agg #[.string p.name,ren1 f w,ren1 j u]::u32s ns/\(∀b∈Bv,∀c∈Bv,f b.i=f c.i->b.i=c.i)/\(∀b∈Bv,G (f b.i)=some (b.ren f).blk) /\
  (∀b∈z,∀c∈z,j b.i=j c.i->b.i=c.i)/\∀b∈z,G (j b.i)=some (b.ren j).blk:=by
  cases a8 with
  | cons a b =>
    have k:=ybqz b;subst k;cases a with
    | ag K =>
      cases K with
      | cons x1 K =>
        cases x1
        cases K with
        | cons x2 K =>
          cases x2 with
          | ex q2 _ _ =>
            cases K with
            | cons x3 K =>
              cases x3 with
              | ex q3 _ _ =>
                cases K
                obtain⟨f,b1,b2,rfl⟩:=q2;obtain⟨j,b3,b4,rfl⟩:=q3;exact⟨f,j,rfl,b1,b2,b3,b4⟩
 subst hu;obtain⟨s1,⟨s2,s3⟩,s4,S,s6,s7,s8⟩:=ylb h.still
 have U:∀b∈Bv,∀c∈z,b.e≠c.e/\b.i≠c.i:=fun b k c A=>by
  have:=List.all_eq_true.1 (List.all_eq_true.1 h.apart b k) c A;simp only[zH,zAV]at this;exact⟨fun e=>(by rw[e,zO]at this;exact absurd this.1 (by decide)),fun e=>(by rw[e,zO]at this;exact absurd this.2 (by decide))⟩
 let R:Nat->Nat:=fun i=>if (Bv.map (·.i)).elem i then f i else j i
 have o:∀b∈Bv,∀c∈z,f b.i≠j c.i:=fun b k c A e=>by
  have T:=a2 b k;have e2:=a4 c A;rw[e,e2]at T
  injection T with T
  unfold BlkL.blk at T
  injection T with _ _ e3 _
  exact(U b k c A).1 e3.symm
 have hG:∀i b,G i=some b->i<m.next:=fun i b k=>a9 i b (L i b k)
 have sv:∀b∈Bv,R b.i=f b.i:=fun b k=>if_pos (by simpa using⟨b,k,rfl⟩)
 have sr:∀b∈z,R b.i=j b.i:=fun b k=>by
  refine if_neg fun q=>?_;have:b.i∈Bv.map (·.i):=by simpa using q
  obtain⟨d,hd,a5⟩:=List.mem_map.1 this;exact(U d hd b k).2 a5
 have s:∀b∈fv.pre,R b.i<m.next:=fun b k=>by
  rcases h.pre b k with q|q
  .rw[sv b q];exact hG _ _ (a2 b q)
  .rw[sr b q];exact hG _ _ (a4 b q)
 have Y:∀b∈fv.pre,∀c∈fv.pre,R b.i=R c.i->b.i=c.i:=fun b k c A e=>by
  rcases h.pre b k with q|q<;>rcases h.pre c A with E|E
  .rw[sv b q,sv c E]at e;exact a1 b q c E e
  .rw[sv b q,sr c E]at e;exact absurd e (o b q c E)
  .rw[sr b q,sv c E]at e;exact absurd e.symm (o c E b q)
  .rw[sr b q,sr c E]at e;exact a3 b q c E e
 obtain⟨n,r⟩:∃t,fv.pre.map (fun b=>R b.i)=t:=⟨_,rfl⟩
 have b0:∀t∈n,t<m.next:=fun t ht=>by
  rw[<-r]at ht;obtain⟨b,k,rfl⟩:=List.mem_map.1 ht;exact s b k
 have b5:n.Nodup:=by
  rw[<-r];have S:=S;unfold List.Nodup at S ⊢;rw[zAW]at S ⊢;exact List.Pairwise.imp_of_mem (fun {x y} hx hy h e=>h (Y x hx y hy e)) S
 have I:fv.pre.length=n.length:=by rw[<-r,zS]
 have a6:=yrw (n0:=m.next) a7 h.still I b5 b0
 have H:=ycfa (n0:=m.next) s4 S I
 obtain⟨ρ,Q⟩:∃ρ,fv.rho n m.next=ρ:=⟨_,rfl⟩
 rw[Q,<-r]at H;have N:∀b∈fv.pre,ρ b.i=R b.i:=List.map_inj_left.1 H;have D:∀b∈Bv,ρ b.i=f b.i:=fun b k=>by rw[N b (h.bv b k),sv b k]
 have C:∀b∈z,ρ b.i=j b.i:=fun b k=>by rw[N b (h.br b k),sr b k]
 have J:(fv.move n m.next).args = .agg #[.string p.name,ren1 f w,ren1 j u]::u32s ns:=by
  show fv.args.map (ren2 (fv.rho n m.next))=_
  rw[Q,h.args,zBU,ycnd,<-yjm D h.iv,<-yjm C h.ir];rfl
 have O:eqL2 (.agg #[.string p.name,ren1 f w,ren1 j u]::u32s ns) (.agg #[.string p.name,ren1 f w,ren1 j u]::u32s ns)=true:=by
  have hf:ynp (.agg #[.string p.name,w,u])=true:=by
   have:=s2;rw[h.args]at this;exact List.all_eq_true.1 this _ zAC
  have e:=ycae (ρ:=ρ) hf h.refl;rw[show ren2 ρ (.agg #[.string p.name,w,u]) = .agg #[.string p.name,ren1 ρ w,ren1 ρ u]from rfl,yjm D h.iv,yjm C h.ir]at e
  show(eq2 _ _&&eqL2 _ _)=true;rw[e,ybxe];rfl
 have X:∀b∈fv.pre,m.b.get (ρ b.i)=some (b.ren ρ).blk:=fun b k=>by
  rcases h.pre b k with q|q
  .rw[ybfb h.cv D q,D b q];exact L _ _ (a2 b q)
  .rw[ybfb h.cr C q,C b q];exact L _ _ (a4 b q)
 have hp:(fv.move n m.next).pre=fv.pre.map (BlkL.ren ρ):=by rw[<-Q];rfl
 have W:(fv.move n m.next).fits fv.g (.agg #[.string p.name,ren1 f w,ren1 j u]::u32s ns) m=true:=by
  unfold Fact.fits;rw[J,O];show(zU fv.g fv.g&&zU m.next m.next&&true&&(fv.move n m.next).pre.all (blkIs m))=true
  rw[zO,zO,hp];show List.all _ _=true;refine List.all_eq_true.2 fun b' a0=>?_;obtain⟨b,k,rfl⟩:=List.mem_map.1 a0;have Z:=(s4 b k).2;refine ysn ?_ (ywo Z) ?_
  .rw[b.ygb];exact X b k
  .show zAQ (b.l.map _).length 1000000=true;rw[zS];unfold reflB at Z;rw[zH]at Z;exact Z.2
 have hs:=yuz a6 W;unfold Fact.out at hs
 have hv:(fv.move n m.next).v = .bool true:=by
  show renV (fv.rho n m.next) fv.v=_
  rw[h.v];rfl
 have M:(fv.move n m.next).post=[]:=by
  show fv.post.map _=[];rw[h.post];rfl
 rw[hv,M]at hs;refine⟨_,_,_,hs,zAA _,?_,rfl,.b⟩;intro i b k;show(dropT m.b m.next (fv.move n m.next).pre).get i=some b
 rw[ybbe fun c A=>?_]
 .exact k
 .rw[hp]at A;obtain⟨c,V,rfl⟩:=List.mem_map.1 A;rw[c.ygb,N c V];exact s c V
theorem yhu{P:Program}{fv:Fact}{p:ProgR}{f e:Value}{d c:List BlkL}(a:ybp P fv)(h:GoodV fv p f e d c):Returns P fv.g [.ag (ybs (Lies d f) (Lies c e) p)] (.b true):=yil (ns:=[]) a h
end Sh
end
section
namespace Sh
open Go Ev
def IqP:ProgT:=ytf (by8 [105,110,100,101,112,101,110,100,101,110,116]) (by8 [109]) (by8 [108,101,97,118,101]) (by8 [101,110,116,101,114])
def Iqt:ByteArray:=ywp
def Iqv:Value:=.slice (some ⟨296,0,none⟩) 1 CU
def Iqr:Value:=.slice (some ⟨456,0,none⟩) 2 CU
def IqB:List BlkL:=ybay.post.take 1
def IqC:List BlkL:=ybay.post.drop 1
theorem ybsm:Returns zG 6 [.a (.string Iqt)] (.ag (ybs (Lies IqB Iqv) (Lies IqC Iqr) IqP.raw)) :=
 yht (fp:=ybay) (yc.at_ ycnk 0 rfl) ⟨rfl,rfl,rfl,by kernel_rfl,fun _ h=>zI h,fun _ h=>zJ h,by kernel_rfl,by kernel_rfl⟩
theorem ydhs:ycan.pre=ybay.post:=rfl
theorem ycpv:Returns zG 77 [.ag (ybs (Lies IqB Iqv) (Lies IqC Iqr) IqP.raw)] (.b true) :=
 yhu (fv:=ycan) (yc.at_ ycrd 0 rfl) ⟨rfl,fun b h=>by
  rw[ydhs,<-zQ 1 ybay.post]at h;exact List.mem_append.1 h,fun _ h=>zI h,fun _ h=>zJ h,rfl,rfl,by kernel_rfl,by kernel_rfl,by kernel_rfl,by kernel_rfl,by kernel_rfl,by kernel_rfl,by kernel_rfl⟩
theorem ydjp:IqP.ok=true:=by kernel_rfl
end Sh
end
section
namespace Sh
open Go Ev
def UqP:ProgT:=ycai (by8 [99,108,117,115,116,101,114]) (by8 [109]) (by8 [104]) (by8 [108,101,97,118,101]) (by8 [101,110,116,101,114]) (by8 [112,111,105,110,116])
def Uqt:ByteArray:=yoa
def Uqv:Value:=.slice (some ⟨560,0,none⟩) 2 CU
def Uqr:Value:=.slice (some ⟨887,0,none⟩) 3 CU
def UqB:List BlkL:=ytc.post.take 1
def UqC:List BlkL:=ytc.post.drop 1
theorem ybtf:Returns zG 6 [.a (.string Uqt)] (.ag (ybs (Lies UqB Uqv) (Lies UqC Uqr) UqP.raw)) :=
 yht (fp:=ytc) (yc.at_ yclb 0 rfl) ⟨rfl,rfl,rfl,by kernel_rfl,fun _ h=>zI h,fun _ h=>zJ h,by kernel_rfl,by kernel_rfl⟩
theorem ydcl:ybpy.pre=ytc.post:=rfl
theorem yckx:Returns zG 77 [.ag (ybs (Lies UqB Uqv) (Lies UqC Uqr) UqP.raw)] (.b true) :=
 yhu (fv:=ybpy) (yc.at_ ybpw 0 rfl) ⟨rfl,fun b h=>by
  rw[ydcl,<-zQ 1 ytc.post]at h;exact List.mem_append.1 h,fun _ h=>zI h,fun _ h=>zJ h,rfl,rfl,by kernel_rfl,by kernel_rfl,by kernel_rfl,by kernel_rfl,by kernel_rfl,by kernel_rfl,by kernel_rfl⟩
theorem ydmm:UqP.ok=true:=by kernel_rfl
theorem ycqn:Returns zG 14 [.ag (ybs (Lies UqB Uqv) (Lies UqC Uqr) UqP.raw),.i .u32 1] (.b true) :=
 yil (fv:=yblu) (ns:=[1]) (yc.at_ ycbr 0 rfl) ⟨rfl,fun b h=>by
  rw[show yblu.pre=ytc.post from rfl,<-zQ 1 ytc.post]at h
  exact List.mem_append.1 h,fun _ h=>zI h,fun _ h=>zJ h,rfl,rfl,by kernel_rfl,by kernel_rfl,by kernel_rfl,by kernel_rfl,by kernel_rfl,by kernel_rfl,by kernel_rfl⟩
end Sh
end
section
namespace Sh
open Go Ev
def VqP:ProgT:=ycfm (by8 [119,97,118,101]) (by8 [100]) (by8 [112]) (by8 [115]) (by8 [98]) (by8 [116,111,112]) (by8 [108,111,119]) (by8 [98,101,103,105,110]) (by8 [116,97,107,101]) (by8 [102,105,110,105,115,104])
def Vqt:ByteArray:=yed
def Vqv:Value:=.slice (some ⟨1628,0,none⟩) 4 CU
def Vqr:Value:=.slice (some ⟨2683,0,none⟩) 5 CU
def VqB:List BlkL:=ylx.post.take 1
def VqC:List BlkL:=ylx.post.drop 1
theorem ybtj:Returns zG 6 [.a (.string Vqt)] (.ag (ybs (Lies VqB Vqv) (Lies VqC Vqr) VqP.raw)) :=
 yht (fp:=ylx) (yc.at_ yccr 0 rfl) ⟨rfl,rfl,rfl,by kernel_rfl,fun _ h=>zI h,fun _ h=>zJ h,by kernel_rfl,by kernel_rfl⟩
theorem ydcy:ybca.pre=ylx.post:=rfl
theorem ycrx:Returns zG 77 [.ag (ybs (Lies VqB Vqv) (Lies VqC Vqr) VqP.raw)] (.b true) :=
 yhu (fv:=ybca) (yc.at_ ybgv 0 rfl) ⟨rfl,fun b h=>by
  rw[ydcy,<-zQ 1 ylx.post]at h;exact List.mem_append.1 h,fun _ h=>zI h,fun _ h=>zJ h,rfl,rfl,by kernel_rfl,by kernel_rfl,by kernel_rfl,by kernel_rfl,by kernel_rfl,by kernel_rfl,by kernel_rfl⟩
theorem ydnf:VqP.ok=true:=by kernel_rfl
theorem yckk:Returns zG 14 [.ag (ybs (Lies VqB Vqv) (Lies VqC Vqr) VqP.raw),.i .u32 3] (.b true) :=
 yil (fv:=ybnu) (ns:=[3]) (yc.at_ ycbf 0 rfl) ⟨rfl,fun b h=>by
  rw[show ybnu.pre=ylx.post from rfl,<-zQ 1 ylx.post]at h
  exact List.mem_append.1 h,fun _ h=>zI h,fun _ h=>zJ h,rfl,rfl,by kernel_rfl,by kernel_rfl,by kernel_rfl,by kernel_rfl,by kernel_rfl,by kernel_rfl,by kernel_rfl⟩
end Sh
end
section
namespace Sh
open Go Ev
def XqP:ProgT:=ycbs (by8 [99,108,111,99,107]) (by8 [100]) (by8 [112]) (by8 [120]) (by8 [116,111,112]) (by8 [108,111,119]) (by8 [116,105,99,107]) (by8 [99,111,112,121])
def Xqt:ByteArray:=yem
def Xqv:Value:=.slice (some ⟨1473,0,none⟩) 3 CU
def Xqr:Value:=.slice (some ⟨2433,0,none⟩) 4 CU
def XqB:List BlkL:=yma.post.take 1
def XqC:List BlkL:=yma.post.drop 1
theorem ybry:Returns zG 6 [.a (.string Xqt)] (.ag (ybs (Lies XqB Xqv) (Lies XqC Xqr) XqP.raw)) :=
 yht (fp:=yma) (yc.at_ ycgv 0 rfl) ⟨rfl,rfl,rfl,by kernel_rfl,fun _ h=>zI h,fun _ h=>zJ h,by kernel_rfl,by kernel_rfl⟩
theorem ydhy:ybcr.pre=yma.post:=rfl
theorem ycss:Returns zG 77 [.ag (ybs (Lies XqB Xqv) (Lies XqC Xqr) XqP.raw)] (.b true) :=
 yhu (fv:=ybcr) (yc.at_ ybfc 0 rfl) ⟨rfl,fun b h=>by
  rw[ydhy,<-zQ 1 yma.post]at h;exact List.mem_append.1 h,fun _ h=>zI h,fun _ h=>zJ h,rfl,rfl,by kernel_rfl,by kernel_rfl,by kernel_rfl,by kernel_rfl,by kernel_rfl,by kernel_rfl,by kernel_rfl⟩
theorem ydnv:XqP.ok=true:=by kernel_rfl
theorem ycpb:Returns zG 14 [.ag (ybs (Lies XqB Xqv) (Lies XqC Xqr) XqP.raw),.i .u32 3] (.b true) :=
 yil (fv:=ybly) (ns:=[3]) (yc.at_ ycgi 0 rfl) ⟨rfl,fun b h=>by
  rw[show ybly.pre=yma.post from rfl,<-zQ 1 yma.post]at h
  exact List.mem_append.1 h,fun _ h=>zI h,fun _ h=>zJ h,rfl,rfl,by kernel_rfl,by kernel_rfl,by kernel_rfl,by kernel_rfl,by kernel_rfl,by kernel_rfl,by kernel_rfl⟩
end Sh
end
section
namespace Sh
open Go Ev
def YqP:ProgT:=ybzj (by8 [115,110,97,112,115,104,111,116]) (by8 [100]) (by8 [112]) (by8 [115]) (by8 [98]) (by8 [120]) (by8 [97]) (by8 [116,111,112]) (by8 [108,111,119]) (by8 [98,101,103,105,110]) (by8 [116,97,107,101]) (by8 [102,105,110,105,115,104])
def Yqt:ByteArray:=ydu
def Yqv:Value:=.slice (some ⟨1910,0,none⟩) 6 CU
def Yqr:Value:=.slice (some ⟨3062,0,none⟩) 5 CU
def YqB:List BlkL:=yls.post.take 1
def YqC:List BlkL:=yls.post.drop 1
theorem ybss:Returns zG 6 [.a (.string Yqt)] (.ag (ybs (Lies YqB Yqv) (Lies YqC Yqr) YqP.raw)) :=
 yht (fp:=yls) (yc.at_ yciu 0 rfl) ⟨rfl,rfl,rfl,by kernel_rfl,fun _ h=>zI h,fun _ h=>zJ h,by kernel_rfl,by kernel_rfl⟩
theorem ydev:ybbr.pre=yls.post:=rfl
theorem ycqo:Returns zG 77 [.ag (ybs (Lies YqB Yqv) (Lies YqC Yqr) YqP.raw)] (.b true) :=
 yhu (fv:=ybbr) (yc.at_ ybge 0 rfl) ⟨rfl,fun b h=>by
  rw[ydev,<-zQ 1 yls.post]at h;exact List.mem_append.1 h,fun _ h=>zI h,fun _ h=>zJ h,rfl,rfl,by kernel_rfl,by kernel_rfl,by kernel_rfl,by kernel_rfl,by kernel_rfl,by kernel_rfl,by kernel_rfl⟩
theorem ydkn:YqP.ok=true:=by kernel_rfl
theorem ycmp:Returns zG 14 [.ag (ybs (Lies YqB Yqv) (Lies YqC Yqr) YqP.raw),.i .u32 3] (.b true) :=
 yil (fv:=ybme) (ns:=[3]) (yc.at_ ycgg 0 rfl) ⟨rfl,fun b h=>by
  rw[show ybme.pre=yls.post from rfl,<-zQ 1 yls.post]at h
  exact List.mem_append.1 h,fun _ h=>zI h,fun _ h=>zJ h,rfl,rfl,by kernel_rfl,by kernel_rfl,by kernel_rfl,by kernel_rfl,by kernel_rfl,by kernel_rfl,by kernel_rfl⟩
end Sh
end
end Go.Proofs.YtlbonpgkofloeaaGreatDoor
