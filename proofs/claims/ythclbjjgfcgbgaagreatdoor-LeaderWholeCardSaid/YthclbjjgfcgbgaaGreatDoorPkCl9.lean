/- Joined. -/
import Derived.Test.YthclbjjgfcgbgaaGreatDoorPkCl8
import Derived.Lib.TrailingZeros
import Derived.Test.YthclbjjgfcgbgaaGreatDoorPkCl5
set_option linter.unusedSimpArgs false
set_option linter.unusedVariables false
set_option maxRecDepth 1000000
open Nat renaming reduceEqDiff->zA,reduceAdd->zB,reduceLT->zC,zero_le->zM,reduceLeDiff->zQ,mul_comm->zU,mod_eq_of_lt->zAF,le_refl->zAG,lt_or_ge->zAI,ble_eq_true_of_le->zAM,testBit_two_pow_mul_add->zAT,mul_assoc->zAW,div_div_eq_div_mul->zBG,testBit_lt_two_pow->zBH,mul_le_mul_right->zBM,pow_le_pow_right->zBN,succ_mul->zBO,add_zero->zBP,lt_of_lt_of_le->zBR,sub_self->zBT,eq_zero_or_pos->zBU,mul_one->zBX,testBit_succ->zCB,mod_lt->zCC,div_add_mod->zCD,add_assoc->zCK,zero_mul->zCO,le_trans->zCR,mul_pos->zCV,mod_one->zCW,mod_mul->zCX,add_mul->zCY,beq->zDF
open Classical renaming byContradiction->zD,choose_spec->zDB,choose->zDE
open Go.Proofs.Tryz renaming prog->zF,ntmps173->zCL,func173->zCS,func172->zCT
open List renaming mem_cons_of_mem->zG,mem_cons_self->zH,length_append->zI,getElem_mem->zJ,range->zL,take_length->zN,getElem?_eq_getElem->zO,getD->zX,eq_nil_of_length_eq_zero->zY,getElem?_append_left->zZ,take_succ_eq_append_getElem->zAA,filter_append->zAB,length_map->zAH,length_erase_of_mem->zAJ,mem_erase_of_ne->zAO,append_nil->zAQ,take_zero->zAR,getD_eq_getElem?_getD->zAV,pairwise_map->zAX,not_mem_nil->zAY,length_cons->zBA,countP_cons->zBB,foldl_cons->zBC,map_append->zBE,nil_append->zBF,take_append_drop->zBI,length_filter_le->zBJ,mem_of_mem_take->zBK,mem_of_mem_drop->zBL,map_nil->zBS,count_append->zBW,nodup_range->zBZ,filter_cons->zCA,range_succ->zCE,mem_filter->zCF,length_nil->zCG,mem_range->zCH,drop_drop->zCI,flatMap->zCN,take->zDC,drop->zDD
open Int renaming lt_irrefl->zK,toNat_natCast->zS,mul_le_mul_of_nonneg_right->zT,natCast_mul->zV,add_mul_ediv_right->zAC,ediv_eq_zero_of_lt->zAD,add_mul->zAE,reduceBNe->zAK,add_comm->zAN,natCast_add->zAP,add_mul_emod_self_right->zAS,zero_add->zAZ,emod_eq_of_lt->zBV,mul_assoc->zCJ,lt_or_le->zCM,sub_self->zCP,mul_comm->zCQ,one_mul->zCU,sub_mul->zCZ
open Go.Lib renaming hid->zW,ctz->zAL,ctzFrom->zDA
open Bool renaming true_and->zAU,eq_iff_iff->zBD,false_eq_true->zBQ,and_eq_true->zBY
open Go
namespace Go.Proofs.YthclbjjgfcgbgaaGreatDoor
section
def ycji:Ex:=.bin 33 (.bin 30 (eQ 0) eN) (eQ 1)
def yejj:Ex:=.bin 30 (.bin 33 (.leaf 7 0) (eNum 1)) eN
def yix:Ex:=.agg 24 (.ite (.bin 37 (.bin 33 (eQ 1) (eNum 1)) eN) ycji yejj)
def ybuc:Ex:=.agg 23 (.bin 35 ycji yix)
def ydsv:Ex:=.bin 41 (.bin 38 (.bin 30 (.leaf 8 0) eN) yix) (.bin 42 (.bin 42 (.bin 36 (eVar 0) (.leaf 8 0)) (.bin 36 (eVar 1) (eNum 0))) (.bin 36 (eVar 2) ydls))
def ycut:Ex:=.bin 41 (.bin 39 (.bin 30 (.leaf 8 0) eN) yix) (.bin 42 (.bin 42 (.bin 36 (eVar 0) (.bin 31 yix eN)) (.bin 36 (eVar 1) (.bin 33 (.bin 32 yix eN) (eNum 1)))) (.bin 36 (eVar 2) ybuc))
def yfy(nm l d p o j:ByteArray):ProgT:=⟨nm,[⟨l,1,0,0,0,1⟩,⟨d,1,0,-1,1,0⟩,⟨p,3,0,0,0,0⟩],[⟨o,ydsv,[(0,.leaf 8 0),(1,eNum 0),(2,ydls)]⟩,⟨j,ycut,[(0,.bin 31 yix eN),(1,.bin 33 (.bin 32 yix eN) (eNum 1)),(2,ybuc)]⟩]⟩
def ldK(g:Gr)(c:Conf)(l:Int×Int):Int:=endP c 0 l*(g.ids.length:Int)+endP c 1 l
def ldH(g:Gr)(c:Conf)(l:Int×Int):Int:=if endP c 1 l+1<(g.ids.length:Int)then ldK g c l else(yiy g+1)*(g.ids.length:Int)
def ldM(g:Gr)(c:Conf)(v:Nat):Int:=ydp ((g.ports.getD v []).map (ldH g c))
def ldF(g:Gr)(c:Conf)(v:Nat):Int:=yjm (fun l=>ldK g c l==ldM g c v) (g.ports.getD v [])
def ldT(g:Gr)(c:Conf)(v:Nat):List Int:=if g.ids.getD v 0*(g.ids.length:Int)<=ldM g c v then[g.ids.getD v 0,0,-1]else[ldM g c v/(g.ids.length:Int),ldM g c v%(g.ids.length:Int)+1,ldF g c v]
structure LdC(g:Gr)(c:Conf):Prop where
 len:c.length=g.ids.length
 row:∀v,v<g.ids.length->(c.getD v []).length=3/\(0<=(c.getD v []).getD 0 0/\(c.getD v []).getD 0 0<=yiy g)/\(0<=(c.getD v []).getD 1 0/\(c.getD v []).getD 1 0<g.ids.length)/\(-1<=(c.getD v []).getD 2 0/\(c.getD v []).getD 2 0<(g.ports.getD v []).length)
section
variable {nm nl nd np no nj:ByteArray}{g:Gr}{c:Conf}{v:Nat}
theorem ymc(a:ybj g):maxI g.ids=yiy g:=by
 have h:=Sh.ybjg (l:=g.ids) (fun x b=>a.2.2.2.1 x b) (by have:=a.1;have:=a.2.2.1;omega)
 rw[<-h];unfold Sh.ycpv yiy;rw[zN]
theorem yqd{x:Int}(h:InB x):satP x=x:=by unfold InB at h;unfold satP;omega
theorem yea(q:ybj g)(p:yef (yfy nm nl nd np no nj) g c=true):LdC g c:=by
 have h:=(ygi _ _ _).1 p;refine⟨h.1,fun v r=>?_⟩;have a:v<c.length:=by rw[h.1];exact r
 have e:c.getD v []=c[v]:=by simp[zX,a]
 have b:=h.2 v _ (zO a);rw[e];have d:c[v].length=3:=b.1;have f:(ybi g v ⟨nl,1,0,0,0,1⟩).1<=c[v][0]/\c[v][0]<=(ybi g v ⟨nl,1,0,0,0,1⟩).2:=b.2 0 _ _ rfl (zO (by omega))
 have i:(ybi g v ⟨nd,1,0,-1,1,0⟩).1<=c[v][1]/\c[v][1]<=(ybi g v ⟨nd,1,0,-1,1,0⟩).2:=b.2 1 _ _ rfl (zO (by omega))
 have j:(ybi g v ⟨np,3,0,0,0,0⟩).1<=c[v][2]/\c[v][2]<=(ybi g v ⟨np,3,0,0,0,0⟩).2:=b.2 2 _ _ rfl (zO (by omega))
 have m:c[v].getD 0 0=c[v][0]:=by simp[zX,d]
 have n:c[v].getD 1 0=c[v][1]:=by simp[zX,d]
 have o:c[v].getD 2 0=c[v][2]:=by simp[zX,d]
 rw[m,n,o];rw[bT3]at j
 have k:ybi g v ⟨nl,1,0,0,0,1⟩=(0,0+0*(g.ids.length:Int)+1*maxI g.ids):=by
  show(if (1:Int)=1 then _ else _)=_
  rw[if_pos rfl]
 have l:ybi g v ⟨nd,1,0,-1,1,0⟩=(0,-1+1*(g.ids.length:Int)+0*maxI g.ids):=by
  show(if (1:Int)=1 then _ else _)=_
  rw[if_pos rfl]
 rw[k,ymc q]at f;rw[l]at i;simp only at f i j;exact⟨d,⟨by omega,by omega⟩,⟨by omega,by omega⟩,⟨by omega,by omega⟩⟩
theorem LdC.link(h:LdC g c)(b:ybj g)(k:v<g.ids.length){l:Int×Int}(f:l∈g.ports.getD v []):0<=l.1/\l.1.toNat<g.ids.length/\adj g v l.1.toNat/\(0<=endP c 0 l/\endP c 0 l<=yiy g)/\(0<=endP c 1 l/\endP c 1 l<g.ids.length):=by
 have i:=b.2.2.1;obtain⟨d,j,e,_⟩:=ybfe b (by omega) f
 have a:=h.row l.1.toNat (by omega)
 exact⟨d,by omega,e,a.2.1,a.2.2.1⟩
theorem yjw{a n:Int}(b:0<=a/\a<=256)(e:1<=n/\n<=24):0<=a*n/\a*n<=6144:=by
 refine⟨Int.mul_nonneg b.1 (by omega),?_⟩
 have d:a*n<=256*n:=zT b.2 (by omega)
 omega
theorem ydvh(h:LdC g c)(b:ybj g)(e:v<g.ids.length){l:Int×Int}(d:l∈g.ports.getD v []):0<=ldK g c l/\ldK g c l<=7000:=by
 obtain⟨_,_,_,f,i⟩:=h.link b e d;have j:=yec b;have k:=b.2.1;have m:=b.2.2.1;have o:=yjw (a:=endP c 0 l) (n:=(g.ids.length:Int)) (by omega) (by omega)
 unfold ldK;omega
theorem yclj(a:ybj g):0<=(yiy g+1)*(g.ids.length:Int)/\(yiy g+1)*(g.ids.length:Int)<=6144:=by
 have b:=yec a;have d:=a.2.1;have e:=a.2.2.1;have f:=a.1;exact yjw (by omega) (by omega)
theorem yeea(h:LdC g c)(a:ybj g)(d:v<g.ids.length){l:Int×Int}(b:l∈g.ports.getD v []):0<=ldH g c l/\ldH g c l<=7000:=by
 have e:=ydvh h a d b;have f:=yclj a;unfold ldH;split<;>omega
theorem ybbp(h:LdC g c)(a:ybj g)(d:v<g.ids.length):0<=ldM g c v:=yki (by omega) fun x e=>by
 obtain⟨l,b,rfl⟩:=List.mem_map.1 e;exact(yeea h a d b).1
theorem ev_q(g:Gr)(c:Conf)(v q:Nat)(k:Nat):ycm g c v (eQ (k:Int)) (q:Int)=endP c k (yca g v q):=by
 show(c.getD (yca g v (q:Int).toNat).1.toNat []).getD (k:Int).toNat 0=_;rw[zS,zS];rfl
theorem ybsd(h:LdC g c)(b:ybj g)(f:v<g.ids.length){q:Nat}(d:q<(g.ports.getD v []).length):ycm g c v ycji q=ldK g c (yca g v q):=by
 have e:yca g v q∈g.ports.getD v []:=by unfold yca;rw[Sh.getD_at d];exact zJ d
 obtain⟨_,_,_,i,j⟩:=h.link b f e;have k:=yec b;have l:=b.2.1;have m:=b.2.2.1;have o:=yjw (a:=endP c 0 (yca g v q)) (n:=(g.ids.length:Int)) (by omega) (by omega)
 show satP (satP (ycm g c v (eQ ((0:Nat):Int)) q*(g.ids.length:Int))+ycm g c v (eQ ((1:Nat):Int)) q)=_;rw[ev_q,ev_q,yqd (x:=endP c 0 (yca g v q)*(g.ids.length:Int)) (by unfold InB;omega),yqd (by unfold InB;omega)]
 rfl
theorem yra(h:LdC g c)(a:ybj g)(e:v<g.ids.length)(p:Int):ycm g c v yix p=ldM g c v:=by
 show yjt 24 _=_;unfold ldM yjt;rw[if_neg (by decide),if_neg (by decide),if_neg (by decide),if_neg (by decide),if_pos rfl]
 congr 1;refine ybkb g v _ _ fun q d=>?_;have i:yca g v q∈g.ports.getD v []:=by unfold yca;rw[Sh.getD_at d];exact zJ d
 obtain⟨_,_,_,j,k⟩:=h.link a e i;have l:=a.2.1;have m:=a.2.2.1;have n:=yclj a;have o:=yec a;show(if binP 37 (satP (ycm g c v (eQ ((1:Nat):Int)) q+1)) (g.ids.length:Int)≠0 then ycm g c v ycji q else satP (satP (yiy g+1)*(g.ids.length:Int)))=ldH g c (yca g v q)
 rw[ev_q,ybsd h a e d,yqd (by unfold InB;omega),yqd (x:=yiy g+1) (by unfold InB;omega),yqd (by unfold InB;omega)]
 have f:binP 37 (endP c 1 (yca g v q)+1) (g.ids.length:Int)=ydk (decide (endP c 1 (yca g v q)+1<(g.ids.length:Int))):=rfl;rw[f];unfold ldH
 by_cases b:endP c 1 (yca g v q)+1<(g.ids.length:Int)
 .rw[if_pos b,if_pos (by simp[ydk,b])]
 .rw[if_neg b,if_neg (by simp[ydk,b])]
theorem ybps(h:LdC g c)(a:ybj g)(b:v<g.ids.length)(p:Int):ycm g c v ybuc p=ldF g c v:=by
 show yjt 23 _=_;unfold ldF yjt;rw[if_neg (by decide),if_neg (by decide),if_neg (by decide),if_pos rfl,<-ybfq]
 congr 1;refine ybkb g v _ _ fun q d=>?_;show binP 35 (ycm g c v ycji q) (ycm g c v yix q)=_;rw[yra h a b,ybsd h a b d];rfl
theorem ycml{s:List Int}(h:s.length=3)(x y z:Int):s=[x,y,z]↔(s.getD 0 0=x/\s.getD 1 0=y)/\s.getD 2 0=z:=by
 match s,h with
 |[a,b,d],_=>simp[and_assoc]
theorem ybvr{l:List Int}(h:ydp l≠1073741824):ydp l∈l:=by
 have:∀(l:List Int) (a:Int),l.foldl min a=a\/l.foldl min a∈l:=by
  intro l
  induction l with
  |nil=>intro a;exact .inl rfl
  | cons x l b =>
    intro a;rcases b (min a x)with e|e
    .rw[zBC,e];rcases Int.le_total a x with q|q
     .left;omega
     .right;rw[Int.min_eq_right q];exact zH
    .exact .inr (zG _ e)
 exact(this l 1073741824).resolve_left h
theorem ybti(l:List Int):ydp l<=1073741824:=(ymd l 1073741824).1
theorem ybrf{a b:Int}(d:0<=a)(e:0<b):ypy a b=a/b:=by
 unfold ypy;rw[if_neg (by omega),if_neg (by simp;omega),Int.tdiv_eq_ediv_of_nonneg d]
theorem ycyo(h:LdC g c)(d:ybj g)(e:v<g.ids.length)(p:Int):ycm g c v (.bin 31 yix eN) p=ldM g c v/(g.ids.length:Int):=by
 have a:=ybbp h d e;have b:=ybti ((g.ports.getD v []).map (ldH g c));have b:ldM g c v<=1073741824:=b;have f:0<(g.ids.length:Int):=by omega
 show satP (ypy (ycm g c v yix p) (g.ids.length:Int))=_;rw[yra h d e,ybrf a f];have i:0<=ldM g c v/(g.ids.length:Int):=Int.ediv_nonneg a (by omega)
 have j:ldM g c v/(g.ids.length:Int)<=ldM g c v:=Int.ediv_le_self _ a;exact yqd (by unfold InB;omega)
theorem ycxo(h:LdC g c)(a:ybj g)(d:v<g.ids.length)(p:Int):ycm g c v (.bin 33 (.bin 32 yix eN) (eNum 1)) p=ldM g c v%(g.ids.length:Int)+1:=by
 have e:=ybbp h a d;have b:0<(g.ids.length:Int):=by omega
 have i:=a.2.1;have j:=a.2.2.1;show satP ((if (g.ids.length:Int)=0 then 0 else satP (ycm g c v yix p-(g.ids.length:Int)*ypy (ycm g c v yix p) (g.ids.length:Int)))+1)=_
 rw[yra h a d,ybrf e b,if_neg (by omega)]
 have k:=Int.emod_nonneg (ldM g c v) (show(g.ids.length:Int)≠0 by omega)
 have l:=Int.emod_lt_of_pos (ldM g c v) b;have f:ldM g c v-(g.ids.length:Int)*(ldM g c v/(g.ids.length:Int))=ldM g c v%(g.ids.length:Int):=by rw[Int.emod_def]
 rw[f,yqd (x:=ldM g c v%(g.ids.length:Int)) (by unfold InB;omega)]
 exact yqd (by unfold InB;omega)
theorem yckn(h:LdC g c)(i:ybj g)(j:v<g.ids.length) :
 yow g c v ⟨no,ydsv,[(0,.leaf 8 0),(1,eNum 0),(2,ydls)]⟩=(decide (g.ids.getD v 0*(g.ids.length:Int)<=ldM g c v) && !decide (c.getD v []=[g.ids.getD v 0,0,-1])) /\
 yow g c v ⟨nj,ycut,[(0,.bin 31 yix eN),(1,.bin 33 (.bin 32 yix eN) (eNum 1)),(2,ybuc)]⟩=(!decide (g.ids.getD v 0*(g.ids.length:Int)<=ldM g c v) && !decide (c.getD v []=[ldM g c v/(g.ids.length:Int),ldM g c v%(g.ids.length:Int)+1,ldF g c v])):=by
 have A:=(h.row v j).1;have B:=i.2.1;have C:=i.2.2.1;have hid:=i.id_in v;have D:=yjw (a:=g.ids.getD v 0) (n:=(g.ids.length:Int)) (by omega) (by omega)
 have r:∀p,ycm g c v (eVar 0) p=(c.getD v []).getD 0 0:=fun p=>rfl;have s:∀p,ycm g c v (eVar 1) p=(c.getD v []).getD 1 0:=fun p=>rfl;have u:∀p,ycm g c v (eVar 2) p=(c.getD v []).getD 2 0:=fun p=>rfl
 have q:∀x y z:Int,(decide (c.getD v []=[x,y,z]))=((((c.getD v []).getD 0 0==x)&&((c.getD v []).getD 1 0==y))&&((c.getD v []).getD 2 0==z)):=fun x y z=>by
  rw[zBD];simp only[decide_eq_true_eq,zBY,beq_iff_eq];exact ycml A x y z
 have k:∀a b:Bool,binP 41 (ydk a) (ydk b)=ydk (a&&b):=fun a b=>by cases a<;>cases b<;>rfl
 have f:∀a b:Bool,binP 42 (ydk a) (ydk b)=ydk (a||b):=fun a b=>by cases a<;>cases b<;>rfl
 have e:∀a b:Int,binP 36 a b=ydk (a != b):=fun a b=>rfl;have l:∀t a b d:Bool,(t&&((!a || !b) || !d))=(t && !((a&&b)&&d)):=by decide
 have em:satP (g.ids.getD v 0*(g.ids.length:Int))=g.ids.getD v 0*(g.ids.length:Int):=yqd (by unfold InB;omega)
 constructor
 .show(binP 41 (binP 38 (satP (g.ids.getD v 0*(g.ids.length:Int))) (ycm g c v yix (-1))) (binP 42 (binP 42 (binP 36 (ycm g c v (eVar 0) (-1)) (g.ids.getD v 0)) (binP 36 (ycm g c v (eVar 1) (-1)) 0)) (binP 36 (ycm g c v (eVar 2) (-1)) (-1)))!=0)=_;have m:∀a b:Int,binP 38 a b=ydk (decide (a<=b)):=fun a b=>rfl;rw[em,yra h i j,r,s,u,m,e,e,e,f,f,k,ybgg,q];exact l _ _ _ _
 .show(binP 41 (binP 39 (satP (g.ids.getD v 0*(g.ids.length:Int))) (ycm g c v yix (-1))) (binP 42 (binP 42 (binP 36 (ycm g c v (eVar 0) (-1)) (ycm g c v (.bin 31 yix eN) (-1))) (binP 36 (ycm g c v (eVar 1) (-1)) (ycm g c v (.bin 33 (.bin 32 yix eN) (eNum 1)) (-1)))) (binP 36 (ycm g c v (eVar 2) (-1)) (ycm g c v ybuc (-1))))!=0)=_;have o:∀a b:Int,binP 39 a b=ydk (decide (a>b)):=fun a b=>rfl
  have w:decide (g.ids.getD v 0*(g.ids.length:Int)>ldM g c v) = !decide (g.ids.getD v 0*(g.ids.length:Int)<=ldM g c v):=by
   rw[zBD];simp
  rw[em,yra h i j,ycyo h i j,ycxo h i j,ybps h i j,r,s,u,o,e,e,e,f,f,k,ybgg,q,w];exact l _ _ _ _
theorem ybml(h:LdC g c)(f:ybj g)(i:v<g.ids.length):yep (yfy nm nl nd np no nj) g c v=if c.getD v []=ldT g c v then -1 else if g.ids.getD v 0*(g.ids.length:Int)<=ldM g c v then 0 else 1:=by
 obtain⟨d,e⟩:=yckn (no:=no) (nj:=nj) h f i;unfold yep yfy;simp only[List.findIdx?_cons,d,e,List.findIdx?_nil];unfold ldT
 generalize c.getD v []=s
 generalize [g.ids.getD v 0,0,-1]=X
 generalize [ldM g c v/(g.ids.length:Int),ldM g c v%(g.ids.length:Int)+1,ldF g c v]=Y
 by_cases b:g.ids.getD v 0*(g.ids.length:Int)<=ldM g c v
 .rw[if_pos b,if_pos b,decide_eq_true b]
  by_cases a:s=X
  .rw[if_pos a,decide_eq_true a];rfl
  .rw[if_neg a,decide_eq_false a];rfl
 .rw[if_neg b,if_neg b,decide_eq_false b]
  by_cases a:s=Y
  .rw[if_pos a,decide_eq_true a];rfl
  .rw[if_neg a,decide_eq_false a];rfl
theorem ycii(h:LdC g c)(d:ybj g)(m:v<g.ids.length)(A:¬g.ids.getD v 0*(g.ids.length:Int)<=ldM g c v) :
 ∃l∈g.ports.getD v [],endP c 1 l+1<(g.ids.length:Int)/\ldM g c v=ldK g c l/\ldM g c v/(g.ids.length:Int)=endP c 0 l/\ldM g c v%(g.ids.length:Int)=endP c 1 l:=by
 have hid:=d.id_in v;have u:=d.2.1;have w:=d.2.2.1
 have p:g.ids.getD v 0<=yiy g:=by
  rw[<-ymc d];have r:=Sh.ybjg (l:=g.ids) (fun x b=>d.2.2.2.1 x b) (by omega)
  have o:g.ids.getD v 0∈g.ids:=by rw[Sh.getD_at m];exact zJ m
  have:∀(l:List Int) (a x:Int),x∈l->x<=l.foldl max a:=by
   intro l
   induction l with
   |nil=>intro a x b;exact(zAY b).elim
   | cons y l s =>
     intro a x b;rcases List.mem_cons.1 b with rfl|b
     .have:=yhe l (max a x);simp only[zBC];omega
     .exact s _ _ b
  rw[<-r];unfold Sh.ycpv;rw[zN];exact this _ _ _ o
 have o:=yjw (a:=g.ids.getD v 0) (n:=(g.ids.length:Int)) (by omega) (by omega)
 have z:g.ids.getD v 0*(g.ids.length:Int)<=(yiy g+1)*(g.ids.length:Int):=zT (by omega) (by omega)
 obtain⟨l,j,e⟩:∃l∈g.ports.getD v [],ldH g c l=ldM g c v:=by
  have k:ldM g c v≠1073741824:=by omega
  have:ldM g c v∈(g.ports.getD v []).map (ldH g c):=ybvr k;obtain⟨l,j,e⟩:=List.mem_map.1 this;exact⟨l,j,e⟩
 obtain⟨_,_,_,t,i⟩:=h.link d m j
 have f:endP c 1 l+1<(g.ids.length:Int):=by
  refine zD fun q=>?_;unfold ldH at e;rw[if_neg q]at e;omega
 unfold ldH at e;rw[if_pos f]at e;refine⟨l,j,f,e.symm,?_,?_⟩
 .rw[<-e];unfold ldK;rw[zAN,zAC _ _ (by omega),zAD i.1 i.2,zAZ]
 .rw[<-e];unfold ldK;rw[zAN,zAS,zBV i.1 i.2]
end
end
section
namespace Sh
open Go Ev
def LqP:ProgT:=yfy (by8 [108,101,97,100,101,114]) (by8 [108,101,97,100]) (by8 [100]) (by8 [112]) (by8 [111,119,110]) (by8 [106,111,105,110])
def Lqt:ByteArray:=yc
def Lqv:Value:=.slice (some ⟨2339,0,none⟩) 3 CU
def Lqr:Value:=.slice (some ⟨3959,0,none⟩) 2 CU
def LqB:List BlkL:=yti.post.take 1
def LqC:List BlkL:=yti.post.drop 1
theorem ybvu:Returns zF 11 [.a (.string Lqt)] (.ag (ygc (Lies LqB Lqv) (Lies LqC Lqr) LqP.raw)) :=
 ycny (fp:=yti) (yh.at_ ychy 0 rfl) ⟨rfl,rfl,rfl,by kernel_rfl,fun _ h=>zBK h,fun _ h=>zBL h,by kernel_rfl,by kernel_rfl⟩
theorem yedj:yboa.pre=yti.post:=rfl
theorem ycpn:Returns zF 130 [.ag (ygc (Lies LqB Lqv) (Lies LqC Lqr) LqP.raw)] (.b true) :=
 ycoy (fv:=yboa) (yh.at_ ycfw 0 rfl) ⟨rfl,fun b h=>by
  rw[yedj,<-zBI 1 yti.post]at h;exact List.mem_append.1 h,fun _ h=>zBK h,fun _ h=>zBL h,rfl,rfl,by kernel_rfl,by kernel_rfl,by kernel_rfl,by kernel_rfl,by kernel_rfl,by kernel_rfl,by kernel_rfl⟩
theorem ydrm:LqP.ok=true:=by kernel_rfl
end Sh
end
section
section
variable {nm nl nd np no nj:ByteArray}{g:Gr}{c:Conf}{v:Nat}
theorem ynh{k:Int}{b:Int×Int}{x:Int}(h:b.1<=x/\x<=b.2):yhv k b x=x:=by unfold yhv;rw[if_pos ⟨h.1,h.2⟩]
theorem bTL{x:ByteArray}:ybi g v ⟨x,1,0,0,0,1⟩=(0,0+0*(g.ids.length:Int)+1*maxI g.ids):=by
 show(if (1:Int)=1 then _ else _)=_
 rw[if_pos rfl]
theorem bTD{x:ByteArray}:ybi g v ⟨x,1,0,-1,1,0⟩=(0,-1+1*(g.ids.length:Int)+0*maxI g.ids):=by
 show(if (1:Int)=1 then _ else _)=_
 rw[if_pos rfl]
theorem ywx(h:ybj g)(d:v<g.ids.length):g.ids.getD v 0<=yiy g:=by
 have e:g.ids.getD v 0∈g.ids:=by rw[Sh.getD_at d];exact zJ d
 have:∀(l:List Int) (a x:Int),x∈l->x<=l.foldl max a:=by
  intro l
  induction l with
  |nil=>intro a x b;exact(zAY b).elim
  | cons y l f =>
    intro a x b;rcases List.mem_cons.1 b with rfl|b
    .have:=yhe l (max a x);simp only[zBC];omega
    .exact f _ _ b
 exact this _ _ _ e
theorem ydun:-1<=ldF g c v/\ldF g c v<(g.ports.getD v []).length:=by
 unfold ldF yjm;split
 .rename_i i a
  obtain⟨h,_⟩:=List.findIdx?_eq_some_iff_getElem.1 a;omega
 .omega
theorem ydpx(h:LdC g c)(a:ybj g)(b:v<g.ids.length)(i:c.getD v []≠ldT g c v):yjx (yfy nm nl nd np no nj) g c v (yep (yfy nm nl nd np no nj) g c v).toNat=ldT g c v:=by
 rw[ybml h a b,if_neg i];have k:=(h.row v b).1;have t:(g.ids.length:Int)<=24:=by have:=a.2.1;have:=a.2.2.1;omega
 obtain⟨x,y,z,f⟩:∃x y z,c.getD v []=[x,y,z]:=by
  match hq:c.getD v [],k with
  |[x,y,z],_=>exact⟨x,y,z,rfl⟩
 obtain⟨f1,f2⟩:=ydun (g:=g) (c:=c) (v:=v);have hid:=a.id_in v;have j:=ywx a b;have e:=ymc a;unfold yjx yup ldT;rw[f]
 by_cases d:g.ids.getD v 0*(g.ids.length:Int)<=ldM g c v
 .rw[if_pos d,if_pos d];show[yhv 1 (ybi g v ⟨nl,1,0,0,0,1⟩) (g.ids.getD v 0),yhv 1 (ybi g v ⟨nd,1,0,-1,1,0⟩) 0,yhv 3 (ybi g v ⟨np,3,0,0,0,0⟩) (-1)]=_;rw[ynh (by rw[bTL,e];simp only;omega),ynh (by rw[bTD];simp only;omega),ynh (by rw[bT3];simp only;omega)]
 .rw[if_neg d,if_neg d];obtain⟨l,m,p,q,r,s⟩:=ycii h a b d;obtain⟨_,_,_,n,o⟩:=h.link a b m;show[yhv 1 (ybi g v ⟨nl,1,0,0,0,1⟩) (ycm g c v (.bin 31 yix eN) (-1)),yhv 1 (ybi g v ⟨nd,1,0,-1,1,0⟩) (ycm g c v (.bin 33 (.bin 32 yix eN) (eNum 1)) (-1)),yhv 3 (ybi g v ⟨np,3,0,0,0,0⟩) (ycm g c v ybuc (-1))]=_;rw[ycyo h a b,ycxo h a b,ybps h a b];rw[ynh (by rw[bTL,e];simp only;omega),ynh (by rw[bTD];simp only;omega),ynh (by rw[bT3];simp only;omega)]
theorem ybos(a:ybj g):Sh.ybjf (yfy nm nl nd np no nj) g=true:=by
 have b:=a.1;have d:=a.2.1;have e:=a.2.2.1;have f:=yec a;have h:=ymc a;simp[Sh.ybjf,yfy,ybi];omega
theorem yecb:(yfy nm nl nd np no nj).ok=true:=by kernel_rfl
theorem ybpi(hg:ybj g):Tgt (ymx (yfy nm nl nd np no nj) g) (fun c=>yef (yfy nm nl nd np no nj) g c=true) (ldT g) where
 valid:=fun c s hc _ _=>Sh.ykp hg yecb (ybos hg) hc s
 stay:=fun c s v hc hv hb=>by
  have hl:=(yea hg hc).len;show(ygx _ g c s).getD v []=_;rw[Sh.yqc _ g c s (by rw[hl];exact hv),hb]
  rfl
 move:=fun c s v hc hv hb hs=>by
  have hl:=(yea hg hc).len;have hv:v<g.ids.length:=hv;show(ygx _ g c s).getD v []=_;rw[Sh.yqc _ g c s (by rw[hl];exact hv),hb,if_pos rfl]
  refine ydpx (yea hg hc) hg hv fun he=>?_;have h1:=hs v hb;have h1:(ymo _ g.ids.length).testBit v=true:=h1;rw[ymr]at h1;simp only[zBY,decide_eq_true_eq]at h1;rw[ybml (yea hg hc) hg hv,if_pos he]at h1;omega
 en:=fun c v hc hv=>by
  have hv:v<g.ids.length:=hv;show(ymo _ g.ids.length).testBit v=false↔_;rw[ymr,ybml (yea hg hc) hg hv,decide_eq_true hv,zAU,decide_eq_false_iff_not]
  by_cases he:c.getD v []=ldT g c v
  .rw[if_pos he];exact⟨fun _=>he,fun _=>by omega⟩
  .rw[if_neg he];exact⟨fun h=>(h (by split<;>omega)).elim,fun h=>absurd h he⟩
def ydhh(g:Gr)(v:Nat)(s:List Int):Prop:=∃u k:Nat,u<g.ids.length/\g.ids.getD u 0=s.getD 0 0/\s.getD 1 0=k/\Walk g u k v
def ldR(g:Gr)(r v:Nat)(s:List Int):Prop:=((r:Int)<=s.getD 1 0\/ydhh g v s)/\((ybx g (ybt g.ids)).getD v 0+(g.ids.length:Int)-1<r->s=yxl g v)
theorem least_le(d:ybj g){u:Nat}(b:u<g.ids.length):g.ids.getD (ybt g.ids) 0<=g.ids.getD u 0:=by
 have a:0<g.ids.length:=by omega
 have:=(yih g.ids g.ids.length a (zAG _)).2.1;exact this u b
theorem ycxv(a:ybj g){u w:Nat}(b:u<g.ids.length)(d:w<g.ids.length)(h:g.ids.getD u 0=g.ids.getD w 0):u=w:=by
 rw[Sh.getD_at b,Sh.getD_at d]at h;exact(List.getElem_inj a.2.2.2.2.1).1 h
end
end
section
section
variable {nm nl nd np no nj:ByteArray}{g:Gr}{c:Conf}{v:Nat}
theorem ylk(a:ybj g):ybt g.ids<g.ids.length:=by
 have b:0<g.ids.length:=by have:=a.1;have:=a.2.2.1;omega
 exact(yih g.ids g.ids.length b (zAG _)).1
theorem key_eq{a b x y n:Int}(d:0<=x/\x<n)(e:0<=y/\y<n):a*n+x=b*n+y↔a=b/\x=y:=by
 constructor
 .intro h;have f:(a*n+x)/n=a:=by rw[zAN,zAC _ _ (by omega),zAD d.1 d.2,zAZ]
  have i:(b*n+y)/n=b:=by rw[zAN,zAC _ _ (by omega),zAD e.1 e.2,zAZ]
  have j:a=b:=by rw[<-f,<-i,h]
  subst j;exact⟨rfl,by omega⟩
 .rintro⟨rfl,rfl⟩;rfl
theorem yczt{a b n:Int}(h:a<b)(d:0<=n):a*n+n<=b*n:=by
 have:(a+1)*n<=b*n:=zT (by omega) d
 rw[zAE,zCU]at this;exact this
theorem ld_next(f:ybj g)(y:yee g=true)(h:LdC g c)(o:v<g.ids.length)(r:Nat)(w:∀u,u<g.ids.length->ldR g r u (c.getD u [])):ldR g (r+1) v (ldT g c v):=by
 have a5:=f.2.2.1;have a0:=f.2.1;have D:v<g.ports.length:=by omega
 have X:∀l∈g.ports.getD v [],(r:Int)<=endP c 1 l\/ydhh g l.1.toNat (c.getD l.1.toNat []):=fun l d=>by
  obtain⟨_,E,_⟩:=h.link f o d;exact(w _ E).1
 constructor
 .unfold ldT
  by_cases G:g.ids.getD v 0*(g.ids.length:Int)<=ldM g c v
  .rw[if_pos G];exact .inr ⟨v,0,o,rfl,rfl,rfl⟩
  .rw[if_neg G];obtain⟨l,d,e1,e2,e3,e4⟩:=ycii h f o G;rw[e3,e4];obtain⟨_,_,ha,_⟩:=h.link f o d;rcases X l d with q|⟨u,k,z,hid,hk,Q⟩
   .left
    show((r+1:Nat):Int)<=endP c 1 l+1;omega
   .right
    refine⟨u,k+1,z,hid,?_,⟨_,Q,f.adj_symm ha⟩⟩;show endP c 1 l+1=((k+1:Nat):Int);unfold endP;omega
 .intro V;obtain⟨m,F⟩:∃m,ybt g.ids=m:=⟨_,rfl⟩;have s:=ylk f;rw[F]at s V;have i:m<g.ports.length:=by omega
  have H:∀u,u<g.ids.length->g.ids.getD m 0<=g.ids.getD u 0:=fun u z=>by rw[<-F];exact least_le f z
  have hD:=ywu f y i D;have T:=f.id_in m;have W:=ywx f s;obtain⟨n,p⟩:∃n:Int,(g.ids.length:Int)=n:=⟨_,rfl⟩;rw[p]at V
  have I:∀l∈g.ports.getD v [],n-1<=endP c 1 l\/(g.ids.getD m 0<endP c 0 l\/(endP c 0 l=g.ids.getD m 0/\(ybx g m).getD l.1.toNat 0<=endP c 1 l)):=fun l d=>by
   obtain⟨_,E,_⟩:=h.link f o d;rcases X l d with q|⟨u,k,z,hid,hk,Q⟩
   .left;omega
   .right
    have hid:g.ids.getD u 0=endP c 0 l:=hid;have hk:endP c 1 l=(k:Int):=hk;rcases zCM (g.ids.getD m 0) (endP c 0 l)with q|q
    .exact .inl q
    .right
     have e:u=m:=ycxv f z s (by have:=H u z;omega)
     subst e;obtain⟨j,e,_,h5,_⟩:=ygm f y i (v:=l.1.toNat) (by omega)
     refine⟨hid.symm,?_⟩;rw[e,hk];rcases zAI k j with q|q
     .exact absurd Q (h5 k q)
     .omega
  have M:∀l∈g.ports.getD v [],ldK g c l=endP c 0 l*n+endP c 1 l:=fun l d=>by unfold ldK;rw[p]
  have hT:(g.ids.getD m 0+1)*n<=(yiy g+1)*n:=zT (by omega) (by omega)
  rw[zAE (g.ids.getD m 0),zCU]at hT
  have A:∀b:Int,b<=n->(∀l∈g.ports.getD v [],b<=(ybx g m).getD l.1.toNat 0)->∀l∈g.ports.getD v [],g.ids.getD m 0*n+b<=ldH g c l:=fun b a3 hb l d=>by
   obtain⟨_,_,_,Z,J⟩:=h.link f o d;rw[p]at J;unfold ldH;rw[p,M l d];split
   .rcases I l d with q|q|⟨Y,q2⟩
    .omega
    .have:=yczt q (n:=n) (by omega);omega
    .have:=hb l d;rw[Y];omega
   .omega
  have N:ldM g c v=ydp ((g.ports.getD v []).map (ldH g c)):=rfl;have a6:=yjw (a:=g.ids.getD m 0) (n:=n) (by omega) (by omega)
  by_cases t:v=m
  .subst t
   have G:g.ids.getD v 0*(g.ids.length:Int)<=ldM g c v:=by
    rw[p,N];refine yki (by omega) fun x R=>?_
    obtain⟨l,d,rfl⟩:=List.mem_map.1 R
    have:=A 0 (by omega) (fun l d=>by
     obtain⟨_,E,_⟩:=h.link f o d;exact(ywu f y i (by omega)).1) l d
    omega
   unfold ldT;rw[if_pos G];unfold yxl;rw[F,yxs f y i,ycsa f y i]
  .have U:=ycqh f y i D t
   have B:∀l∈g.ports.getD v [],(ybx g m).getD v 0-1<=(ybx g m).getD l.1.toNat 0:=fun l d=>by
    obtain⟨_,E,h3,_⟩:=h.link f o d;have:=ybsi f y i (f.adj_symm h3);omega
   have right:∀l∈g.ports.getD v [],(ybx g m).getD l.1.toNat 0=(ybx g m).getD v 0-1->endP c 0 l=g.ids.getD m 0/\endP c 1 l=(ybx g m).getD v 0-1:=fun l d e=>by
    obtain⟨_,E,_⟩:=h.link f o d;have h4:=(w _ E).2 (by rw[F,e,p];omega)
    unfold endP;rw[h4];unfold yxl;rw[F];exact⟨rfl,e⟩
   obtain⟨u,z,hd⟩:=ybja f y i D t;obtain⟨K,C,P⟩:=ycat z;subst P;obtain⟨r1,r2⟩:=right K C hd
   have L:ldH g c K=g.ids.getD m 0*n+((ybx g m).getD v 0-1):=by
    unfold ldH;rw[p,M K C,if_pos (by omega),r1,r2]
   have S:ldM g c v=g.ids.getD m 0*n+((ybx g m).getD v 0-1):=by
    refine Int.le_antisymm ?_ ?_
    .rw[<-L];exact ymy (List.mem_map.2 ⟨K,C,rfl⟩)
    .refine yki (by omega) fun x R=>?_
     obtain⟨l,d,rfl⟩:=List.mem_map.1 R;exact A _ (by omega) B l d
   have O:g.ids.getD m 0<g.ids.getD v 0:=by
    rcases zCM (g.ids.getD m 0) (g.ids.getD v 0)with q|q
    .exact q
    .exact absurd (ycxv f o s (by have:=H v o;omega)) t
   have a4:=yczt O (n:=n) (by omega)
   have hF:ldF g c v=wayP g (ybx g m) v:=by
    unfold ldF wayP;refine yty fun l d=>?_;obtain⟨_,_,_,Z,J⟩:=h.link f o d;rw[p]at J;unfold yrx;rw[S,M l d,zBD];simp only[beq_iff_eq];rw[key_eq J (by omega)]
    constructor
    .rintro⟨Y,q2⟩;have:=B l d;rcases I l d with q|q|⟨q3,q4⟩<;>omega
    .intro q;exact right l d q
   unfold ldT;rw[if_neg (by rw[p];omega)]
   unfold yxl;rw[F,hF,S,p,zAN (g.ids.getD m 0*n),zAC _ _ (by omega),zAD (by omega) (by omega),zAZ,zAS,zBV (by omega) (by omega)]
   congr 2;omega
theorem ycqd(r v:Nat)(s:List Int)(h:ldR g (r+1) v s):ldR g r v s:=by
 refine⟨?_,fun q=>h.2 (by omega)⟩
 rcases h.1 with q|q
 .left;omega
 .exact .inr q
theorem ybqg(b:ybj g)(d:yee g=true)(h:LdC g c)(i:v<g.ids.length):ldR g 0 v (c.getD v []):=by
 have f:=b.2.2.1;have e:=ylk b;have:=ywu b d (a:=ybt g.ids) (v:=v) (by omega) (by omega)
 exact⟨.inl (h.row v i).2.2.1.1,fun q=>by omega⟩
def ybnb(g:Gr)(c:Conf):Prop:=∀v,v<g.ids.length->c.getD v []=yxl g v
theorem ybpe(a:ybj g)(k:yee g=true){c:Conf}(i:yef (yfy nm nl nd np no nj) g c=true):ycb g c=true↔ybnb g c:=by
 have b:=a.2.2.1;have l:=(yea a i).len
 have j:yjz g c=true:=by
  unfold yjz;rw[k,zAU,<-i];unfold yef;rw[b];congr 1
  funext v
  have e:(maxI g.ids = -1)=False:=by
   refine eq_false fun q=>?_;have n:=yec a;have o:=ymc a;omega
  have f:((g.ports.length:Int)-1 = -1)=False:=eq_false (by have:=a.1;omega)
  simp[yff,yfy,ybi,ycsj,b,e,f];omega
 unfold ycb;rw[j,zAU,l];constructor
 .intro h v d;exact of_decide_eq_true (List.all_eq_true.1 h v (List.mem_range.2 d))
 .intro h;exact List.all_eq_true.2 fun v m=>decide_eq_true (h v (List.mem_range.1 m))
theorem ydfp(a:ybj g)(b:yee g=true):eccP g (ybt g.ids)=yda (ybx g (ybt g.ids)):=by
 have d:=ylk a;have e:=a.2.2.1;unfold eccP;rw[if_pos ⟨b,by omega,by omega⟩,zS]
theorem ybfx(b:ybj g)(d:yee g=true){c:Conf}{r:Nat}(j:eccP g (ybt g.ids)+(g.ids.length:Int)-1<(r:Int))(h:∀v,v<g.ids.length->ldR g r v (c.getD v [])):ybnb g c:=fun v k=>by
 have f:=ylk b;have i:=b.2.2.1
 have e:(ybx g (ybt g.ids)).getD v 0<=yda (ybx g (ybt g.ids)):=by
  have a:v<(ybx g (ybt g.ids)).length:=by rw[yhm b (by omega)];omega
  refine ytq _ _ ?_;rw[zAV,zO a];exact zJ a
 rw[ydfp b d]at j;exact(h v k).2 (by omega)
theorem ycaf(b:ybj g)(i:yee g=true){c:Conf}(h:ybnb g c)(r:Nat)(v:Nat)(l:v<g.ids.length):ldR g r v (c.getD v []):=by
 have d:=ylk b;have j:=b.2.2.1;obtain⟨k,e,f,_,_⟩:=ygm b i (a:=ybt g.ids) (v:=v) (by omega) (by omega)
 rw[h v l];exact⟨.inr ⟨ybt g.ids,k,d,rfl,e,f⟩,fun _=>rfl⟩
theorem ycoc(b:ybj g)(e:yee g=true){c:Conf}(i:yef (yfy nm nl nd np no nj) g c=true):ybu (yfy nm nl nd np no nj) g c=0↔ycb g c=true:=by
 rw[ybpe b e i];constructor
 .intro l;have:=(ybpi (nm:=nm) (nl:=nl) (nd:=nd) (np:=np) (no:=no) (nj:=nj) b).silent (P:=ldR g) (fun c v r j d f=>ld_next b e (yea b j) d r f) i (fun v h=>ybqg b e (yea b i) h) l;refine ybfx b e (r:=1101) (by have:=(ybgr g (ybt g.ids)).2;have:=b.2.1;have:=b.2.2.1;omega) fun v d=>this 1101 v d
 .intro h;refine(ybpi (nm:=nm) (nl:=nl) (nd:=nd) (np:=np) (no:=no) (nj:=nj) b).en_zero i (Sh.yzx _ g c) fun v d=>?_;have d:v<g.ids.length:=d;have k:=ld_next b e (yea b i) d 1101 fun u o=>ycaf b e h 1101 u o;have m:=ylk b;have n:=b.2.2.1;have:=ywu b e (a:=ybt g.ids) (v:=v) (by omega) (by omega)
  have:=b.2.1;rw[k.2 (by omega)]
  exact h v d
end
end
section
namespace Sh
open Go Ev
def yebk:LO:=[o3 (.mv (.const (.string (ByteArray.mk #[])))) 0 0]
def ydsa:LO:=[o3 (.mv (.const (.string (ByteArray.mk #[112,114,111,103,114,97,109,32,108,101,97,100,101,114,59,10,118,97,114,32,108,101,97,100,32,58,32,48,32,46,46,32,105,100,115,59,10,118,97,114,32,100,32,58,32,48,32,46,46,32,110,32,45,32,49,59,10,118,97,114,32,112,32,58,32,112,111,114,116,59,10,114,117,108,101,32,111,119,110,58,32,105,100,32,42,32,110,32,60,61,32,109,105,110,40,113,46,100,32,43,32,49,32,60,32,110,32,63,32,113,46,108,101,97,100,32,42,32,110,32,43,32,113,46,100,32,58,32,40,105,100,115,32,43,32,49,41,32,42,32,110,41,32,38,38,32,40,108,101,97,100,32,33,61,32,105,100,32,124,124,32,100,32,33,61,32,48,32,124,124,32,112,32,33,61,32,110,111,110,101,41,32,45,62,32,108,101,97,100,32,58,61,32,105,100,44,32,100,32,58,61,32,48,44,32,112,32,58,61,32,110,111,110,101,59,10,114,117,108,101,32,106,111,105,110,58,32,105,100,32,42,32,110,32,62,32,109,105,110,40,113,46,100,32,43,32,49,32,60,32,110,32,63,32,113,46,108,101,97,100,32,42,32,110,32,43,32,113,46,100,32,58,32,40,105,100,115,32,43,32,49,41,32,42,32,110,41,32,38,38,32,40,108,101,97,100,32,33,61,32,109,105,110,40,113,46,100,32,43,32,49,32,60,32,110,32,63,32,113,46,108,101,97,100,32,42,32,110,32,43,32,113,46,100,32,58,32,40,105,100,115,32,43,32,49,41,32,42,32,110,41,32,47,32,110,32,124,124,32,100,32,33,61,32,109,105,110,40,113,46,100,32,43,32,49,32,60,32,110,32,63,32,113,46,108,101,97,100,32,42,32,110,32,43,32,113,46,100,32,58,32,40,105,100,115,32,43,32,49,41,32,42,32,110,41,32,37,32,110,32,43,32,49,32,124,124,32,112,32,33,61,32,102,105,114,115,116,40,113,46,108,101,97,100,32,42,32,110,32,43,32,113,46,100,32,61,61,32,109,105,110,40,113,46,100,32,43,32,49,32,60,32,110,32,63,32,113,46,108,101,97,100,32,42,32,110,32,43,32,113,46,100,32,58,32,40,105,100,115,32,43,32,49,41,32,42,32,110,41,41,41,10,32,32,45,62,32,108,101,97,100,32,58,61,32,109,105,110,40,113,46,100,32,43,32,49,32,60,32,110,32,63,32,113,46,108,101,97,100,32,42,32,110,32,43,32,113,46,100,32,58,32,40,105,100,115,32,43,32,49,41,32,42,32,110,41,32,47,32,110,44,32,100,32,58,61,32,109,105,110,40,113,46,100,32,43,32,49,32,60,32,110,32,63,32,113,46,108,101,97,100,32,42,32,110,32,43,32,113,46,100,32,58,32,40,105,100,115,32,43,32,49,41,32,42,32,110,41,32,37,32,110,32,43,32,49,44,32,112,32,58,61,32,102,105,114,115,116,40,113,46,108,101,97,100,32,42,32,110,32,43,32,113,46,100,32,61,61,32,109,105,110,40,113,46,100,32,43,32,49,32,60,32,110,32,63,32,113,46,108,101,97,100,32,42,32,110,32,43,32,113,46,100,32,58,32,40,105,100,115,32,43,32,49,41,32,42,32,110,41,41,59,10])))) 0 0]
def c27:SC:=(sr yebk <| sr ydsa <| .ret)
theorem yehc:Fn 27 c27 [.t 0]:=fn_0 Tryz.func27
end Sh
end
section
namespace Sh
open Ev Go.RowKit
theorem ycap:Returns zF 27 [] (.a (.string Lqt)):=by
 refine Returns.of (yehc _ _ ?_);simp only[c27,yebk,ydsa,go_sem];exact Sim.refl _
theorem ybnf{g:Gr}(a:GrI g)(b:yee g=true):Returns zF 28 [grV g] (.ag (ydhn 3 false true ((g.ids.length:Int)+eccP g (ybt g.ids)) (-1))):=by
 have h:=ybwx a;unfold yxg at h;rw[if_pos b]at h;exact h
end Sh
end
section
def ycaj(g:Gr):Bool:=yee g&&decide (yon g/2+1=g.ports.length)
theorem ycfk{g:Type}[DecidableEq g]:∀{l1 l2:List g},l1.Nodup->(∀x∈l1,x∈l2)->l2.length<=l1.length->∀x∈l2,x∈l1
 | [],l2,_,_,h,x,c=>by
   have:l2=[]:=zY (by simpa using h)
   rw[this]at c;exact absurd c zAY
 | a :: t,l2,b,d,h,x,c=>by
   have b:=List.nodup_cons.1 b
   by_cases q:x=a
   .rw[q];exact zH
   .refine zG _ (ycfk (l2:=l2.erase a) b.2 (fun y f=>?_) ?_ x ((zAO q).2 c))
    .refine(zAO fun e=>b.1 (by rw[<-e];exact f)).2 (d y (zG _ f))
    .rw[zAJ (d a zH)];simp only[zBA]at h;omega
structure TreeM(g:Gr):Prop where
 up:∀a v u,a<g.ports.length->adj g v u->(ybx g a).getD u 0=(ybx g a).getD v 0-1\/(ybx g a).getD u 0=(ybx g a).getD v 0+1
 one:∀a v u w,a<g.ports.length->adj g v u->adj g v w->(ybx g a).getD u 0=(ybx g a).getD v 0-1->(ybx g a).getD w 0=(ybx g a).getD v 0-1->u=w
theorem yebx{g:Gr}(r:ybj g)(H:yee g=true)(R:yon g<=2*(g.ports.length-1)):TreeM g:=by
 have s:∀a,a<g.ports.length->∃up:Nat->Nat,∀v u,adj g v u->(v≠a/\u=up v/\(ybx g a).getD u 0=(ybx g a).getD v 0-1)\/(ybx g a).getD u 0=(ybx g a).getD v 0+1:=fun a m=>by
  have ex:∀v,v<g.ports.length->v≠a->∃u,adj g v u/\(ybx g a).getD u 0=(ybx g a).getD v 0-1:=fun v j k=>ybja r H m j k
  obtain⟨up,d⟩:∃up:Nat->Nat,∀v,v<g.ports.length->v≠a->adj g v (up v)/\(ybx g a).getD (up v) 0=(ybx g a).getD v 0-1:=by
   refine⟨fun v=>if h:v<g.ports.length/\v≠a then zDE (ex v h.1 h.2)else 0,fun v j k=>?_⟩
   simp only[dif_pos (show v<g.ports.length/\v≠a from⟨j,k⟩)]
   exact zDB (ex v j k)
  let U:List (Nat×Nat):=((zL g.ports.length).erase a).map fun v=>(v,up v)
  let P:List (Nat×Nat):=(zL g.ports.length).flatMap fun v=>(g.ports.getD v []).map fun l=>(v,l.1.toNat)
  have B:((zL g.ports.length).erase a).Nodup:=List.nodup_range.erase a
  have z:∀x y,(x,y)∈U↔x<g.ports.length/\x≠a/\y=up x:=fun x y=>by
   show(x,y)∈((zL g.ports.length).erase a).map (fun v=>(v,up v))↔_;rw[List.mem_map];constructor
   .rintro⟨v,j,e⟩;cases e
    have j:=(List.nodup_range.mem_erase_iff).1 j;exact⟨List.mem_range.1 j.2,j.1,rfl⟩
   .rintro⟨b,c,rfl⟩;exact⟨x,(List.nodup_range.mem_erase_iff).2 ⟨c,List.mem_range.2 b⟩,rfl⟩
  have C:∀x y,(x,y)∈P↔x<g.ports.length/\adj g x y:=fun x y=>by
   show(x,y)∈zCN _ _↔_;rw[List.mem_flatMap];constructor
   .rintro⟨v,j,h⟩;obtain⟨l,A,e⟩:=List.mem_map.1 h;cases e
    have j:=List.mem_range.1 j;exact⟨j,(ybfe r j A).2.2.1⟩
   .rintro⟨b,c⟩;obtain⟨l,A,e⟩:=ycat c;exact⟨x,List.mem_range.2 b,List.mem_map.2 ⟨l,A,by rw[e]⟩⟩
  have t:∀x y,(x,y)∈U->(ybx g a).getD y 0=(ybx g a).getD x 0-1:=fun x y h=>by
   obtain⟨b,c,rfl⟩:=(z x y).1 h;exact(d x b c).2
  have E:U.Nodup:=by
   show(((zL g.ports.length).erase a).map (fun v=>(v,up v))).Nodup;rw[List.Nodup,zAX];exact B.imp fun h e=>h (congrArg Prod.fst e)
  have N:(U.map fun p=>(p.2,p.1)).Nodup:=by
   rw[List.Nodup,zAX];exact E.imp fun h e=>h (by simp only[Prod.mk.injEq]at e;exact Prod.ext e.2 e.1)
  have D:(U++U.map fun p=>(p.2,p.1)).Nodup:=by
   rw[List.nodup_append];refine⟨E,N,?_⟩;rintro⟨x,y⟩ b ⟨S,T⟩ c e;cases e
   obtain⟨⟨p,q⟩,f,e⟩:=List.mem_map.1 c;cases e
   have F:=t _ _ b;have G:=t _ _ f;simp only at F G;omega
  have M:U.length=g.ports.length-1:=by
   show(List.map _ _).length=_;rw[zAH,zAJ (List.mem_range.2 m),List.length_range]
  have L:P.length=yon g:=by
   show(zCN _ _).length=_;rw[List.length_flatMap];unfold yon;congr 1;refine List.ext_getElem (by simp) fun i b c=>?_
   have I:i<g.ports.length:=by simpa using c
   simp[zX,I]
  have o:=ycfk D (l2:=P) (fun p J=>by
   obtain⟨x,y⟩:=p;rcases List.mem_append.1 J with h|h
   .obtain⟨b,c,rfl⟩:=(z x y).1 h;exact(C _ _).2 ⟨b,(d x b c).1⟩
   .obtain⟨⟨p,q⟩,f,e⟩:=List.mem_map.1 h;cases e
    obtain⟨b,c,e⟩:=(z _ _).1 f;simp only at e ⊢;subst e;have n:=(d p b c).1;exact(C _ _).2 ⟨(r.adj_lt n).2,r.adj_symm n⟩) (by have K:(U.map fun p=>(p.2,p.1)).length=U.length:=zAH _;rw[zI,K,M,L];omega)
  refine⟨up,fun v u h=>?_⟩;have b:=o (v,u) ((C v u).2 ⟨(r.adj_lt h).1,h⟩);rcases List.mem_append.1 b with h|h
  .left
   obtain⟨_,c,f⟩:=(z v u).1 h;exact⟨c,f,t _ _ h⟩
  .right
   obtain⟨⟨p,q⟩,f,e⟩:=List.mem_map.1 h;cases e
   have:=t _ _ f;simp only at this ⊢;omega
 constructor
 .intro a v u m h;obtain⟨up,d⟩:=s a m;rcases d v u h with⟨_,_,f⟩|f
  .exact .inl f
  .exact .inr f
 .intro a v u w m b c O Q;obtain⟨up,d⟩:=s a m;rcases d v u b with⟨_,f,_⟩|f
  .rcases d v w c with⟨_,n,_⟩|n
   .rw[f,n]
   .omega
  .omega
end
section
structure Tr(g:Gr):Prop where
 good:ybj g
 conn:yee g=true
 m:TreeM g
section
variable {g:Gr}{a b u v w x:Nat}
end
end
section
namespace Sh
open Go Ev
def yctq:LO:=[bx' 77 0 1 0,o3 (.mv (.const (.nilFunc))) 2 0]
def ydgl:LO:=[o3 (.mkfn 172 [] [(.tmp 1)]) 3 0,mv' 3 2 1]
def c129:SC:=(sr yctq <| sr ydgl <| .ret)
theorem ycqr:FnM 129 c129 [.t 2]:=fn_m Tryz.func129
end Sh
end
section
theorem TreeTo.tr{x:NetR}{g:Gr}(a:ybj g)(h:TreeTo x g.ports.length g):Tr g:=by
 have b:=Tre.conn a h.tre;refine⟨a,b,yebx a b ?_⟩;have:=h.count;have:=a.1;omega
namespace Sh
open Ev Go.RowKit
theorem ybgk(g:Gr):vok (yia g.ports) 5 (ywg g)/\Sim (view (yia g.ports) 5 (ywg g)) (grV g):=by
 obtain⟨P,b⟩:∃P,g.ports=P:=⟨_,rfl⟩;simp only[ywg,yia,grV,b,go_sem,zA];refine⟨fun q a=>?_,?_⟩
 .simp only[if_pos a];exact⟨zAG _,fun k hk=>by simp only[rowO,go_sem]⟩
 .refine ybgs ⟨Sim.refl _,?_,trivial⟩;refine yeb fun q a=>?_;simp only[if_pos a];simp only[rowO,ybb,go_sem];exact⟨Sim.refl _,trivial⟩
theorem ycjp{x:NetR}(j:x.ok){most:Nat}(f:1<=most/\most<=24) :
 Ct zF 10 [.ag (netC x),.i .i64 most] fun r=>∃g,Tr g/\ycaj g=true/\(g.ports.length<=most/\(g.ports.length:Int)=1+yej (IntKind.wrap .i64 (x.n-1)) most/\ybgt x g.ids)/\Sim r (grV g) :=
 (ydnu j f).ct fun r k ⟨g,b,c,h,d,e⟩=>by
   subst d e;have a:=c.tr b;refine⟨(ybgk g).1,g,a,?_,h,(ybgk g).2⟩;unfold ycaj;rw[a.conn];have:=c.count;have:=b.1;simp only[zAU,decide_eq_true_eq];omega
end Sh
end
section
namespace Sh
open Go Ev
def ydwr:LO:=[nl' 4 0]
def ydrh:LO:=[mv' 0 8 0,ln' 8 9 1,o3 (.mk 22 1 24 [.a (.slice none 0 0)] (.tmp 9) (.tmp 9)) 10 3,mv' 10 5 7]
def yegk:LO:=[mv' 0 11 0,ln' 11 12 1,mc 0 13 0]
def ydkz:LO:=[bn' .lss 13 12 14 0]
def yecf:LO:=[mv' 13 15 0,mv' 15 6 1]
def ydsm:LO:=[mv' 5 16 0,mv' 6 17 0,mv' 0 18 0,mv' 6 19 0,ix' 1 18 19 20 12,ld' 1 20 21 28,ln' 21 22 60,o3 (.mk 3 1 8 [.i .i64 0] (.tmp 22) (.tmp 22)) 23 124,ix' 1 16 17 24 255,sto 1 24 23 511]
def yeev:LO:=[mv' 0 25 0,mv' 6 26 0,ix' 1 25 26 27 3,ld' 1 27 28 7,ln' 28 29 15,mc 0 30 0]
def ydmu:LO:=[bn' .lss 30 29 31 0]
def yeeb:LO:=[mv' 30 32 0,mv' 32 7 1]
def ydrw:LO:=[mv' 5 33 0,mv' 6 34 0,ix' 1 33 34 35 3,ld' 1 35 36 7,mv' 7 37 0,mv' 1 38 0,mv' 6 39 0,mv' 7 40 0,o3 (.call (.tmp 38) [(.tmp 39),(.tmp 40)]) 41 224,ix' 1 36 37 42 511,sto 1 42 41 1023]
def ycwq:LO:=[bc .add 30 1 43 0,mv' 43 30 1]
def ycuw:LO:=[bc .add 13 1 44 0,mv' 44 13 1]
def ydav:LO:=[mv' 5 45 0,mv' 45 4 1]
def c65:SC:=(sr ydwr <| sr ydrh <| .seq (sr yegk <| .block 0 (.loop (sr ydkz <| .seq (cn 14 .skip (.exit 0)) (.seq (.block 1 (sr yecf <| sr ydsm <| sr yeev <| .block 2 (.loop (sr ydmu <| .seq (cn 31 .skip (.exit 2)) (.seq (.block 3 (sr yeeb <| .reg true ydrw)) (.reg false ycwq)))))) (.reg false ycuw))))) (sr ydav <| .ret))
theorem ydkt:FnM 65 c65 [.t 4]:=fn_m Tryz.func65
def yefm:LO:=[bx' 32 0 2 0,bx' 27 1 3 0,nl' 4 0,mc 0 5 4]
def ydxl:LO:=[la' 3 2 8 0,la' 2 3 9 0,cl' 62 [8,9] 10 3,mv' 10 6 7]
def yece:LO:=[mv' 6 11 0,bc .neq 11 0 12 1]
def yeim:LO:=[mv' 6 13 0,nl' 4 0,mv' 13 5 3]
def ydtv:LO:=[la' 3 2 14 0,la' 2 3 15 0,cl' 63 [14,15] 16 3,o3 (.alloc 84 1 [.a (.slice none 0 0)]) 7 0,sto 1 7 16 15]
def yeaq:LO:=[ld' 1 7 17 0,o3 (.mkfn 125 [] [(.tmp 7)]) 18 0,cl' 65 [17,18] 19 3,mv' 19 4 7,mc 0 5 15]
def c59:SC:=(sr yefm <| .seq (sr ydxl <| sr yece <| cn 12 (sr yeim <| .ret) .skip) (sr ydtv <| sr yeaq <| .ret))
theorem ydjj:FnM 59 c59 [.t 4,.t 5]:=fn_m Tryz.func59
def ydfm:LO:=[mc 0 5 0]
def ydhp:LO:=[ld' 1 2 6 0,mv' 0 7 0,ix' 1 6 7 8 3,ld' 1 8 9 7,mv' 1 10 0,ix' 2 9 10 11 31,o3 (.idxA 2 1 (.tmp 11) (ci' 0)) 12 63,ld' 1 12 13 127,mv' 13 5 255]
def c125:SC:=(sr ydfm <| sr ydhp <| .ret)
theorem ydiv:Fn 125 c125 [.t 5]:=fn_0 Tryz.func125
def ydvv:LO:=[bx' 32 0 2 0,bx' 27 1 3 0,mc 0 4 0,mc 0 5 4]
def yeag:LO:=[la' 3 2 7 0,la' 2 3 8 0,cl' 62 [7,8] 9 3,mv' 9 6 7]
def ydwc:LO:=[mv' 6 10 0,bc .neq 10 0 11 1]
def yeih:LO:=[mv' 6 12 0,mc 0 4 0,mv' 12 5 3]
def yeep:LO:=[la' 3 2 13 0,la' 2 3 14 0,cl' 63 [13,14] 15 3,cl' 64 [15] 16 7,xt' 16 0 17 15,xt' 16 1 18 15,mv' 17 4 63,mv' 18 5 127]
def c56:SC:=(sr ydvv <| .seq (sr yeag <| sr ydwc <| cn 11 (sr yeih <| .ret) .skip) (sr yeep <| .ret))
theorem ydsh:Fn 56 c56 [.t 4,.t 5]:=fn_0 Tryz.func56
def ydvf:LO:=[mc 0 2 0,mc 0 3 1]
def ydqp:LO:=[mc 1 4 0]
def ydwo:LO:=[mv' 0 9 0,ln' 9 10 1,mc 0 11 0]
def ydlh:LO:=[bn' .lss 11 10 12 0]
def ydua:LO:=[ix' 1 9 11 13 0,ld' 1 13 14 1,mv' 14 6 3]
def ydrp:LO:=[mv' 6 15 0,ln' 15 16 1,mc 0 17 0]
def ydps:LO:=[bn' .lss 17 16 18 0]
def ydsd:LO:=[ix' 2 15 17 19 0,la' 2 19 20 1,o3 (.alloc 91 1 [.i .i64 0,.i .i64 0]) 8 0,sto 2 8 20 7]
def ydsu:LO:=[mv' 4 21 0,o3 (.idxA 2 1 (.tmp 8) (ci' 1)) 22 0,ld' 1 22 23 2,o3 (.idxA 2 1 (.tmp 8) (ci' 0)) 24 0,ld' 1 24 25 8,bn' .sub 23 25 26 30,bc .add 26 1 27 62,bn' .mul 21 27 28 127,mv' 28 4 255]
def yebi:LO:=[mv' 4 29 0,bc .gtr 29 32768 30 1]
def ydto:LO:=[mc 0 2 0,mc 3 3 1]
def ydaw:LO:=[bc .add 17 1 31 0,mv' 31 17 1]
def ycwj:LO:=[bc .add 11 1 32 0,mv' 32 11 1]
def ycwd:LO:=[mv' 4 33 0,mv' 33 2 1,mc 0 3 3]
def c64:SC:=(sr ydvf <| sr ydqp <| .seq (sr ydwo <| .block 0 (.loop (sr ydlh <| .seq (cn 12 .skip (.exit 0)) (.seq (.block 1 (sr ydua <| sr ydrp <| .block 2 (.loop (sr ydps <| .seq (cn 18 .skip (.exit 2)) (.seq (.block 3 (sr ydsd <| sr ydsu <| sr yebi <| cn 30 (sr ydto <| .ret) .skip)) (.reg false ydaw)))))) (.reg false ycwj))))) (sr ycwd <| .ret))
theorem yeai:Fn 64 c64 [.t 2,.t 3]:=fn_0 Tryz.func64
def ydyg:LO:=[bx' 32 0 3 0,bx' 27 1 4 0,bx' 3 2 5 0,nl' 6 0,mc 0 7 8]
def ydrg:LO:=[la' 3 3 18 0,la' 2 4 19 0,cl' 62 [18,19] 20 3,mv' 20 8 7]
def yeej:LO:=[mv' 8 21 0,bc .neq 21 0 22 1]
def yeia:LO:=[mv' 8 23 0,nl' 6 0,mv' 23 7 3]
def yegu:LO:=[la' 3 3 24 0,la' 2 4 25 0,cl' 63 [24,25] 26 3,o3 (.alloc 84 1 [.a (.slice none 0 0)]) 9 0,sto 1 9 26 15]
def yedf:LO:=[ld' 1 9 28 0,cl' 64 [28] 29 1,mv' 29 27 3,xt' 27 0 30 7,xt' 27 1 31 7,mv' 30 10 15,mv' 31 11 63]
def yefp:LO:=[mv' 11 32 0,bc .neq 32 0 33 1]
def yejm:LO:=[mv' 11 34 0,nl' 6 0,mv' 34 7 3]
def ydzy:LO:=[ld' 1 5 35 0,bc .lss 35 0 36 1,mv' 36 37 3,gf (.load false 1 (.tmp 5)) 38 37 7,gf (.mv (.tmp 10)) 39 37 7,gf (.bin .geq (.tmp 38) (.tmp 39)) 40 37 31,pk' 37 40 41 63]
def yeiq:LO:=[nl' 6 0,mc 2 7 1]
def ydce:LO:=[ld' 1 9 42 0,o3 (.mkfn 66 [] [(.tmp 9)]) 43 0,cl' 65 [42,43] 44 3,o3 (.alloc 46 1 [.a (.slice none 0 0)]) 12 0,sto 1 12 44 15]
def ydbo:LO:=[ld' 1 9 45 0,cl' 67 [45] 46 1]
def ycsn:LO:=[o3 (.alloc 3 1 [.i .i64 0]) 13 0,sto 1 13 47 1]
def yder:LO:=[mv' 48 14 0]
def ydfw:LO:=[mv' 14 49 0,cl' 68 [49] 50 1]
def ycxb:LO:=[mv' 51 15 0]
def yddu:LO:=[o3 (.alloc 91 1 [.i .i64 0,.i .i64 0]) 16 0,sto 2 16 52 1]
def ycvd:LO:=[o3 (.idxA 2 1 (.tmp 16) (ci' 1)) 53 0,ld' 1 53 54 1,o3 (.idxA 2 1 (.tmp 16) (ci' 0)) 55 0,ld' 1 55 56 4,bn' .sub 54 56 57 15,bc .add 57 1 58 31,mv' 58 17 63]
def ydhe:LO:=[ld' 1 12 59 0,ld' 1 13 60 0,ix' 1 59 60 61 3,ld' 1 61 62 7,mv' 15 63 0,ix' 1 62 63 64 31,ld' 1 64 65 63,ld' 1 5 66 0,mv' 17 67 0,bn' .rem 66 67 68 384,bn' .add 65 68 69 1023,ix' 1 62 63 70 2047,sto 1 70 69 4095]
def ydcr:LO:=[ld' 1 5 71 0,mv' 17 72 0,bn' .quo 71 72 73 3,sto 1 5 73 7]
def ydey:LO:=[ld' 1 12 74 0,mv' 74 6 1,mc 0 7 3]
def c15:SC:=(sr ydyg <| .seq (sr ydrg <| sr yeej <| cn 22 (sr yeia <| .ret) .skip) (sr yegu <| sr yedf <| .seq (sr yefp <| cn 33 (sr yejm <| .ret) .skip) (.seq (sr ydzy <| cn 41 (sr yeiq <| .ret) .skip) (sr ydce <| .seq (sr ydbo <| .block 0 (.range (.tmp 46) [47,48] (sr ycsn <| .reg false yder) (.block 1 (sr ydfw <| .block 2 (.range (.tmp 50) [51,52] (sr ycxb <| .reg false yddu) (.block 3 (sr ycvd <| .seq (.reg true ydhe) (.reg false ydcr)))))))) (sr ydey <| .ret)))))
theorem ydnv:FnU 15 c15 [.t 6,.t 7]:=fn_u Tryz.func15
def ydts:LO:=[mc 0 5 0]
def ydqz:LO:=[ld' 1 2 6 0,mv' 0 7 0,ix' 1 6 7 8 3,ld' 1 8 9 7,mv' 1 10 0,ix' 2 9 10 11 31,o3 (.idxA 2 1 (.tmp 11) (ci' 0)) 12 63,ld' 1 12 13 127,mv' 13 5 255]
def c66:SC:=(sr ydts <| sr ydqz <| .ret)
theorem ydxx:Fn 66 c66 [.t 5]:=fn_0 Tryz.func66
def ydzu:LO:=[bx' 46 1 3 0]
def ydtz:LO:=[mv' 0 8 0,cl' 67 [8] 9 1]
def ydqt:LO:=[o3 (.alloc 3 1 [.i .i64 0]) 4 0,sto 1 4 10 1]
def ydyp:LO:=[mv' 11 5 0]
def ydsw:LO:=[mv' 5 12 0,cl' 68 [12] 13 1]
def ydmx:LO:=[mv' 14 6 0]
def ydpv:LO:=[o3 (.alloc 91 1 [.i .i64 0,.i .i64 0]) 7 0,sto 2 7 15 1]
def ydpz:LO:=[ld' 1 3 16 0,ld' 1 4 17 0,ix' 1 16 17 18 3,ld' 1 18 19 7,mv' 6 20 0,ix' 1 19 20 21 31,ld' 1 21 22 63,o3 (.idxA 2 1 (.tmp 7) (ci' 1)) 23 0,ld' 1 23 24 128,bn' .lss 22 24 25 511]
def ydyw:LO:=[ld' 1 3 26 0,ld' 1 4 27 0,ix' 1 26 27 28 3,ld' 1 28 29 7,mv' 6 30 0,ix' 1 29 30 31 31,ld' 1 31 32 63,bc .add 32 1 33 127,ix' 1 29 30 34 255,sto 1 34 33 511]
def yeei:LO:=[ld' 1 3 35 0,ld' 1 4 36 0,ix' 1 35 36 37 3,ld' 1 37 38 7,mv' 6 39 0,o3 (.idxA 2 1 (.tmp 7) (ci' 0)) 40 0,ld' 1 40 41 32,ix' 1 38 39 42 127,sto 1 42 41 255]
def c61:SC:=(sr ydzu <| sr ydtz <| .block 0 (.range (.tmp 9) [10,11] (sr ydqt <| .reg false ydyp) (.block 1 (sr ydsw <| .block 2 (.range (.tmp 13) [14,15] (sr ydmx <| .reg false ydpv) (.block 3 (.seq (.seq (.reg true ydpz) (cn 25 (sr ydyw <| .ret) .skip)) (.reg true yeei))))))))
theorem ydkr:FnM 61 c61 []:=fn_m Tryz.func61
def ydzx:LO:=[bx' 84 0 1 0,o3 (.mv (.const (.nilFunc))) 2 0]
def yeca:LO:=[o3 (.mkfn 133 [] [(.tmp 1)]) 3 0,mv' 3 2 1]
def c67:SC:=(sr ydzx <| sr yeca <| .ret)
theorem yehb:Fn 67 c67 [.t 2]:=fn_0 Tryz.func67
def ycsq:LO:=[bx' 41 0 1 0,mb false 2 0]
def ycwc:LO:=[fa' 0 1 1 6 0,ld' 1 6 7 1,ln' 7 8 3,mv' 8 3 7]
def ycxx:LO:=[mv' 3 9 0,bc .lss 9 1 10 1,mv' 10 11 3,gf (.mv (.tmp 3)) 12 11 7,gf (.bin .gtr (.tmp 12) (ci' 32768)) 13 11 15,pk' 11 13 14 31,mv' 14 15 63,gf (.faddr 1 1 (.tmp 1)) 16 15 127,gf (.load false 1 (.tmp 16)) 17 15 255,gf (.len (.tmp 17)) 18 15 511,gf (.mv (.tmp 3)) 19 15 127,gf (.bin .neq (.tmp 18) (.tmp 19)) 20 15 2047,pk' 15 20 21 4095]
def yegs:LO:=[mb false 2 0]
def yczp:LO:=[mc 0 4 0]
def ycwx:LO:=[mv' 3 22 0,mc 0 23 0]
def ycfc:LO:=[bn' .lss 23 22 24 0]
def ydad:LO:=[mv' 23 25 0,mv' 25 5 1]
def ydem:LO:=[mv' 4 26 0,fa' 1 1 1 27 0,ld' 1 27 28 2,mv' 5 29 0,ix' 1 28 29 30 14,ld' 1 30 31 30,ln' 31 32 62,bn' .add 26 32 33 127,mv' 33 4 255]
def ydcw:LO:=[mv' 4 34 0,bc .gtr 34 262144 35 1,mv' 35 36 3,gf (.faddr 0 1 (.tmp 1)) 37 36 7,gf (.load false 1 (.tmp 37)) 38 36 15,gf (.mv (.tmp 5)) 39 36 7,gf (.idx 1 (.tmp 38) (.tmp 39)) 40 36 63,gf (.load false 1 (.tmp 40)) 41 36 127,gf (.faddr 1 1 (.tmp 1)) 42 36 7,gf (.load false 1 (.tmp 42)) 43 36 263,gf (.mv (.tmp 5)) 44 36 7,gf (.idx 1 (.tmp 43) (.tmp 44)) 45 36 1799,gf (.load false 1 (.tmp 45)) 46 36 3847,gf (.mv (.tmp 3)) 47 36 7,gf (.call (.func 180) [(.tmp 41),(.tmp 46),(.tmp 47)]) 48 36 16383,gf (.un .not (.tmp 48)) 49 36 32767,pk' 36 49 50 65535]
def ydnk:LO:=[mb false 2 0]
def ycce:LO:=[bc .add 23 1 51 0,mv' 51 23 1]
def ycht:LO:=[mb true 2 0]
def c136:SC:=(sr ycsq <| sr ycwc <| .seq (sr ycxx <| cn 21 (sr yegs <| .ret) .skip) (sr yczp <| .seq (sr ycwx <| .block 0 (.loop (sr ycfc <| .seq (cn 24 .skip (.exit 0)) (.seq (.block 1 (sr ydad <| sr ydem <| .seq (.reg true ydcw) (cn 50 (sr ydnk <| .ret) .skip))) (.reg false ycce))))) (sr ycht <| .ret)))
theorem ydma:Fn 136 c136 [.t 2]:=fn_0 Tryz.func136
def ydat:LO:=[mb false 6 0]
def yctf:LO:=[mv' 0 10 0,o3 (.bin .shr (.tmp 10) (.const (.int .u64 24))) 11 1,o3 (.bin .neq (.tmp 11) (.const (.int .u32 0))) 12 3,mv' 12 13 7,gf (.mv (.tmp 0)) 14 13 15,gf (.bin .neq (.tmp 14) (.const (.int .u32 0))) 15 13 31,gf (.mv (.tmp 1)) 16 13 15,gf (.len (.tmp 16)) 17 13 79,gf (.bin .gtr (.tmp 17) (ci' 0)) 18 13 207,gf (.beq true (.tmp 15) (.tmp 18)) 19 13 511,pk' 13 19 20 1023]
def ydzr:LO:=[mb false 6 0]
def ycwo:LO:=[o3 (.mv (.const (.int .u32 0))) 7 0]
def yddh:LO:=[mv' 1 21 0,ln' 21 22 1,mc 0 23 0]
def ycla:LO:=[bn' .lss 23 22 24 0]
def ydeb:LO:=[ix' 2 21 23 25 0,la' 2 25 26 1,o3 (.alloc 103 1 [.i .u32 0,.i .i64 0]) 9 0,sto 2 9 26 7]
def ycxk:LO:=[fa' 0 1 9 27 0,ld' 1 27 28 1,mv' 7 29 0,bn' .leq 28 29 30 7,mv' 30 31 15,gf (.faddr 0 1 (.tmp 9)) 32 31 31,gf (.load false 1 (.tmp 32)) 33 31 63,gf (.mv (.tmp 0)) 34 31 31,gf (.bin .andNot (.tmp 33) (.tmp 34)) 35 31 255,gf (.bin .neq (.tmp 35) (.const (.int .u32 0))) 36 31 511,pk' 31 36 37 1023,mv' 37 38 2047,gf (.faddr 1 1 (.tmp 9)) 39 38 4095,gf (.load false 1 (.tmp 39)) 40 38 8191,gf (.bin .lss (.tmp 40) (ci' 0)) 41 38 16383,pk' 38 41 42 32767,mv' 42 43 65535,gf (.faddr 1 1 (.tmp 9)) 44 43 131071,gf (.load false 1 (.tmp 44)) 45 43 262143,gf (.mv (.tmp 2)) 46 43 131071,gf (.bin .geq (.tmp 45) (.tmp 46)) 47 43 1048575,pk' 43 47 48 2097151]
def ydgj:LO:=[mb false 6 0]
def ydfe:LO:=[fa' 0 1 9 49 0,ld' 1 49 50 1,mv' 50 7 3]
def ychj:LO:=[bc .add 23 1 51 0,mv' 51 23 1]
def ybmk:LO:=[mb true 6 0]
def c180:SC:=(sr ydat <| .seq (sr yctf <| cn 20 (sr ydzr <| .ret) .skip) (sr ycwo <| .seq (sr yddh <| .block 0 (.loop (sr ycla <| .seq (cn 24 .skip (.exit 0)) (.seq (.block 1 (sr ydeb <| .seq (sr ycxk <| cn 48 (sr ydgj <| .ret) .skip) (.reg false ydfe))) (.reg false ychj))))) (sr ybmk <| .ret)))
theorem ydio:Fn 180 c180 [.t 6]:=fn_0 Tryz.func180
def ydva:LO:=[bx' 32 0 3 0,bx' 27 1 4 0,o3 (.alloc 41 1 [.a (.slice none 0 0),.a (.slice none 0 0)]) 6 0,mc 0 7 0]
def yeac:LO:=[la' 3 3 20 0,la' 2 4 21 0,cl' 56 [20,21] 22 3,mv' 22 19 7,xt' 19 0 23 15,xt' 19 1 24 15,mv' 23 8 31,mv' 24 9 127]
def ydvl:LO:=[mv' 9 25 0,bc .neq 25 0 26 1,mv' 26 27 3,gt (.mv (.tmp 9)) 28 27 7,gt (.bin .neq (.tmp 28) (ci' 3)) 29 27 15,o3 (.pick (.tmp 27) (.tmp 29) (.const (.bool false))) 30 31]
def yejc:LO:=[o3 (.build [.a (.slice none 0 0),.a (.slice none 0 0)] []) 31 0,mv' 9 32 0,sto 2 6 31 1,mv' 32 7 7]
def ydtt:LO:=[mv' 2 33 0,cl' 57 [33] 34 1,o3 (.un .not (.tmp 34)) 35 3]
def yehy:LO:=[o3 (.build [.a (.slice none 0 0),.a (.slice none 0 0)] []) 36 0,sto 2 6 36 1,mc 12 7 3]
def yeeg:LO:=[mv' 9 37 0,bc .neq 37 0 38 1]
def yeiy:LO:=[o3 (.build [.a (.slice none 0 0),.a (.slice none 0 0)] []) 39 0,mv' 9 40 0,sto 2 6 39 1,mv' 40 7 7]
def yeeu:LO:=[la' 3 3 41 0,la' 2 4 42 0,mv' 2 43 0,cl' 58 [41,42,43] 44 7,mv' 44 10 15]
def ydri:LO:=[mv' 8 45 0,o3 (.mk 77 1 4 [.i .u32 0] (.tmp 45) (.tmp 45)) 46 1,mv' 8 47 0,o3 (.mk 78 1 24 [.a (.slice none 0 0)] (.tmp 47) (.tmp 47)) 48 4,o3 (.build [.a (.slice none 0 0),.a (.slice none 0 0)] [(0,1,(.tmp 46)),(1,1,(.tmp 48))]) 49 15,o3 (.alloc 41 1 [.a (.slice none 0 0),.a (.slice none 0 0)]) 11 0,sto 2 11 49 63]
def ycun:LO:=[la' 3 3 51 0,la' 2 4 52 0,cl' 59 [51,52] 53 3,mv' 53 50 7,xt' 50 0 54 15,xt' 50 1 55 15,mv' 54 12 31,mv' 55 13 127]
def ydha:LO:=[mc 0 14 0]
def ydgd:LO:=[mv' 8 56 0,mc 0 57 0]
def ybye:LO:=[bn' .lss 57 56 58 0]
def ydef:LO:=[mv' 57 59 0,mv' 59 15 1]
def ycsw:LO:=[mv' 10 61 0,mv' 12 62 0,mv' 15 63 0,cl' 60 [61,62,63] 64 7,mv' 64 60 15,xt' 60 0 65 31,xt' 60 1 66 31,xt' 60 2 67 31,mv' 65 16 63,mv' 66 17 383,mv' 67 18 1023]
def ydes:LO:=[mv' 14 68 0,mv' 17 69 0,ln' 69 70 2,bn' .add 68 70 71 7,mv' 71 14 15]
def ycvz:LO:=[mv' 18 72 0,bc .neq 72 0 73 1,mv' 73 74 3,gf (.mv (.tmp 14)) 75 74 7,gf (.bin .gtr (.tmp 75) (ci' 262144)) 76 74 15,pk' 74 76 77 31]
def yeel:LO:=[o3 (.build [.a (.slice none 0 0),.a (.slice none 0 0)] []) 78 0,sto 2 6 78 1,mc 3 7 3]
def ydez:LO:=[fa' 0 1 11 79 0,ld' 1 79 80 1,mv' 15 81 0,fa' 1 1 11 82 0,ld' 1 82 83 8,mv' 15 84 0,mv' 16 85 0,mv' 17 86 0,ix' 1 80 81 87 71,sto 1 87 85 327,ix' 1 83 84 88 1023,sto 1 88 86 2047]
def ycya:LO:=[mv' 10 89 0,nk' 89 90 1,fa' 3 1 90 91 3,ld' 1 91 92 7,mv' 12 93 0,cl' 61 [92,93] 94 31]
def ydbq:LO:=[bc .add 57 1 95 0,mv' 95 57 1]
def ycti:LO:=[la' 2 11 96 0,sto 2 6 96 1,mc 0 7 3]
def c14:SC:=(sr ydva <| sr yeac <| .seq (sr ydvl <| cn 30 (sr yejc <| .ret) .skip) (.seq (sr ydtt <| cn 35 (sr yehy <| .ret) .skip) (.seq (sr yeeg <| cn 38 (sr yeiy <| .ret) .skip) (sr yeeu <| .seq (.reg true ydri) (sr ycun <| sr ydha <| .seq (sr ydgd <| .block 0 (.loop (sr ybye <| .seq (cn 58 .skip (.exit 0)) (.seq (.block 1 (sr ydef <| sr ycsw <| sr ydes <| .seq (sr ycvz <| cn 77 (sr yeel <| .ret) .skip) (.seq (.reg true ydez) (.reg false ycya)))) (.reg false ydbq))))) (sr ycti <| .ret))))))
theorem ydis:FnU 14 c14 [.c 6 true 2,.t 7]:=fn_u Tryz.func14
def yebp:LO:=[bx' 32 0 3 0,bx' 27 1 4 0,o3 (.mv (.const (.pointer none))) 6 0]
def yeay:LO:=[la' 3 3 11 0,la' 2 4 12 0,cl' 123 [11,12] 13 3,la' 2 4 14 0,cl' 124 [14] 15 15,mv' 2 16 0,la' 3 3 17 0,la' 2 4 18 0,cl' 63 [17,18] 19 223,o3 (.build [.a (.pointer none),.a (.slice none 0 0),.i .i64 0,.a (.slice none 0 0),.a (.slice none 0 0)] [(0,1,(.tmp 13)),(1,1,(.tmp 15)),(2,1,(.tmp 16)),(3,1,(.tmp 19))]) 20 511,bx' 86 20 21 1023,mv' 21 7 2047]
def ydql:LO:=[mv' 7 22 0,mv' 7 23 0,nk' 23 24 2,fa' 3 1 24 25 6,ld' 1 25 26 14,ln' 26 27 30,o3 (.mk 22 1 24 [.a (.slice none 0 0)] (.tmp 27) (.tmp 27)) 28 62,nk' 22 29 127,fa' 4 1 29 30 255,sto 1 30 28 511]
def ydyt:LO:=[mc 1 8 0]
def yege:LO:=[mv' 7 31 0,nk' 31 32 1,fa' 3 1 32 33 3,ld' 1 33 34 7,ln' 34 35 15,bc .sub 35 1 36 31,mv' 36 9 63]
def ydkq:LO:=[mv' 9 37 0,bc .geq 37 0 38 1]
def yeft:LO:=[mv' 7 41 0,nk' 41 42 1,fa' 4 1 42 43 3,ld' 1 43 44 7,mv' 9 45 0,mv' 7 46 0,nk' 46 47 32,fa' 3 1 47 48 96,ld' 1 48 49 224,mv' 9 50 0,ix' 1 49 50 51 992,ld' 1 51 52 2016,ln' 52 53 4064,o3 (.mk 3 1 8 [.i .i64 0] (.tmp 53) (.tmp 53)) 54 8160,ix' 1 44 45 55 16383,sto 1 55 54 32767]
def ydvg:LO:=[mv' 7 56 0,nk' 56 57 1,fa' 3 1 57 58 3,ld' 1 58 59 7,mv' 9 60 0,ix' 1 59 60 61 31,ld' 1 61 62 63,ln' 62 63 127,bc .sub 63 1 64 255,mv' 64 10 511]
def ydmr:LO:=[mv' 10 65 0,bc .geq 65 0 66 1]
def ycuh:LO:=[mv' 7 69 0,nk' 69 70 1,fa' 4 1 70 71 3,ld' 1 71 72 7,mv' 9 73 0,ix' 1 72 73 74 31,ld' 1 74 75 63,mv' 10 76 0,mv' 8 77 0,ix' 1 75 76 78 511,sto 1 78 77 1023]
def ycwh:LO:=[mv' 8 79 0,mv' 7 80 0,nk' 80 81 2,fa' 3 1 81 82 6,ld' 1 82 83 14,mv' 9 84 0,ix' 1 83 84 85 62,ld' 1 85 86 126,mv' 10 87 0,ix' 2 86 87 88 510,o3 (.idxA 2 1 (.tmp 88) (ci' 1)) 89 1022,ld' 1 89 90 2046,mv' 7 91 0,nk' 91 92 4096,fa' 3 1 92 93 12288,ld' 1 93 94 28672,mv' 9 95 0,ix' 1 94 95 96 126976,ld' 1 96 97 258048,mv' 10 98 0,ix' 2 97 98 99 1044480,o3 (.idxA 2 1 (.tmp 99) (ci' 0)) 100 2093056,ld' 1 100 101 4190208,bn' .sub 90 101 102 8388606,bc .add 102 1 103 16777214,bn' .mul 79 103 104 33554431,mv' 104 8 67108863]
def ydgw:LO:=[mv' 10 67 0,bc .sub 67 1 68 1,mv' 68 10 3]
def yebt:LO:=[mv' 9 39 0,bc .sub 39 1 40 1,mv' 40 9 3]
def yczb:LO:=[mv' 7 105 0,mv' 105 6 1]
def c58:SC:=(sr yebp <| .seq (.reg true yeay) (sr ydql <| sr ydyt <| .seq (sr yege <| .block 0 (.loop (.seq (sr ydkq <| cn 38 .skip (.exit 0)) (.seq (.block 1 (.seq (.reg true yeft) (sr ydvg <| .block 2 (.loop (.seq (sr ydmr <| cn 66 .skip (.exit 2)) (.seq (.block 3 (sr ycuh <| .reg true ycwh)) (.reg false ydgw))))))) (.reg false yebt))))) (sr yczb <| .ret)))
theorem ydyu:Fn 58 c58 [.t 6]:=fn_0 Tryz.func58
def yefr:LO:=[o3 (.mv (.const (.int .u32 0))) 6 0,nl' 7 1,mc 0 8 3]
def yedv:LO:=[o3 (.mv (.const (.int .u32 0))) 9 0]
def yecn:LO:=[o3 (.alloc 150 24 [.i .i64 0]) 10 0]
def yecy:LO:=[mv' 1 21 0,ln' 21 22 1,mc 0 23 0]
def ycrv:LO:=[bn' .lss 23 22 24 0]
def ydng:LO:=[mv' 23 25 0,mv' 25 11 1]
def ydix:LO:=[mv' 0 26 0,nk' 26 27 1,fa' 0 1 27 28 3,ld' 1 28 29 7,mv' 1 30 0,mv' 11 31 0,cl' 126 [29,30,31] 32 63,mv' 32 12 127]
def ydig:LO:=[mv' 12 33 0,bc .lss 33 0 34 1]
def ydys:LO:=[mv' 9 35 0,mv' 11 36 0,o3 (.bin .shl (.const (.int .u32 1)) (.tmp 36)) 37 2,bn' .or 35 37 38 7,mv' 38 9 15]
def ydwa:LO:=[mv' 0 39 0,nk' 39 40 1,fa' 0 1 40 41 3,ld' 1 41 42 7,mv' 1 43 0,mv' 11 44 0,mv' 12 45 0,cl' 127 [42,43,44,45] 46 127,ln' 46 47 255,mc 0 48 0]
def ycjq:LO:=[bn' .lss 48 47 49 0]
def ydba:LO:=[mv' 48 50 0,ix' 1 46 48 51 0,ld' 1 51 52 2,mv' 50 13 7,mv' 52 14 15]
def ydbt:LO:=[mv' 11 53 0,o3 (.idxA 24 1 (.tmp 10) (.tmp 53)) 54 1,ld' 1 54 55 3,mv' 14 56 0,mv' 1 57 0,mv' 11 58 0,ix' 1 57 58 59 48,ld' 1 59 60 112,mv' 13 61 0,ix' 1 60 61 62 496,ld' 1 62 63 1008,bn' .sub 56 63 64 2040,mv' 0 65 0,nk' 65 66 4096,fa' 4 1 66 67 12288,ld' 1 67 68 28672,mv' 11 69 0,ix' 1 68 69 70 126976,ld' 1 70 71 258048,mv' 13 72 0,ix' 1 71 72 73 1044480,ld' 1 73 74 2093056,bn' .mul 64 74 75 4194296,bn' .add 55 75 76 8388607,o3 (.idxA 24 1 (.tmp 10) (.tmp 53)) 77 16777215,sto 1 77 76 33554431]
def ydfs:LO:=[bc .add 48 1 78 0,mv' 78 48 1]
def ycik:LO:=[bc .add 23 1 79 0,mv' 79 23 1]
def ycus:LO:=[mv' 0 81 0,nk' 81 82 1,fa' 1 1 82 83 3,ld' 1 83 84 7,mv' 0 85 0,nk' 85 86 16,fa' 2 1 86 87 48,ld' 1 87 88 112,mv' 9 89 0,cl' 128 [84,88,89] 90 511,mv' 90 80 1023,xt' 80 0 91 2047,xt' 80 1 92 2047,mv' 91 15 4095,mv' 92 16 16383]
def ycwf:LO:=[mv' 16 93 0,bc .neq 93 0 94 1]
def yebh:LO:=[mv' 16 95 0,o3 (.mv (.const (.int .u32 0))) 6 0,nl' 7 2,mv' 95 8 7]
def yctm:LO:=[mv' 15 96 0,ln' 96 97 1,o3 (.mk 103 2 16 [.i .u32 0,.i .i64 0] (.tmp 97) (.tmp 97)) 98 3,o3 (.alloc 78 1 [.a (.slice none 0 0)]) 17 0,sto 1 17 98 15]
def yddp:LO:=[mv' 15 99 0,ln' 99 100 1,mc 0 101 0]
def ycit:LO:=[bn' .lss 101 100 102 0]
def ydbf:LO:=[mv' 101 103 0,ix' 1 99 101 104 0,ld' 1 104 105 2,o3 (.alloc 3 1 [.i .i64 0]) 18 0,sto 1 18 103 15,mv' 105 19 31]
def ydge:LO:=[ld' 1 17 106 0,ld' 1 18 107 0,mv' 19 108 0,mv' 2 109 0,o3 (.build [.i .u32 0,.i .i64 0] [(0,1,(.tmp 108)),(1,1,(.tmp 109))]) 110 12,ix' 2 106 107 111 31,sto 2 111 110 63]
def ycsv:LO:=[mv' 19 112 0,cl' 129 [112] 113 1]
def ydgx:LO:=[mv' 114 20 0]
def yctd:LO:=[ld' 1 17 115 0,ld' 1 18 116 0,ix' 2 115 116 117 3,fa' 1 1 117 118 7,ld' 1 118 119 15,mv' 20 120 0,o3 (.idxA 24 1 (.tmp 10) (.tmp 120)) 121 32,ld' 1 121 122 96,bn' .add 119 122 123 255,ix' 2 115 116 124 511,fa' 1 1 124 125 1023,sto 1 125 123 2047]
def ydfg:LO:=[bc .add 101 1 126 0,mv' 126 101 1]
def ydhd:LO:=[mv' 9 127 0,ld' 1 17 128 0,mv' 127 6 1,mv' 128 7 7,mc 0 8 15]
def c60:SC:=(sr yefr <| sr yedv <| sr yecn <| .seq (sr yecy <| .block 0 (.loop (sr ycrv <| .seq (cn 24 .skip (.exit 0)) (.seq (.block 1 (sr ydng <| sr ydix <| .seq (sr ydig <| cn 34 (.exit 1) .skip) (sr ydys <| sr ydwa <| .block 2 (.loop (sr ycjq <| .seq (cn 49 .skip (.exit 2)) (.seq (.block 3 (sr ydba <| .reg true ydbt)) (.reg false ydfs))))))) (.reg false ycik))))) (.seq (.reg true ycus) (.seq (sr ycwf <| cn 94 (sr yebh <| .ret) .skip) (sr yctm <| .seq (sr yddp <| .block 4 (.loop (sr ycit <| .seq (cn 102 .skip (.exit 4)) (.seq (.block 5 (sr ydbf <| sr ydge <| sr ycsv <| .block 6 (.range (.tmp 113) [114] (.reg false ydgx) (.block 7 (.reg true yctd))))) (.reg false ydfg))))) (.seq (.reg true ydhd) .ret)))))
theorem ydoy:FnM 60 c60 [.t 6,.t 7,.t 8]:=fn_m Tryz.func60
def ycix:LO:=[nl' 6 0,mc 0 7 1]
def yche:LO:=[mv' 2 11 0,o3 (.bin .eql (.tmp 11) (.const (.int .u32 0))) 12 1]
def ydai:LO:=[nl' 6 0,mc 0 7 1]
def ycuc:LO:=[o3 (.alloc 38 1 [.a (.slice none 0 0)]) 8 0]
def ycvu:LO:=[mv' 1 13 0]
def ydeq:LO:=[bc .eql 13 1 15 0,mv' 15 14 1]
def yefk:LO:=[mv' 2 16 0,cl' 129 [16] 17 1]
def yebn:LO:=[mv' 18 9 0]
def yede:LO:=[ld' 1 8 19 0,mv' 9 20 0,o3 (.bin .shl (.const (.int .u32 1)) (.tmp 20)) 21 2,o3 (.bslice 77 1 1 [.i .u32 0] [(0,1,(.tmp 21))]) 22 6,o3 (.app 77 1 4 (.tmp 19) (.tmp 22)) 23 15,sto 1 8 23 31]
def ydqk:LO:=[ld' 1 8 24 0,mv' 24 6 1,mc 0 7 3]
def ycgg:LO:=[bc .eql 13 4 26 0,mv' 26 25 1]
def ydpw:LO:=[mv' 2 27 0,o3 (.bslice 77 1 1 [.i .u32 0] [(0,1,(.tmp 27))]) 28 1,mv' 28 6 3,mc 0 7 7]
def ychn:LO:=[mv' 2 29 0,cl' 113 [29] 30 1,bc .gtr 30 10 31 3]
def ydjr:LO:=[nl' 6 0,mc 3 7 1]
def ycci:LO:=[mv' 2 32 0,o3 (.un .neg (.tmp 32)) 33 1,mv' 2 34 0,bn' .and 33 34 35 7,mv' 35 10 15]
def ybll:LO:=[mv' 10 36 0,o3 (.bin .neq (.tmp 36) (.const (.int .u32 0))) 37 1]
def ychi:LO:=[mv' 0 43 0,mv' 1 44 0,mv' 2 45 0,mv' 10 46 0,cl' 171 [43,44,45,46] 47 15]
def ybxz:LO:=[ld' 1 8 48 0,mv' 10 49 0,o3 (.bslice 77 1 1 [.i .u32 0] [(0,1,(.tmp 49))]) 50 2,o3 (.app 77 1 4 (.tmp 48) (.tmp 50)) 51 7,sto 1 8 51 15]
def ybnp:LO:=[mv' 10 38 0,mv' 2 39 0,o3 (.wsub (.tmp 38) (.tmp 39)) 40 3,mv' 2 41 0,bn' .and 40 41 42 15,mv' 42 10 31]
def ycac:LO:=[ld' 1 8 52 0,mv' 52 6 1,mc 0 7 3]
def c128:SC:=(sr ycix <| .seq (sr yche <| cn 12 (sr ydai <| .ret) .skip) (sr ycuc <| .seq (sr ycvu <| .block 0 (sr ydeq <| cn 14 (.seq (sr yefk <| .block 1 (.range (.tmp 17) [18] (.reg false yebn) (.block 2 (.reg true yede)))) (sr ydqk <| .ret)) (sr ycgg <| cn 25 (sr ydpw <| .ret) .skip))) (.seq (sr ychn <| cn 31 (sr ydjr <| .ret) .skip) (.seq (sr ycci <| .block 3 (.loop (.seq (sr ybll <| cn 37 .skip (.exit 3)) (.seq (.block 4 (sr ychi <| cn 47 (.reg false ybxz) .skip)) (.reg false ybnp))))) (sr ycac <| .ret)))))
theorem ydod:Fn 128 c128 [.t 6,.t 7]:=fn_0 Tryz.func128
def yegy:LO:=[bx' 41 0 2 0,mc 0 4 0]
def ydth:LO:=[la' 2 2 5 0,cl' 136 [5] 6 1,o3 (.un .not (.tmp 6)) 7 3]
def yeil:LO:=[mc 13 4 0]
def ydtj:LO:=[mv' 1 8 0,ln' 8 9 1,fa' 0 1 2 10 0,ld' 1 10 11 4,ln' 11 12 12,bn' .neq 9 12 13 31]
def yejl:LO:=[mc 7 4 0]
def ydsr:LO:=[mc 0 4 0]
def c73:SC:=(sr yegy <| .seq (sr ydth <| cn 7 (sr yeil <| .ret) .skip) (.seq (sr ydtj <| cn 13 (sr yejl <| .ret) .skip) (sr ydsr <| .ret)))
theorem ydsk:Fn 73 c73 [.t 4]:=fn_0 Tryz.func73
def yean:LO:=[bx' 41 0 2 0,mb false 4 0,mc 0 5 2]
def yefi:LO:=[la' 2 2 11 0,mv' 1 12 0,cl' 73 [11,12] 13 3,mv' 13 6 7]
def ydvk:LO:=[mv' 6 14 0,bc .neq 14 0 15 1]
def yehp:LO:=[mv' 6 16 0,mb false 4 0,mv' 16 5 3]
def yeef:LO:=[fa' 1 1 2 17 0,ld' 1 17 18 1,ln' 18 19 3,mc 0 20 0]
def ycnn:LO:=[bn' .lss 20 19 21 0]
def ydpo:LO:=[mv' 20 22 0,ix' 1 18 20 23 0,ld' 1 23 24 2,mv' 22 7 7,mv' 24 8 15]
def ydiy:LO:=[mv' 1 25 0,mv' 7 26 0,ix' 1 25 26 27 3,ld' 1 27 28 7,o3 (.un .not (.tmp 28)) 29 15]
def yegw:LO:=[mv' 8 30 0,ln' 30 31 1,mc 0 32 0]
def ydsq:LO:=[bn' .lss 32 31 33 0]
def yeec:LO:=[ix' 2 30 32 34 0,la' 2 34 35 1,o3 (.alloc 103 1 [.i .u32 0,.i .i64 0]) 10 0,sto 2 10 35 7]
def ydya:LO:=[mv' 1 36 0,fa' 1 1 10 37 0,ld' 1 37 38 2,ix' 1 36 38 39 7,ld' 1 39 40 15,o3 (.un .not (.tmp 40)) 41 31]
def yecq:LO:=[mb false 4 0,mc 0 5 1]
def ydzf:LO:=[bc .add 32 1 42 0,mv' 42 32 1]
def ycic:LO:=[bc .add 20 1 43 0,mv' 43 20 1]
def ydcy:LO:=[mb true 4 0,mc 0 5 1]
def c18:SC:=(sr yean <| .seq (sr yefi <| sr ydvk <| cn 15 (sr yehp <| .ret) .skip) (.seq (sr yeef <| .block 0 (.loop (sr ycnn <| .seq (cn 21 .skip (.exit 0)) (.seq (.block 1 (sr ydpo <| .seq (sr ydiy <| cn 29 (.exit 1) .skip) (sr yegw <| .block 2 (.loop (sr ydsq <| .seq (cn 33 .skip (.exit 2)) (.seq (.block 3 (sr yeec <| sr ydya <| cn 41 (sr yecq <| .ret) .skip)) (.reg false ydzf))))))) (.reg false ycic))))) (sr ydcy <| .ret)))
theorem ydqo:Fn 18 c18 [.t 4,.t 5]:=fn_0 Tryz.func18
def ydbs:LO:=[bx' 41 0 1 0,nl' 2 0]
def ycts:LO:=[fa' 1 1 1 8 0,ld' 1 8 9 1,ln' 9 10 3,o3 (.mk 22 1 24 [.a (.slice none 0 0)] (.tmp 10) (.tmp 10)) 11 7,mv' 11 3 15]
def ydaa:LO:=[fa' 1 1 1 12 0,ld' 1 12 13 1,ln' 13 14 3,mc 0 15 0]
def ybxy:LO:=[bn' .lss 15 14 16 0]
def ycvn:LO:=[mv' 15 17 0,ix' 1 13 15 18 0,ld' 1 18 19 2,mv' 17 4 7,mv' 19 5 15]
def ydgu:LO:=[mv' 5 20 0,ln' 20 21 1,mc 0 22 0]
def ybqv:LO:=[bn' .lss 22 21 23 0]
def ycim:LO:=[ix' 2 20 22 24 0,la' 2 24 25 1,o3 (.alloc 103 1 [.i .u32 0,.i .i64 0]) 7 0,sto 2 7 25 7]
def yckw:LO:=[mv' 3 26 0,fa' 1 1 7 27 0,ld' 1 27 28 2,mv' 3 29 0,fa' 1 1 7 30 0,ld' 1 30 31 16,ix' 1 29 31 32 56,ld' 1 32 33 120,mv' 4 34 0,o3 (.bslice 3 1 1 [.i .i64 0] [(0,1,(.tmp 34))]) 35 256,o3 (.app 3 1 8 (.tmp 33) (.tmp 35)) 36 1016,ix' 1 26 28 37 2047,sto 1 37 36 4095]
def ybxe:LO:=[bc .add 22 1 38 0,mv' 38 22 1]
def ybcu:LO:=[bc .add 15 1 39 0,mv' 39 15 1]
def ycae:LO:=[mv' 3 40 0,mv' 40 2 1]
def c179:SC:=(sr ydbs <| sr ycts <| .seq (sr ydaa <| .block 0 (.loop (sr ybxy <| .seq (cn 16 .skip (.exit 0)) (.seq (.block 1 (sr ycvn <| sr ydgu <| .block 2 (.loop (sr ybqv <| .seq (cn 23 .skip (.exit 2)) (.seq (.block 3 (sr ycim <| .reg true yckw)) (.reg false ybxe)))))) (.reg false ybcu))))) (sr ycae <| .ret))
theorem ydil:Fn 179 c179 [.t 2]:=fn_0 Tryz.func179
def yddc:LO:=[bx' 41 0 2 0,nl' 4 0]
def ycvg:LO:=[nl' 5 0]
def ycwa:LO:=[mv' 1 13 0,ln' 13 14 1,mc 0 15 0]
def ybqj:LO:=[bn' .lss 15 14 16 0]
def ybyb:LO:=[mv' 15 17 0,ix' 1 13 15 18 0,ld' 1 18 19 2,mv' 17 6 7,mv' 19 7 15]
def yccn:LO:=[mv' 7 20 0]
def ycin:LO:=[mv' 5 21 0,mv' 6 22 0,o3 (.bslice 3 1 1 [.i .i64 0] [(0,1,(.tmp 22))]) 23 2,o3 (.app 3 1 8 (.tmp 21) (.tmp 23)) 24 7,mv' 24 5 15]
def ycfz:LO:=[bc .add 15 1 25 0,mv' 25 15 1]
def ydhg:LO:=[la' 2 2 26 0,cl' 179 [26] 27 1,mv' 27 8 3]
def ycvj:LO:=[mv' 1 28 0,ln' 28 29 1,o3 (.mk 3 1 8 [.i .i64 0] (.tmp 29) (.tmp 29)) 30 3,mv' 30 9 7]
def ycbu:LO:=[mc 0 10 0]
def ybnd:LO:=[mv' 10 31 0,mv' 5 32 0,ln' 32 33 2,bn' .lss 31 33 34 7]
def ychu:LO:=[mv' 8 37 0,mv' 5 38 0,mv' 10 39 0,ix' 1 38 39 40 6,ld' 1 40 41 14,ix' 1 37 41 42 31,ld' 1 42 43 63,ln' 43 44 127,mc 0 45 0]
def yxw:LO:=[bn' .lss 45 44 46 0]
def ybfj:LO:=[ix' 1 43 45 47 0,ld' 1 47 48 1,mv' 48 12 3]
def ybej:LO:=[mv' 9 49 0,mv' 12 50 0,ix' 1 49 50 51 3,ld' 1 51 52 7,bc .add 52 1 53 15,ix' 1 49 50 54 31,sto 1 54 53 63]
def ybdg:LO:=[mv' 1 55 0,mv' 12 56 0,ix' 1 55 56 57 3,ld' 1 57 58 7,o3 (.un .not (.tmp 58)) 59 15,mv' 59 60 31,gt (.mv (.tmp 9)) 61 60 63,gt (.mv (.tmp 12)) 62 60 63,gt (.idx 1 (.tmp 61) (.tmp 62)) 63 60 255,gt (.load false 1 (.tmp 63)) 64 60 511,gt (.faddr 1 1 (.tmp 2)) 65 60 63,gt (.load false 1 (.tmp 65)) 66 60 1087,gt (.mv (.tmp 12)) 67 60 63,gt (.idx 1 (.tmp 66) (.tmp 67)) 68 60 7231,gt (.load false 1 (.tmp 68)) 69 60 15423,gt (.len (.tmp 69)) 70 60 31807,gt (.bin .eql (.tmp 64) (.tmp 70)) 71 60 65535,o3 (.pick (.tmp 60) (.tmp 71) (.const (.bool false))) 72 131071]
def ycib:LO:=[mv' 5 73 0,mv' 12 74 0,o3 (.bslice 3 1 1 [.i .i64 0] [(0,1,(.tmp 74))]) 75 2,o3 (.app 3 1 8 (.tmp 73) (.tmp 75)) 76 7,mv' 76 5 15]
def ybel:LO:=[bc .add 45 1 77 0,mv' 77 45 1]
def ycao:LO:=[mv' 10 35 0,bc .add 35 1 36 1,mv' 36 10 3]
def yckm:LO:=[mv' 5 78 0,mv' 78 4 1]
def c135:SC:=(sr yddc <| sr ycvg <| .seq (sr ycwa <| .block 0 (.loop (sr ybqj <| .seq (cn 16 .skip (.exit 0)) (.seq (.block 1 (sr ybyb <| sr yccn <| cn 20 (.reg false ycin) .skip)) (.reg false ycfz))))) (sr ydhg <| sr ycvj <| .seq (sr ycbu <| .block 2 (.loop (.seq (sr ybnd <| cn 34 .skip (.exit 2)) (.seq (.block 3 (sr ychu <| .block 4 (.loop (sr yxw <| .seq (cn 46 .skip (.exit 4)) (.seq (.block 5 (sr ybfj <| sr ybej <| .seq (.reg true ybdg) (cn 72 (.reg false ycib) .skip))) (.reg false ybel)))))) (.reg false ycao))))) (sr yckm <| .ret)))
theorem ydqh:Fn 135 c135 [.t 4]:=fn_0 Tryz.func135
def ydtb:LO:=[bx' 41 0 2 0,nl' 4 0,mc 0 5 2]
def ydzw:LO:=[la' 2 2 10 0,mv' 1 11 0,cl' 73 [10,11] 12 3,mv' 12 6 7]
def yebj:LO:=[mv' 6 13 0,bc .neq 13 0 14 1]
def yeio:LO:=[mv' 6 15 0,nl' 4 0,mv' 15 5 3]
def ydyi:LO:=[mv' 1 16 0,ln' 16 17 1,o3 (.mk 4 1 1 [.b false] (.tmp 17) (.tmp 17)) 18 3,mv' 18 7 7]
def ydqm:LO:=[la' 2 2 19 0,mv' 1 20 0,cl' 135 [19,20] 21 3,ln' 21 22 7,mc 0 23 0]
def ydns:LO:=[bn' .lss 23 22 24 0]
def ydwu:LO:=[ix' 1 21 23 25 0,ld' 1 25 26 1,mv' 26 9 3]
def ydvq:LO:=[mv' 7 27 0,mv' 9 28 0,ix' 1 27 28 29 3,o0 (.store 1 (.tmp 29) (.const (.bool true))) 7]
def ydww:LO:=[bc .add 23 1 30 0,mv' 30 23 1]
def ycth:LO:=[mv' 7 31 0,mv' 31 4 1,mc 0 5 3]
def c72:SC:=(sr ydtb <| .seq (sr ydzw <| sr yebj <| cn 14 (sr yeio <| .ret) .skip) (sr ydyi <| .seq (sr ydqm <| .block 0 (.loop (sr ydns <| .seq (cn 24 .skip (.exit 0)) (.seq (.block 1 (sr ydwu <| .reg false ydvq)) (.reg false ydww))))) (sr ycth <| .ret)))
theorem ydnj:FnM 72 c72 [.t 4,.t 5]:=fn_m Tryz.func72
def ydxg:LO:=[bx' 41 0 2 0,nl' 4 0,mc 0 5 2]
def ydso:LO:=[la' 2 2 10 0,mv' 1 11 0,cl' 72 [10,11] 12 3,mv' 12 9 7,xt' 9 0 13 15,xt' 9 1 14 15,mv' 13 6 31,mv' 14 7 127]
def ydru:LO:=[mv' 7 15 0,bc .neq 15 0 16 1]
def yeje:LO:=[mv' 7 17 0,nl' 4 0,mv' 17 5 3]
def ydrf:LO:=[mv' 6 18 0,ln' 18 19 1,mc 0 20 0]
def ydmy:LO:=[bn' .lss 20 19 21 0]
def yeav:LO:=[mv' 20 22 0,mv' 22 8 1]
def yecd:LO:=[mv' 6 23 0,mv' 8 24 0,mv' 6 25 0,mv' 8 26 0,ix' 1 25 26 27 12,ld' 1 27 28 28,o3 (.un .not (.tmp 28)) 29 60,ix' 1 23 24 30 127,sto 1 30 29 255]
def ydqq:LO:=[bc .add 20 1 31 0,mv' 31 20 1]
def ydtm:LO:=[mv' 6 32 0,mv' 32 4 1,mc 0 5 3]
def c17:SC:=(sr ydxg <| sr ydso <| .seq (sr ydru <| cn 16 (sr yeje <| .ret) .skip) (.seq (sr ydrf <| .block 0 (.loop (sr ydmy <| .seq (cn 21 .skip (.exit 0)) (.seq (.block 1 (sr yeav <| .reg false yecd)) (.reg false ydqq))))) (sr ydtm <| .ret)))
theorem ydlw:FnU 17 c17 [.t 4,.t 5]:=fn_u Tryz.func17
def yeew:LO:=[bx' 41 0 2 0,nl' 4 0,mc 0 5 2]
def yeek:LO:=[la' 2 2 8 0,mv' 1 9 0,cl' 73 [8,9] 10 3,mv' 10 6 7]
def ydwd:LO:=[mv' 6 11 0,bc .neq 11 0 12 1]
def yeiv:LO:=[mv' 6 13 0,nl' 4 0,mv' 13 5 3]
def yegx:LO:=[la' 2 2 14 0,mv' 1 15 0,cl' 135 [14,15] 16 3,mv' 16 7 7]
def ydye:LO:=[mv' 7 17 0,ln' 17 18 1,mv' 1 19 0,ln' 19 20 4,bn' .lss 18 20 21 15]
def yeiw:LO:=[nl' 4 0,mc 14 5 1]
def yefs:LO:=[mv' 7 22 0,mv' 22 4 1,mc 0 5 3]
def c74:SC:=(sr yeew <| .seq (sr yeek <| sr ydwd <| cn 12 (sr yeiv <| .ret) .skip) (sr yegx <| .seq (sr ydye <| cn 21 (sr yeiw <| .ret) .skip) (sr yefs <| .ret)))
theorem ydwe:Fn 74 c74 [.t 4,.t 5]:=fn_0 Tryz.func74
def ydxj:LO:=[bx' 41 0 3 0,nl' 6 0,mc 0 7 2]
def ydul:LO:=[la' 2 3 16 0,mv' 1 17 0,cl' 74 [16,17] 18 3,mv' 18 15 7,xt' 15 0 19 15,xt' 15 1 20 15,mv' 19 8 31,mv' 20 9 127]
def yecs:LO:=[mv' 9 21 0,bc .neq 21 0 22 1]
def yejs:LO:=[mv' 9 23 0,nl' 6 0,mv' 23 7 3]
def yeed:LO:=[mv' 1 24 0,ln' 24 25 1,o3 (.mk 3 1 8 [.i .i64 0] (.tmp 25) (.tmp 25)) 26 3,mv' 26 10 7]
def yebc:LO:=[mv' 8 27 0,ln' 27 28 1,mc 0 29 0]
def yclw:LO:=[bn' .lss 29 28 30 0]
def ydik:LO:=[ix' 1 27 29 31 0,ld' 1 31 32 1,mv' 32 12 3]
def ydog:LO:=[mv' 1 33 0,mv' 12 34 0,ix' 1 33 34 35 3,ld' 1 35 36 7]
def ydyj:LO:=[fa' 1 1 3 37 0,ld' 1 37 38 1,mv' 12 39 0,ix' 1 38 39 40 7,ld' 1 40 41 15,ln' 41 42 31,mc 0 43 0]
def ycfj:LO:=[bn' .lss 43 42 44 0]
def ydgk:LO:=[ix' 2 41 43 45 0,la' 2 45 46 1,o3 (.alloc 103 1 [.i .u32 0,.i .i64 0]) 14 0,sto 2 14 46 7]
def yddw:LO:=[mv' 10 47 0,mv' 12 48 0,mv' 10 49 0,mv' 12 50 0,ix' 1 49 50 51 12,ld' 1 51 52 28,mv' 2 53 0,la' 2 14 54 0,o3 (.call (.tmp 53) [(.tmp 54)]) 55 192,mv' 10 56 0,fa' 1 1 14 57 0,ld' 1 57 58 1024,ix' 1 56 58 59 3584,ld' 1 59 60 7680,bn' .add 55 60 61 16320,o3 (.mm true (.tmp 52) (.tmp 61)) 62 32764,ix' 1 47 48 63 65535,sto 1 63 62 131071]
def ycxm:LO:=[bc .add 43 1 64 0,mv' 64 43 1]
def ycbb:LO:=[bc .add 29 1 65 0,mv' 65 29 1]
def yczi:LO:=[mv' 10 66 0,mv' 66 6 1,mc 0 7 3]
def c77:SC:=(sr ydxj <| sr ydul <| .seq (sr yecs <| cn 22 (sr yejs <| .ret) .skip) (sr yeed <| .seq (sr yebc <| .block 0 (.loop (sr yclw <| .seq (cn 30 .skip (.exit 0)) (.seq (.block 1 (sr ydik <| .seq (sr ydog <| cn 36 (.exit 1) .skip) (sr ydyj <| .block 2 (.loop (sr ycfj <| .seq (cn 44 .skip (.exit 2)) (.seq (.block 3 (sr ydgk <| .reg true yddw)) (.reg false ycxm))))))) (.reg false ycbb))))) (sr yczi <| .ret)))
theorem ydxu:Fn 77 c77 [.t 6,.t 7]:=fn_0 Tryz.func77
def ydsc:LO:=[bx' 103 0 1 0,mc 0 2 0]
def ydro:LO:=[fa' 0 1 1 3 0,ld' 1 3 4 1,cl' 113 [4] 5 3,mv' 5 2 7]
def c78:SC:=(sr ydsc <| sr ydro <| .ret)
theorem ydqx:Fn 78 c78 [.t 2]:=fn_0 Tryz.func78
def ydxf:LO:=[bx' 41 0 2 0,nl' 4 0,mc 0 5 2]
def yeba:LO:=[la' 2 2 6 0,mv' 1 7 0,o3 (.call (.func 77) [(.tmp 6),(.tmp 7),(.func 78)]) 8 3,xt' 8 0 9 7,xt' 8 1 10 7,mv' 9 4 31,mv' 10 5 63]
def c20:SC:=(sr ydxf <| sr yeba <| .ret)
theorem ydxq:Fn 20 c20 [.t 4,.t 5]:=fn_0 Tryz.func20
def ydks:LO:=[bx' 41 0 3 0,bx' 109 1 4 0,bx' 103 2 5 0,o3 (.alloc 109 1 [.i .i64 0,.i .u32 0]) 6 0,mb false 7 0]
def ydnp:LO:=[fa' 1 1 4 9 0,ld' 1 9 10 1,fa' 0 1 5 11 0,ld' 1 11 12 4,bn' .andNot 10 12 13 15,fa' 0 1 3 14 0,ld' 1 14 15 32,fa' 1 1 5 16 0,ld' 1 16 17 128,ix' 1 15 17 18 480,ld' 1 18 19 992,bn' .and 13 19 20 2047,mv' 20 8 4095]
def ydkj:LO:=[mv' 8 21 0,o3 (.bin .eql (.tmp 21) (.const (.int .u32 0))) 22 1]
def yefa:LO:=[fa' 1 1 5 23 0,ld' 1 23 24 1,fa' 0 1 3 25 0,ld' 1 25 26 4,fa' 1 1 5 27 0,ld' 1 27 28 16,ix' 1 26 28 29 60,ld' 1 29 30 124,o3 (.build [.i .i64 0,.i .u32 0] [(0,1,(.tmp 24)),(1,1,(.tmp 30))]) 31 255,sto 2 6 31 511,mb true 7 1023]
def yebr:LO:=[fa' 1 1 5 32 0,ld' 1 32 33 1,mv' 8 34 0,o3 (.build [.i .i64 0,.i .u32 0] [(0,1,(.tmp 33)),(1,1,(.tmp 34))]) 35 7,sto 2 6 35 15,mb false 7 31]
def c76:SC:=(sr ydks <| .seq (.reg true ydnp) (.seq (sr ydkj <| cn 22 (.seq (.reg true yefa) .ret) .skip) (sr yebr <| .ret)))
theorem ydyx:Fn 76 c76 [.c 6 true 2,.t 7]:=fn_0 Tryz.func76
def yduj:LO:=[bx' 41 0 2 0,bx' 45 1 3 0,nl' 4 0,mc 0 5 4]
def ydqw:LO:=[o3 (.mkmap 0) 18 0,o3 (.alloc 166 1 [.a (.map none)]) 6 0,sto 1 6 18 3]
def yedc:LO:=[o3 (.alloc 167 1 [.a (.slice none 0 0)]) 7 0]
def ydxc:LO:=[o3 (.mkfn 137 [] [(.tmp 3),(.tmp 6),(.tmp 7)]) 19 0,mv' 19 8 1]
def yedy:LO:=[fa' 0 1 2 20 0,ld' 1 20 21 1,ln' 21 22 3,mc 0 23 0]
def ydmb:LO:=[bn' .lss 23 22 24 0]
def ydrn:LO:=[mv' 23 25 0,ix' 1 21 23 26 0,ld' 1 26 27 2,mv' 25 9 7,mv' 27 10 15]
def yego:LO:=[mv' 8 28 0,mv' 9 29 0,mv' 10 30 0,o3 (.build [.i .i64 0,.i .u32 0] [(0,1,(.tmp 29)),(1,1,(.tmp 30))]) 31 6,o3 (.call (.tmp 28) [(.tmp 31)]) 32 15]
def ydtr:LO:=[bc .add 23 1 33 0,mv' 33 23 1]
def ydty:LO:=[ld' 1 3 34 0,ln' 34 35 1,o3 (.mk 38 1 24 [.a (.slice none 0 0)] (.tmp 35) (.tmp 35)) 36 3,mv' 36 11 7]
def ycyz:LO:=[mc 0 12 0]
def ybpg:LO:=[mv' 12 37 0,ld' 1 7 38 0,ln' 38 39 2,bn' .lss 37 39 40 7]
def ycjl:LO:=[ld' 1 7 43 0,ln' 43 44 1,bc .gtr 44 262144 45 3]
def ydup:LO:=[nl' 4 0,mc 3 5 1]
def ycer:LO:=[ld' 1 7 46 0,mv' 12 47 0,ix' 2 46 47 48 3,la' 2 48 49 7,o3 (.alloc 109 1 [.i .i64 0,.i .u32 0]) 13 0,sto 2 13 49 31]
def yckz:LO:=[mv' 11 50 0,fa' 0 1 13 51 0,ld' 1 51 52 2,mv' 11 53 0,fa' 0 1 13 54 0,ld' 1 54 55 16,ix' 1 53 55 56 56,ld' 1 56 57 120,fa' 1 1 13 58 0,ld' 1 58 59 256,o3 (.bslice 77 1 1 [.i .u32 0] [(0,1,(.tmp 59))]) 60 768,o3 (.app 77 1 4 (.tmp 57) (.tmp 60)) 61 2040,ix' 1 50 52 62 4095,sto 1 62 61 8191]
def yccl:LO:=[fa' 1 1 2 63 0,ld' 1 63 64 1,fa' 0 1 13 65 0,ld' 1 65 66 4,ix' 1 64 66 67 15,ld' 1 67 68 31,ln' 68 69 63,mc 0 70 0]
def ybjs:LO:=[bn' .lss 70 69 71 0]
def ybzb:LO:=[ix' 2 68 70 72 0,la' 2 72 73 1,o3 (.alloc 103 1 [.i .u32 0,.i .i64 0]) 15 0,sto 2 15 73 7]
def ycjo:LO:=[la' 2 2 75 0,la' 2 13 76 0,la' 2 15 77 0,cl' 76 [75,76,77] 78 7,mv' 78 74 15,xt' 74 0 79 31,xt' 74 1 80 31,o3 (.alloc 109 1 [.i .i64 0,.i .u32 0]) 16 0,sto 2 16 79 191,mv' 80 17 511]
def ybyj:LO:=[mv' 8 81 0,la' 2 16 82 0,o3 (.call (.tmp 81) [(.tmp 82)]) 83 3]
def yces:LO:=[bc .add 70 1 84 0,mv' 84 70 1]
def ycfu:LO:=[mv' 12 41 0,bc .add 41 1 42 1,mv' 42 12 3]
def ycyg:LO:=[mv' 11 85 0,mv' 85 4 1,mc 0 5 3]
def c75:SC:=(sr yduj <| sr ydqw <| sr yedc <| sr ydxc <| .seq (sr yedy <| .block 0 (.loop (sr ydmb <| .seq (cn 24 .skip (.exit 0)) (.seq (.block 1 (sr ydrn <| .reg false yego)) (.reg false ydtr))))) (sr ydty <| .seq (sr ycyz <| .block 2 (.loop (.seq (sr ybpg <| cn 40 .skip (.exit 2)) (.seq (.block 3 (.seq (sr ycjl <| cn 45 (sr ydup <| .ret) .skip) (sr ycer <| .seq (.reg true yckz) (sr yccl <| .block 4 (.loop (sr ybjs <| .seq (cn 71 .skip (.exit 4)) (.seq (.block 5 (sr ybzb <| sr ycjo <| .reg false ybyj)) (.reg false yces)))))))) (.reg false ycfu))))) (sr ycyg <| .ret)))
theorem ydie:FnU 75 c75 [.t 4,.t 5]:=fn_u Tryz.func75
def ybsg:LO:=[bx' 109 0 4 0]
def ybqa:LO:=[ld' 1 1 5 0,fa' 0 1 4 6 0,ld' 1 6 7 2,ix' 1 5 7 8 7,ld' 1 8 9 15,o3 (.un .not (.tmp 9)) 10 31,mv' 10 11 63,gt (.load false 1 (.tmp 2)) 12 11 127,gt (.load true 2 (.tmp 4)) 13 11 127,gt (.mget 0 (.tmp 12) (.tmp 13)) 14 11 511,gt (.un .not (.tmp 14)) 15 11 1023,o3 (.pick (.tmp 11) (.tmp 15) (.const (.bool false))) 16 2047]
def ycxw:LO:=[ld' 1 2 17 0,la' 2 4 18 0,o0 (.mset 0 (.tmp 17) (.tmp 18) (.const (.bool true))) 3]
def ydga:LO:=[ld' 1 3 19 0,la' 2 4 20 0,o3 (.bslice 109 2 1 [.i .i64 0,.i .u32 0] [(0,2,(.tmp 20))]) 21 2,o3 (.app 109 2 16 (.tmp 19) (.tmp 21)) 22 7,sto 1 3 22 15]
def c137:SC:=(sr ybsg <| sr ybqa <| cn 16 (sr ycxw <| .reg false ydga) .skip)
theorem ycpd:FnM 137 c137 []:=fn_m Tryz.func137
def yeeq:LO:=[bx' 41 0 2 0,nl' 4 0,mc 0 5 2]
def yect:LO:=[la' 2 2 24 0,mv' 1 25 0,cl' 74 [24,25] 26 3,mv' 26 23 7,xt' 23 0 27 15,xt' 23 1 28 15,mv' 27 6 31,mv' 28 7 127]
def ydwg:LO:=[mv' 7 29 0,bc .neq 29 0 30 1]
def yejk:LO:=[mv' 7 31 0,nl' 4 0,mv' 31 5 3]
def ydxv:LO:=[la' 2 2 33 0,mv' 1 34 0,cl' 75 [33,34] 35 3,mv' 35 32 7,xt' 32 0 36 15,xt' 32 1 37 15,mv' 36 8 31,mv' 37 7 127]
def ydwi:LO:=[mv' 7 38 0,bc .neq 38 0 39 1]
def yejd:LO:=[mv' 7 40 0,nl' 4 0,mv' 40 5 3]
def yduw:LO:=[o3 (.mkmap 1) 41 0,mv' 41 9 1]
def yduh:LO:=[mv' 6 42 0,ln' 42 43 1,mc 0 44 0]
def ydms:LO:=[bn' .lss 44 43 45 0]
def ydgm:LO:=[ix' 1 42 44 46 0,ld' 1 46 47 1,mv' 47 11 3]
def ydex:LO:=[mv' 8 48 0,mv' 11 49 0,ix' 1 48 49 50 3,ld' 1 50 51 7,ln' 51 52 15,mc 0 53 0]
def ycid:LO:=[bn' .lss 53 52 54 0]
def ycsk:LO:=[ix' 1 51 53 55 0,ld' 1 55 56 1,mv' 56 13 3]
def ydgf:LO:=[mv' 11 57 0,mv' 13 58 0,o3 (.build [.i .i64 0,.i .u32 0] [(0,1,(.tmp 57)),(1,1,(.tmp 58))]) 59 3,o3 (.alloc 109 1 [.i .i64 0,.i .u32 0]) 14 0,sto 2 14 59 15]
def yddz:LO:=[mc 1 15 0]
def ycwi:LO:=[fa' 1 1 2 60 0,ld' 1 60 61 1,mv' 11 62 0,ix' 1 61 62 63 7,ld' 1 63 64 15,ln' 64 65 31,mc 0 66 0]
def ybfs:LO:=[bn' .lss 66 65 67 0]
def ybpu:LO:=[ix' 2 64 66 68 0,la' 2 68 69 1,o3 (.alloc 103 1 [.i .u32 0,.i .i64 0]) 17 0,sto 2 17 69 7]
def ybpj:LO:=[mv' 1 70 0,fa' 1 1 17 71 0,ld' 1 71 72 2,ix' 1 70 72 73 7,ld' 1 73 74 15]
def ybyv:LO:=[la' 2 2 76 0,la' 2 14 77 0,la' 2 17 78 0,cl' 76 [76,77,78] 79 7,mv' 79 75 15,xt' 75 0 80 31,xt' 75 1 81 31,o3 (.alloc 109 1 [.i .i64 0,.i .u32 0]) 18 0,sto 2 18 80 191,mv' 81 19 511]
def ybxf:LO:=[mv' 19 82 0]
def ycyx:LO:=[mv' 15 83 0,mv' 9 84 0,la' 2 18 85 0,o3 (.mget 1 (.tmp 84) (.tmp 85)) 86 6,o3 (.bin .add (ci' 1) (.tmp 86)) 87 14,o3 (.mm true (.tmp 83) (.tmp 87)) 88 31,mv' 88 15 63]
def ycvm:LO:=[mv' 15 89 0,mv' 9 90 0,la' 2 18 91 0,o3 (.mget 1 (.tmp 90) (.tmp 91)) 92 6,o3 (.mm true (.tmp 89) (.tmp 92)) 93 15,mv' 93 15 31]
def ybsf:LO:=[bc .add 66 1 94 0,mv' 94 66 1]
def ycxy:LO:=[mv' 9 95 0,la' 2 14 96 0,mv' 15 97 0,o0 (.mset 1 (.tmp 95) (.tmp 96) (.tmp 97)) 7]
def ycuu:LO:=[bc .add 53 1 98 0,mv' 98 53 1]
def ydft:LO:=[bc .add 44 1 99 0,mv' 99 44 1]
def yddm:LO:=[mv' 1 100 0,ln' 100 101 1,o3 (.mk 3 1 8 [.i .i64 0] (.tmp 101) (.tmp 101)) 102 3,mv' 102 20 7]
def ycso:LO:=[fa' 0 1 2 103 0,ld' 1 103 104 1,ln' 104 105 3,mc 0 106 0]
def ybrc:LO:=[bn' .lss 106 105 107 0]
def ycdi:LO:=[mv' 106 108 0,ix' 1 104 106 109 0,ld' 1 109 110 2,mv' 108 21 7,mv' 110 22 15]
def ybym:LO:=[mv' 1 111 0,mv' 21 112 0,ix' 1 111 112 113 3,ld' 1 113 114 7,o3 (.un .not (.tmp 114)) 115 15]
def ydel:LO:=[mv' 20 116 0,mv' 21 117 0,mv' 9 118 0,mv' 21 119 0,mv' 22 120 0,o3 (.build [.i .i64 0,.i .u32 0] [(0,1,(.tmp 119)),(1,1,(.tmp 120))]) 121 24,o3 (.mget 1 (.tmp 118) (.tmp 121)) 122 60,ix' 1 116 117 123 127,sto 1 123 122 255]
def ybyu:LO:=[bc .add 106 1 124 0,mv' 124 106 1]
def ydas:LO:=[mv' 20 125 0,mv' 125 4 1,mc 0 5 3]
def c19:SC:=(sr yeeq <| sr yect <| .seq (sr ydwg <| cn 30 (sr yejk <| .ret) .skip) (sr ydxv <| .seq (sr ydwi <| cn 39 (sr yejd <| .ret) .skip) (sr yduw <| .seq (sr yduh <| .block 0 (.loop (sr ydms <| .seq (cn 45 .skip (.exit 0)) (.seq (.block 1 (sr ydgm <| sr ydex <| .block 2 (.loop (sr ycid <| .seq (cn 54 .skip (.exit 2)) (.seq (.block 3 (sr ycsk <| sr ydgf <| sr yddz <| .seq (sr ycwi <| .block 4 (.loop (sr ybfs <| .seq (cn 67 .skip (.exit 4)) (.seq (.block 5 (sr ybpu <| .seq (sr ybpj <| cn 74 (.exit 5) .skip) (sr ybyv <| sr ybxf <| cn 82 (.reg false ycyx) (.reg false ycvm)))) (.reg false ybsf))))) (.reg false ycxy))) (.reg false ycuu)))))) (.reg false ydft))))) (sr yddm <| .seq (sr ycso <| .block 6 (.loop (sr ybrc <| .seq (cn 107 .skip (.exit 6)) (.seq (.block 7 (sr ycdi <| sr ybym <| cn 115 (.reg false ydel) .skip)) (.reg false ybyu))))) (sr ydas <| .ret)))))
theorem yeee:Fn 19 c19 [.t 4,.t 5]:=fn_0 Tryz.func19
def ydus:LO:=[bx' 92 0 1 0,o3 (.mv (.const (.nilFunc))) 2 0]
def ydqj:LO:=[o3 (.mkfn 134 [] [(.tmp 1)]) 3 0,mv' 3 2 1]
def c68:SC:=(sr ydus <| sr ydqj <| .ret)
theorem ydwh:Fn 68 c68 [.t 2]:=fn_0 Tryz.func68
end Sh
end
section
def szP(b:Int×Int):Nat:=(b.2-b.1+1).toNat
def ybs:List (Int×Int)->Nat
 |[]=>1
 |b::a=>szP b*ybs a
def ybm:List (List (Int×Int))->Nat
 |[]=>1
 |r::a=>ybs r*ybm a
def unR:List (Int×Int)->Nat->List Int×Nat
 |[],k=>([],k)
 |b::a,k=>((b.1+(((unR a k).2%szP b:Nat):Int))::(unR a k).1,(unR a k).2/szP b)
def unT:List (List (Int×Int))->Nat->Conf×Nat
 |[],k=>([],k)
 |r::a,k=>((unR r (unT a k).2).1::(unT a k).1,(unR r (unT a k).2).2)
def rkR:List (Int×Int)->List Int->Int
 |b::a,x::c=>(x-b.1)*ybs a+rkR a c
 |_,_=>0
def rkT:List (List (Int×Int))->Conf->Int
 |r::a,c::b=>rkR r c*ybm a+rkT a b
 |_,_=>0
def inR:List (Int×Int)->List Int->Prop
 |[],[]=>True
 |b::a,x::c=>(b.1<=x/\x<=b.2)/\inR a c
 |_,_=>False
def inT:List (List (Int×Int))->Conf->Prop
 |[],[]=>True
 |r::b,c::a=>inR r c/\inT b a
 |_,_=>False
def bdR(bs:List (Int×Int)):Prop:=∀b∈bs,b.1<=b.2
def bdT(rs:List (List (Int×Int))):Prop:=∀r∈rs,bdR r
theorem yqf{b:Int×Int}(h:b.1<=b.2):0<szP b/\(szP b:Int)=b.2-b.1+1:=by unfold szP;omega
theorem yly:∀{bs:List (Int×Int)},bdR bs->0<ybs bs
 |[],_=>by decide
 |b::bs,h=>zCV (yqf (h b zH)).1 (yly fun x a=>h x (zG _ a))
theorem yqu:∀{rs:List (List (Int×Int))},bdT rs->0<ybm rs
 |[],_=>by decide
 |r::rs,h=>zCV (yly (h r zH)) (yqu fun x a=>h x (zG _ a))
theorem ybop:∀(bs:List (Int×Int)) (k:Nat),(unR bs k).2=k/ybs bs
 |[],k=>by simp[unR,ybs]
 | b::bs,k=>by
   show(unR bs k).2/szP b=k/(szP b*ybs bs);rw[ybop bs k,zBG,zU]
theorem ybyi:∀(rs:List (List (Int×Int))) (k:Nat),(unT rs k).2=k/ybm rs
 |[],k=>by simp[unT,ybm]
 | r::rs,k=>by
   show(unR r (unT rs k).2).2=k/(ybs r*ybm rs);rw[ybop,ybyi rs k,zBG,zU]
theorem ydcp:∀(bs:List (Int×Int)) (k:Nat),rkR bs (unR bs k).1=((k%ybs bs:Nat):Int)
 |[],k=>by simp[rkR,ybs,zCW]
 | b::bs,k=>by
   show(b.1+(((unR bs k).2%szP b:Nat):Int)-b.1)*(ybs bs:Int)+rkR bs (unR bs k).1=((k%(szP b*ybs bs):Nat):Int);rw[ydcp bs k,ybop,zU (szP b),zCX,zU (ybs bs) (k/ybs bs%szP b),zAP,zV];rw[show b.1+((k/ybs bs%szP b:Nat):Int)-b.1=((k/ybs bs%szP b:Nat):Int)by omega]
   omega
theorem ycxf:∀{bs:List (Int×Int)}(k:Nat),bdR bs->inR bs (unR bs k).1
 |[],_,_=>trivial
 | b::bs,k,h=>by
   have a:=yqf (h b zH);have d:=zCC (unR bs k).2 a.1;exact⟨⟨by omega,by omega⟩,ycxf k fun x c=>h x (zG _ c)⟩
theorem ybbs:∀{rs:List (List (Int×Int))}(k:Nat),bdT rs->inT rs (unT rs k).1
 |[],_,_=>trivial
 |r::rs,k,h=>⟨ycxf _ (h r zH),ybbs k fun x a=>h x (zG _ a)⟩
theorem ybqf:∀(rs:List (List (Int×Int))) (k:Nat),rkT rs (unT rs k).1=((k%ybm rs:Nat):Int)
 |[],k=>by simp[rkT,ybm,zCW]
 | r::rs,k=>by
   show rkR r (unR r (unT rs k).2).1*(ybm rs:Int)+rkT rs (unT rs k).1=((k%(ybs r*ybm rs):Nat):Int);rw[ydcp,ybqf rs k,ybyi,zU (ybs r),zCX,zU (ybm rs) (k/ybm rs%ybs r),zAP,zV];omega
theorem ydfa:∀{bs:List (Int×Int)}{xs:List Int},inR bs xs->0<=rkR bs xs/\rkR bs xs<ybs bs/\∀m:Nat,unR bs ((rkR bs xs).toNat+m*ybs bs)=(xs,m)
 |[],[],_=>⟨by simp[rkR],by simp[rkR,ybs],fun m=>by simp[rkR,unR,ybs]⟩
 |[],_::_,h=>h.elim
 |_::_,[],h=>h.elim
 | b :: bs,x::xs,⟨⟨p,q⟩,j⟩=>by
   obtain⟨s,t,l⟩:=ydfa j;obtain⟨o,u⟩:=yqf (show b.1<=b.2 by omega)
   obtain⟨d,c⟩:∃d:Nat,x-b.1=d:=⟨(x-b.1).toNat,by omega⟩
   obtain⟨r,f⟩:∃r:Nat,rkR bs xs=r:=⟨(rkR bs xs).toNat,by omega⟩
   have a:d+1<=szP b:=by omega
   have e:rkR (b::bs) (x::xs)=((d*ybs bs+r:Nat):Int):=by
    show(x-b.1)*(ybs bs:Int)+rkR bs xs=_;rw[c,f,zAP,zV]
   have k:d*ybs bs+r<szP b*ybs bs:=by
    have:=zBM (ybs bs) a;rw[zBO]at this;omega
   rw[e];refine⟨by omega,by show((d*ybs bs+r:Nat):Int)<((szP b*ybs bs:Nat):Int);omega,fun m=>?_⟩
   have n:=l (d+m*szP b)
   have g:((d*ybs bs+r:Nat):Int).toNat+m*(szP b*ybs bs)=(rkR bs xs).toNat+(d+m*szP b)*ybs bs:=by
    rw[f,zS,zS,zCY,zAW];omega
   have i:unR bs (((d*ybs bs+r:Nat):Int).toNat+m*ybs (b::bs))=(xs,d+m*szP b):=by
    rw[<-n,<-g];rfl
   show((b.1+(((unR bs _).2%szP b:Nat):Int))::(unR bs _).1,(unR bs _).2/szP b)=_;rw[i];simp only;rw[Nat.add_mul_mod_self_right,zAF (by omega),Nat.add_mul_div_right _ _ o,Nat.div_eq_of_lt (by omega),<-c]
   simp only[Nat.zero_add,Prod.mk.injEq,List.cons.injEq,and_true];omega
theorem ybca:∀{rs:List (List (Int×Int))}{c:Conf},inT rs c->0<=rkT rs c/\rkT rs c<ybm rs/\∀m:Nat,unT rs ((rkT rs c).toNat+m*ybm rs)=(c,m)
 |[],[],_=>⟨by simp[rkT],by simp[rkT,ybm],fun m=>by simp[rkT,unT,ybm]⟩
 |[],_::_,h=>h.elim
 |_::_,[],h=>h.elim
 | b :: a,x::f,⟨o,p⟩=>by
   obtain⟨v,w,s⟩:=ybca p;obtain⟨y,z,u⟩:=ydfa o;obtain⟨d,i⟩:∃d:Nat,rkR b x=d:=⟨(rkR b x).toNat,by omega⟩
   obtain⟨r,j⟩:∃r:Nat,rkT a f=r:=⟨(rkT a f).toNat,by omega⟩
   have g:d+1<=ybs b:=by omega
   have e:rkT (b::a) (x::f)=((d*ybm a+r:Nat):Int):=by
    show rkR b x*(ybm a:Int)+rkT a f=_;rw[i,j,zAP,zV]
   have q:d*ybm a+r<ybs b*ybm a:=by
    have:=zBM (ybm a) g;rw[zBO]at this;omega
   rw[e];refine⟨by omega,by show((d*ybm a+r:Nat):Int)<((ybs b*ybm a:Nat):Int);omega,fun m=>?_⟩
   have t:=s (d+m*ybs b)
   have l:((d*ybm a+r:Nat):Int).toNat+m*(ybs b*ybm a)=(rkT a f).toNat+(d+m*ybs b)*ybm a:=by
    rw[j,zS,zS,zCY,zAW];omega
   have n:unT a (((d*ybm a+r:Nat):Int).toNat+m*ybm (b::a))=(f,d+m*ybs b):=by
    rw[<-t,<-l];rfl
   have k:=u m;rw[i,zS]at k;show((unR b (unT a _).2).1::(unT a _).1,(unR b (unT a _).2).2)=_;rw[n];simp only;rw[k]
theorem ybpb{rs:List (List (Int×Int))}{c:Conf}(h:inT rs c):(unT rs (rkT rs c).toNat).1=c:=by
 have:=(ybca h).2.2 0;rw[zCO,zBP]at this;rw[this]
theorem ydmg{rs:List (List (Int×Int))}{c d:Conf}(a:inT rs c)(b:inT rs d)(e:rkT rs c=rkT rs d):c=d:=by
 rw[<-ybpb a,e,ybpb b]
end
section
def advR:List (Int×Int)->List Int->List Int×Bool
 |b::a,x::c=>if (advR a c).2 then(x::(advR a c).1,true)else if x<b.2 then((x+1)::(advR a c).1,true)else(b.1::(advR a c).1,false)
 |_,_=>([],false)
def advT:List (List (Int×Int))->Conf->Conf×Bool
 |r::b,c::a=>if (advT b a).2 then(c::(advT b a).1,true)else((advR r c).1::(advT b a).1,(advR r c).2)
 |_,_=>([],false)
theorem ycdo:∀{bs:List (Int×Int)}{xs:List Int},inR bs xs->inR bs (advR bs xs).1/\((advR bs xs).2=true->rkR bs (advR bs xs).1=rkR bs xs+1)/\((advR bs xs).2=false->rkR bs (advR bs xs).1=0/\rkR bs xs+1=ybs bs)
 |[],[],_=>⟨trivial,(fun h=>by cases h),fun _=>⟨rfl,rfl⟩⟩
 |[],_::_,h=>h.elim
 |_::_,[],h=>h.elim
 | b :: bs,x::xs,⟨⟨g,i⟩,j⟩=>by
   obtain⟨a,k,l⟩:=ycdo j;obtain⟨o,m⟩:=yqf (show b.1<=b.2 by omega)
   unfold advR;cases d:(advR bs xs).2 with
   | true =>
     have e:=k d;simp only[if_true];refine⟨⟨⟨g,i⟩,a⟩,fun _=>?_,fun h=>by cases h⟩
     show(x-b.1)*(ybs bs:Int)+rkR bs (advR bs xs).1=(x-b.1)*(ybs bs:Int)+rkR bs xs+1;rw[e];omega
   | false =>
     obtain⟨c,n⟩:=l d;simp only[zBQ,if_false]
     by_cases f:x<b.2
     .rw[if_pos f];refine⟨⟨⟨by omega,by omega⟩,a⟩,fun _=>?_,fun h=>by cases h⟩
      show(x+1-b.1)*(ybs bs:Int)+rkR bs (advR bs xs).1=(x-b.1)*(ybs bs:Int)+rkR bs xs+1;rw[c,show x+1-b.1=(x-b.1)+1 by omega,zAE]
      omega
     .rw[if_neg f];refine⟨⟨⟨by omega,by omega⟩,a⟩,(fun h=>by cases h),fun _=>⟨?_,?_⟩⟩
      .show(b.1-b.1)*(ybs bs:Int)+rkR bs (advR bs xs).1=0;rw[c,zCP];simp
      .show(x-b.1)*(ybs bs:Int)+rkR bs xs+1=((szP b*ybs bs:Nat):Int);rw[zV,m,show b.2-b.1+1=(x-b.1)+1 by omega,zAE]
       omega
theorem ycei:∀{rs:List (List (Int×Int))}{c:Conf},inT rs c->inT rs (advT rs c).1/\((advT rs c).2=true->rkT rs (advT rs c).1=rkT rs c+1)/\((advT rs c).2=false->rkT rs (advT rs c).1=0/\rkT rs c+1=ybm rs)
 |[],[],_=>⟨trivial,(fun h=>by cases h),fun _=>⟨rfl,rfl⟩⟩
 |[],_::_,h=>h.elim
 |_::_,[],h=>h.elim
 | b :: a,x::d,⟨g,l⟩=>by
   obtain⟨j,m,n⟩:=ycei l;obtain⟨o,p,k⟩:=ycdo g;unfold advT;cases i:(advT a d).2 with
   | true =>
     have e:=m i;simp only[if_true];refine⟨⟨g,j⟩,fun _=>?_,fun h=>by cases h⟩
     show rkR b x*(ybm a:Int)+rkT a (advT a d).1=rkR b x*(ybm a:Int)+rkT a d+1;rw[e];omega
   | false =>
     obtain⟨f,q⟩:=n i;simp only[zBQ,if_false];refine⟨⟨o,j⟩,fun h=>?_,fun h=>⟨?_,?_⟩⟩
     .show rkR b (advR b x).1*(ybm a:Int)+rkT a (advT a d).1=rkR b x*(ybm a:Int)+rkT a d+1;rw[f,p h,zAE];omega
     .show rkR b (advR b x).1*(ybm a:Int)+rkT a (advT a d).1=0;rw[f,(k h).1];simp
     .show rkR b x*(ybm a:Int)+rkT a d+1=((ybs b*ybm a:Nat):Int);rw[zV,<-(k h).2,zAE];omega
theorem ydoj{rs:List (List (Int×Int))}{k:Nat}(a:bdT rs)(hk:k+1<ybm rs):(advT rs (unT rs k).1).1=(unT rs (k+1)).1:=by
 have g:=ybbs k a;obtain⟨b,c,d⟩:=ycei g;have e:=ybqf rs k;rw[zAF (by omega)]at e
 have h:(advT rs (unT rs k).1).2=true:=by
  cases f:(advT rs (unT rs k).1).2 with
  |true=>rfl
  |false=>have:=(d f).2;omega
 refine ydmg b (ybbs _ a) ?_;rw[c h,e,ybqf,zAF hk];omega
def yrc(rs:List (List (Int×Int))):Conf:=rs.map (·.map (·.1))
theorem ybks:∀{bs:List (Int×Int)},bdR bs->inR bs (bs.map (·.1))/\rkR bs (bs.map (·.1))=0
 |[],_=>⟨trivial,rfl⟩
 | b::bs,h=>by
   obtain⟨c,d⟩:=ybks (bs:=bs) fun x a=>h x (zG _ a);refine⟨⟨⟨Int.le_refl _,h b zH⟩,c⟩,?_⟩;show(b.1-b.1)*(ybs bs:Int)+rkR bs (bs.map (·.1))=0;rw[d,zCP];simp
theorem ybjq:∀{rs:List (List (Int×Int))},bdT rs->inT rs (yrc rs)/\rkT rs (yrc rs)=0
 |[],_=>⟨trivial,rfl⟩
 | r::rs,h=>by
   obtain⟨b,c⟩:=ybjq (rs:=rs) fun x a=>h x (zG _ a);obtain⟨d,e⟩:=ybks (h r zH);refine⟨⟨d,b⟩,?_⟩;show rkR r (r.map (·.1))*(ybm rs:Int)+rkT rs (yrc rs)=0;rw[c,e];simp
theorem ycku{rs:List (List (Int×Int))}(h:bdT rs):(unT rs 0).1=yrc rs:=by
 obtain⟨a,b⟩:=ybjq h;have:=ybpb a;rw[b]at this;exact this
def plR:List (Int×Int)->Nat->List Int×Nat
 |[],p=>([],p)
 |b::a,p=>(((plR a p).2:Int)::(plR a p).1,(plR a p).2*szP b)
def plT:List (List (Int×Int))->Nat->List (List Int)×Nat
 |[],p=>([],p)
 |r::a,p=>((plR r (plT a p).2).1::(plT a p).1,(plR r (plT a p).2).2)
theorem ysi:∀(bs:List (Int×Int)) (p:Nat),(plR bs p).2=p*ybs bs
 |[],p=>(zBX p).symm
 | b::bs,p=>by
   show(plR bs p).2*szP b=p*(szP b*ybs bs);rw[ysi bs p,zAW,zU (szP b)]
theorem ybds:∀(rs:List (List (Int×Int))) (p:Nat),(plT rs p).2=p*ybm rs
 |[],p=>(zBX p).symm
 | r::rs,p=>by
   show(plR r (plT rs p).2).2=p*(ybs r*ybm rs);rw[ysi,ybds rs p,zAW,zU (ybs r)]
theorem ybov:∀(bs:List (Int×Int)) (p:Nat),(plR bs p).1.length=bs.length
 |[],_=>rfl
 |b::bs,p=>by show(plR bs p).1.length+1=_;rw[ybov bs p];rfl
theorem ybdy:∀(rs:List (List (Int×Int))) (p:Nat),(plT rs p).1.length=rs.length
 |[],_=>rfl
 |r::rs,p=>by show(plT rs p).1.length+1=_;rw[ybdy rs p];rfl
def grR:List Int->List Int->List Int->Int
 |y::c,x::b,q::a=>(y-x)*q+grR c b a
 |_,_,_=>0
def grT:Conf->Conf->List (List Int)->Int
 |d::b,c::a,q::e=>grR d c q+grT b a e
 |_,_,_=>0
theorem ydcs:∀{bs:List (Int×Int)}{xs ys:List Int}(p:Nat),inR bs xs->inR bs ys->grR ys xs (plR bs p).1=(rkR bs ys-rkR bs xs)*(p:Int)
 |[],[],[],p,_,_=>by simp[grR,rkR]
 |[],_::_,_,_,h,_=>h.elim
 |[],[],_::_,_,_,h=>h.elim
 |_::_,[],_,_,h,_=>h.elim
 |_::_,_::_,[],_,_,h=>h.elim
 | b::bs,x::xs,y::ys,p,h,a=>by
   show(y-x)*((plR bs p).2:Int)+grR ys xs (plR bs p).1=((y-b.1)*(ybs bs:Int)+rkR bs ys-((x-b.1)*(ybs bs:Int)+rkR bs xs))*(p:Int);rw[ydcs p h.2 a.2,ysi,zV,show((y-b.1)*(ybs bs:Int)+rkR bs ys-((x-b.1)*(ybs bs:Int)+rkR bs xs))=(y-x)*(ybs bs:Int)+(rkR bs ys-rkR bs xs)by simp only[zCZ];omega,zAE,zCQ (p:Int),zCJ]
theorem ydew:∀{rs:List (List (Int×Int))}{c d:Conf}(p:Nat),inT rs c->inT rs d->grT d c (plT rs p).1=(rkT rs d-rkT rs c)*(p:Int)
 |[],[],[],p,_,_=>by simp[grT,rkT]
 |[],_::_,_,_,h,_=>h.elim
 |[],[],_::_,_,_,h=>h.elim
 |_::_,[],_,_,h,_=>h.elim
 |_::_,_::_,[],_,_,h=>h.elim
 | b::a,x::e,y::f,p,h,g=>by
   show grR y x (plR b (plT a p).2).1+grT f e (plT a p).1=(rkR b y*(ybm a:Int)+rkT a f-(rkR b x*(ybm a:Int)+rkT a e))*(p:Int);rw[ydcs _ h.1 g.1,ydew p h.2 g.2,ybds,zV,show(rkR b y*(ybm a:Int)+rkT a f-(rkR b x*(ybm a:Int)+rkT a e))=(rkR b y-rkR b x)*(ybm a:Int)+(rkT a f-rkT a e)by rw[zCZ];omega,zAE,zCQ (p:Int),zCJ]
def sumI(f:Nat->Int):Nat->Int
 |0=>0
 |n+1=>sumI f n+f n
theorem ynl(f:Nat->Int):∀n,sumI f (n+1)=f 0+sumI (fun i=>f (i+1)) n
 |0=>by simp[sumI]
 | n+1=>by
   show sumI f (n+1)+f (n+1)=f 0+(sumI (fun i=>f (i+1)) n+f (n+1));rw[ynl f n];omega
theorem ybbi{f g:Nat->Int}:∀{n:Nat},(∀i,i<n->f i=g i)->sumI f n=sumI g n
 |0,_=>rfl
 | n+1,h=>by
   show sumI f n+f n=sumI g n+g n;rw[ybbi fun i a=>h i (by omega),h n (by omega)]
theorem ycbs:∀{ys xs a:List Int},ys.length=xs.length->a.length=xs.length->grR ys xs a=sumI (fun i=>(ys.getD i 0-xs.getD i 0)*a.getD i 0) xs.length
 |[],[],[],_,_=>rfl
 | y::ys,x::xs,q::a,b,c=>by
   show(y-x)*q+grR ys xs a=sumI _ (xs.length+1);rw[ynl,ycbs (by simpa using b) (by simpa using c)]
   rfl
theorem ybzm:∀{d c:Conf}{a:List (List Int)},d.length=c.length->a.length=c.length->grT d c a=sumI (fun i=>grR (d.getD i []) (c.getD i []) (a.getD i [])) c.length
 |[],[],[],_,_=>rfl
 | y::g,x::b,q::a,e,f=>by
   show grR y x q+grT g b a=sumI _ (b.length+1);rw[ynl,ybzm (by simpa using e) (by simpa using f)]
   rfl
end
section
structure Loop(S:Sys)(V:Conf->Prop)(c:Nat->Conf)(s:Nat->Nat)(m:Nat):Prop where
 pos:0<m
 per:∀i,c (i+m)=c i
 val:∀i,V (c i)
 ne:∀i,s i≠0
 sub:∀i,subB (s i) (S.en (c i))
 nx:∀i,c (i+1)=S.mv (c i) (s i)
theorem switch{p:Nat->Prop}{a:Nat}:∀d,¬p a->p (a+d)->∃j,¬p j/\p (j+1)
 |0,b,e=>absurd e b
 | d+1,b,e=>by
   by_cases q:p (a+d)
   .exact switch d b q
   .exact⟨a+d,q,e⟩
theorem exists_least{p:Nat->Prop}(h:∃x,p x):∃x,p x/\∀y,p y->x<=y:=by
 obtain⟨x,d⟩:=h
 induction x using Nat.strongRecOn with
 | ind x e =>
   by_cases q:∃y,p y/\y<x
   .obtain⟨y,b,a⟩:=q;exact e y a b
   .exact⟨x,d,fun y b=>Nat.le_of_not_lt fun a=>q ⟨y,b,a⟩⟩
section
variable {S:Sys}{V:Conf->Prop}{c:Nat->Conf}{s:Nat->Nat}{m:Nat}
end
theorem ycrs {n:Nat}(f F:Nat->Nat->Int) {m:Nat}(hm:0<m) (C:∀i v,f (i+m) v=f i v) (l:∀t v,v<n->0<=f t v) (row:∀t v,v<n->f (t+1) v=F t v\/f (t+1) v=f t v)
 (O:∀t o v,v<n->(∀u,u<n->(f t u<F t v->f o u=f t u)/\(F t v<=f t u->F t v<=f o u))->F o v=F t v):∀v,v<n->∀t,f (t+1) v=f t v:=by
 classical
 have pers:∀v i k,f (i+k*m) v=f i v:=fun v i k=>by
  induction k with
  |zero=>rw[zCO];rfl
  |succ k M=>rw[zBO,<-zCK,C,M]
 have later:∀i t,∃j,t<=j/\∀v,f j v=f i v:=fun i t=>⟨i+t*m,zCR (Nat.le_mul_of_pos_right t hm) (Nat.le_add_left _ _),fun v=>pers v i t⟩;intro v1 D t1;refine zD fun J=>?_
 let I:Nat->Prop:=fun v=>v<n/\∃t,f (t+1) v≠f t v
 let P:Nat->Prop:=fun x=>∃v,I v/\∃i,f i v=(x:Int)
 have Q:∃x,P x:=⟨(f 0 v1).toNat,v1,⟨D,t1,J⟩,0,by have:=l 0 v1 D;omega⟩
 obtain⟨z,⟨v,⟨L,t0,K⟩,i,N⟩,hz⟩:=exists_least Q
 have g:∀u,I u->∀t,((z:Nat):Int)<=f t u:=fun u r t=>by
  have h0:=l t u r.1;have:=hz (f t u).toNat ⟨u,r,t,by omega⟩
  omega
 obtain⟨x,hx⟩:∃x:Int,(z:Int)=x:=⟨_,rfl⟩;rw[hx]at N g
 have E:∀u,u<n->¬I u->∀t o,f t u=f o u:=fun u r hn=>by
  have all:∀t,f t u=f 0 u:=fun t=>by
   induction t with
   |zero=>rfl
   | succ t M =>
     rw[<-M];exact zD fun q=>hn ⟨r,t,q⟩
  exact fun t o=>(all t).trans (all o).symm
 have B:∃a,f a v≠x:=by
  by_cases q:f t0 v=x
  .exact⟨t0+1,fun e=>K (e.trans q.symm)⟩
  .exact⟨t0,q⟩
 obtain⟨a,T⟩:=B;obtain⟨b,U,W⟩:=later i a;obtain⟨j,y,h⟩:=switch (p:=fun t=>f t v=x) (a:=a) (b-a) T (by show f (a+(b-a)) v=x;rw[show a+(b-a)=b by omega,W];exact N)
 have w:F j v=x:=by
  rcases row j v L with e|e
  .rw[<-e];exact h
  .rw[e]at h;exact absurd h y
 have R:∀t,F t v=x:=fun t=>by
  rw[O j t v L fun u r=>?_]
  .exact w
  .rw[w]
   by_cases q:I u
   .exact⟨fun Z=>absurd (g u q j) (by omega),fun _=>g u q t⟩
   .have e:=E u r q t j;exact⟨fun _=>e,fun Y=>by omega⟩
 obtain⟨d,X,G⟩:=later j (j+1);obtain⟨k,H,A⟩:=switch (p:=fun t=>¬f t v=x) (a:=j+1) (d-(j+1)) (fun q=>q h) (by show ¬f (j+1+(d-(j+1))) v=x;rw[show j+1+(d-(j+1))=d by omega,G];exact y)
 rcases row k v L with e|e
 .exact A (by rw[e];exact R k)
 .exact A (by rw[e];exact zD H)
theorem Tgt.still {S:Sys}{V:Conf->Prop}{T:Conf->Nat->List Int}(h:Tgt S V T) (f:List Int->Int) (e:∀c v,V c->v<S.n->0<=f (c.getD v []))
 (k:∀c g v,V c->V g->v<S.n->(∀u,u<S.n->(f (c.getD u [])<f (T c v)->f (g.getD u [])=f (c.getD u []))/\(f (T c v)<=f (c.getD u [])->f (T c v)<=f (g.getD u [])))->f (T g v)=f (T c v))
 {c:Nat->Conf}{s:Nat->Nat}{m:Nat}(a:Loop S V c s m):∀v,v<S.n->∀t,f ((c (t+1)).getD v [])=f ((c t).getD v []) :=
 ycrs (fun t v=>f ((c t).getD v [])) (fun t v=>f (T (c t) v)) a.pos (fun i v=>by rw[a.per]) (fun t v b=>e _ _ (a.val t) b) (fun t v b=>by
  show f ((c (t+1)).getD v [])=_\/f ((c (t+1)).getD v [])=_;rw[a.nx t];cases j:(s t).testBit v with
  |true=>exact .inl (by rw[h.move _ _ _ (a.val t) b j (a.sub t)])
  |false=>exact .inr (by rw[h.stay _ _ _ (a.val t) b j])) fun t l v b d=>k _ _ v (a.val t) (a.val l) b d
theorem Tgt.no_loop {S:Sys}{V:Conf->Prop}{T:Conf->Nat->List Int}(h:Tgt S V T) (o:∀c,S.en c<2^S.n) (f:List Int->Int) (j:∀c v,V c->v<S.n->0<=f (c.getD v []))
 (z:∀c g v,V c->V g->v<S.n->(∀u,u<S.n->(f (c.getD u [])<f (T c v)->f (g.getD u [])=f (c.getD u []))/\(f (T c v)<=f (c.getD u [])->f (T c v)<=f (g.getD u [])))->f (T g v)=f (T c v))
 (y:∀c g v,V c->V g->v<S.n->(∀u,u<S.n->f (g.getD u [])=f (c.getD u []))->T g v=T c v)
 {c:Nat->Conf}{s:Nat->Nat}{m:Nat}(a:Loop S V c s m):False:=by
 have r:=h.still f j z a
 have all:∀u,u<S.n->∀t,f ((c t).getD u [])=f ((c 0).getD u []):=fun u w t=>by
  induction t with
  |zero=>rfl
  |succ t x=>rw[r u w t,x]
 have A:∀v,v<S.n->∀t,T (c t) v=T (c 0) v:=fun v l t=>y _ _ _ (a.val 0) (a.val t) l fun u w=>all u w t
 obtain⟨v,l⟩:∃v,(s 0).testBit v=true:=zD fun q=>a.ne 0 ((yls _).2 fun i=>by
  cases k:(s 0).testBit i with
  |false=>rfl
  |true=>exact absurd ⟨i,k⟩ q)
 have d:=a.sub 0 v l
 have b:v<S.n:=by
  rcases zAI v S.n with q|q
  .exact q
  .rw[zBH (zBR (o _) (zBN (by omega) q))]at d;cases d
 have p:(c 0).getD v []≠T (c 0) v:=fun e=>by
  rw[(h.en _ _ (a.val 0) b).2 e]at d;cases d
 have after:∀t,(c (t+1)).getD v []=T (c 0) v:=fun t=>by
  induction t with
  |zero=>rw[a.nx 0];exact h.move _ _ _ (a.val 0) b l (a.sub 0)
  | succ t x =>
    rw[a.nx (t+1)];cases k:(s (t+1)).testBit v with
    |true=>rw[h.move _ _ _ (a.val _) b k (a.sub _)];exact A v b _
    |false=>rw[h.stay _ _ _ (a.val _) b k];exact x
 have B:=a.pos;refine p ?_;have e:=after (m-1);rw[show m-1+1=0+m by omega,a.per 0]at e
 exact e
end
section
structure ByRoundsC(S:Sys)(V:Conf->Prop)(D:Nat->Prop)(P:Nat->Nat->Conf->Prop):Prop where
 valid:∀c s,V c->s≠0->subB s (S.en c)->D s->V (S.mv c s)
 stay:∀c s v r r',r<=r'->r'<=r+1->V c->v<S.n->s.testBit v=false->subB s (S.en c)->D s->(∀u,u<S.n->P r u c)->P r' v c->P r' v (S.mv c s)
 move:∀c s v r,V c->v<S.n->s.testBit v=true->subB s (S.en c)->D s->(∀u,u<S.n->P r u c)->P (r+1) v (S.mv c s)
 rest:∀c v r,V c->v<S.n->(S.en c).testBit v=false->(∀u,u<S.n->P r u c)->P (r+1) v c
 less:∀r v c,P (r+1) v c->P r v c
structure RInvC(S:Sys)(V:Conf->Prop)(P:Nat->Nat->Conf->Prop)(c:Conf)(k:Cnt):Prop where
 valid:V c
 all:∀v,v<S.n->P k.rounds v c
 done:∀v,v<S.n->k.pend.testBit v=false->P (k.rounds+1) v c
 begun:k.begun<=k.rounds+1
section
variable {S:Sys}{V:Conf->Prop}{D:Nat->Prop}{P:Nat->Nat->Conf->Prop}
end
end
section
theorem ymf{i:Type}[DecidableEq i]:∀{l1 l2:List i},l1.Nodup->(∀x∈l1,x∈l2)->l1.length<=l2.length
 |[],_,_,_=>zM _
 | a::t,l2,b,f=>by
   have b:=List.nodup_cons.1 b;have d:=f a zH;have:=ymf (l1:=t) (l2:=l2.erase a) b.2 fun y h=>(zAO fun e=>b.1 (by rw[<-e];exact h)).2 (f y (zG _ h))
   rw[zAJ d]at this;have:=List.length_pos_of_mem d;simp only[zBA];omega
def kcEx:Ex:=.agg 21 (.bin 35 (eQ 0) (eVar 0))
def ybzu(nm c r:ByteArray):ProgT:=⟨nm,[⟨c,1,0,0,1,0⟩],[⟨r,kcEx,[(0,.agg 27 (eQ 0))]⟩]⟩
def ycme(c:Conf)(v:Nat):Int:=(c.getD v []).getD 0 0
def yejb(g:Gr)(c:Conf)(v:Nat):Prop:=∃u,adj g v u/\ycme c u=ycme c v
structure KcC(g:Gr)(c:Conf):Prop where
 len:c.length=g.ids.length
 row:∀v,v<g.ids.length->(c.getD v []).length=1/\(0<=ycme c v/\ycme c v<=g.ids.length)
section
variable {nm nc nr:ByteArray}{g:Gr}{c:Conf}{u v s:Nat}
def kcR(g:Gr)(r v:Nat)(c:Conf):Prop:=1<=r->¬yejb g c v
structure KcJ(nm nc nr:ByteArray)(g:Gr)(c:Conf)(k:Cnt):Prop where
 inv:RInvC (ymx (ybzu nm nc nr) g) (fun c=>yef (ybzu nm nc nr) g c=true) (kcR g) c k
 moves:k.moves+popP (ybu (ybzu nm nc nr) g c)<=g.ids.length
end
end
section
theorem yedq{N:Nat}{f:Nat->Nat}(h:∀i,f i<N):∃i m,0<m/\f (i+m)=f i:=by
 refine zD fun g=>?_;have d:∀i j,i<j->f i≠f j:=fun i j k e=>g ⟨i,j-i,by omega,by rw[show i+(j-i)=j by omega,e]⟩
 have l:((zL (N+1)).map f).Nodup:=by
  unfold List.Nodup;rw[zAX];exact List.pairwise_lt_range.imp fun {a b} c=>d a b c
 have:=ymf (l2:=zL N) l fun x n=>by
  obtain⟨i,_,rfl⟩:=List.mem_map.1 n;exact List.mem_range.2 (h i)
 simp at this;omega
structure Back(N:Nat)(arcs:Nat->List (Nat×Nat))(f:Nat->Nat)(m:Nat):Prop where
 pos:0<m
 per:∀i,f (i+m)=f i
 lt:∀i,f i<N
 arc:∀i,∃a∈arcs (f i),a.2=f (i+1)
theorem ycqt{m t:Nat}(b:0<m):((t+1)%m=t%m+1)\/(t%m+1=m/\(t+1)%m=0):=by
 have c:=zCC t b;rcases zAI (t%m+1) m with h|h
 .left
  rw[Nat.add_mod];rcases zAI 1 m with a|a
  .rw[zAF a,zAF h]
  .omega
 .right
  refine⟨by omega,?_⟩
  have e:t+1=m*(t/m)+m:=by
   have:=zCD t m;omega
  rw[e,Nat.mul_add_mod,Nat.mod_self]
theorem ydjx {N:Nat}{b:Nat->List (Nat×Nat)}{set:Nat->Bool}{L:List Nat}(j:∀k,k<N->set k=true->k∈L)
 (o:∀k,k<N->set k=false->b k≠[]->(∀a∈b k,a.2∈L)->k∈L) (u:∀k,k<N->∀a∈b k,a.2<N) (s:∀k,k<N->set k=false->b k≠[])
 (d:∀f m,Back N b f m->False):∀k,k<N->k∈L:=by
 classical
 intro C z;refine zD fun q=>?_
 have step:∀k:Nat,∃v,(k<N/\¬k∈L)->(v<N/\¬v∈L)/\∃a∈b k,a.2=v:=fun k=>by
  by_cases hk:k<N/\¬k∈L
  .have n:set k=false:=by
    cases n:set k with
    |false=>rfl
    |true=>exact absurd (j k hk.1 n) hk.2
   obtain⟨a,c,r⟩:∃a∈b k,¬a.2∈L:=zD fun A =>
    hk.2 (o k hk.1 n (s k hk.1 n) fun a c=>zD fun r=>A ⟨a,c,r⟩)
   exact⟨a.2,fun _=>⟨⟨u k hk.1 a c,r⟩,a,c,rfl⟩⟩
  .exact⟨0,fun h=>absurd h hk⟩
 let l:Nat->Nat:=fun k=>(step k).choose
 have g:∀k,(k<N/\¬k∈L)->(l k<N/\¬l k∈L)/\∃a∈b k,a.2=l k:=fun k=>(step k).choose_spec
 let f:Nat->Nat:=fun i=>Nat.rec C (fun _ k=>l k) i
 have f1:∀i,f (i+1)=l (f i):=fun i=>rfl
 have p:∀i,f i<N/\¬f i∈L:=fun i=>by
  induction i with
  |zero=>exact⟨z,q⟩
  |succ i B=>rw[f1];exact(g _ B).1
 obtain⟨i,m,w,e⟩:=yedq fun i=>(p i).1;refine d (fun t=>f (i+t%m)) m ⟨w,fun t=>by simp,fun t=>(p _).1,fun t=>?_⟩
 obtain⟨a,c,x⟩:=(g _ (p (i+t%m))).2;refine⟨a,c,x.trans ?_⟩;rw[<-f1];rcases ycqt (t:=t) w with h|⟨h,y⟩
 .rw[h];rfl
 .rw[y,show i+t%m+1=i+m by omega,e];rfl
theorem ydkm{N:Nat}{L:List Nat}(h:∀k,k<N->k∈L):N<=L.length:=by
 have:=ymf (l1:=zL N) (l2:=L) zBZ fun x a=>h x (List.mem_range.1 a)
 simpa using this
def yva(l:List (Nat×Nat))(A:List Nat):Nat:=l.countP fun a=>A.contains a.2
theorem ycab{l:List (Nat×Nat)}{A:List Nat}:yva l A=l.length↔∀a∈l,a.2∈A:=by
 unfold yva;rw[List.countP_eq_length];simp
theorem ybze(l:List (Nat×Nat)):yva l []=0:=by
 unfold yva;rw[List.countP_eq_zero];simp
theorem ybvm{l:List (Nat×Nat)}{A:List Nat}{x:Nat}(d:x∉A):yva l (A++[x])=yva l A+l.countP fun a=>a.2==x:=by
 unfold yva
 induction l with
 |nil=>rfl
 | cons a l e =>
   rw[zBB,zBB,zBB,e]
   by_cases b:a.2=x
   .have:A.contains a.2=false:=by rw[b];simpa using d
    have c:(A++[x]).contains a.2=true:=by simp[b]
    rw[this,c];simp[b];omega
   .have c:(A++[x]).contains a.2=A.contains a.2:=by
     simp[b]
    rw[c];simp[b];omega
end
section
theorem ylj{a:Type}{l:List a}{k:Nat}{d:a}(h:k<l.length):l.getD k d=l[k]:=by simp[zX,h]
structure Spc where
 N:Nat
 en:Nat->Nat
 arcs:Nat->List (Nat×Nat)
def yboy(l:List (Nat×Nat))(i:Nat):Nat:=if i=0 then 0 else(l.getD (i-1) (0,0)).1
def sumA(S:Spc):Nat->Nat
 |0=>0
 |k+1=>sumA S k+(S.arcs k).length
structure Spc.ok(S:Spc):Prop where
 pos:0<S.N
 le:S.N<=32768
 lt:∀k,k<S.N->S.en k<2^24
 ne:∀k,k<S.N->(S.en k=0↔(S.arcs k).length=0)
 sub:∀k,k<S.N->∀i,i<(S.arcs k).length->((S.arcs k).getD i (0,0)).1<2^24/\difB ((S.arcs k).getD i (0,0)).1 (S.en k)=0
 asc:∀k,k<S.N->∀i,i<(S.arcs k).length->yboy (S.arcs k) i<((S.arcs k).getD i (0,0)).1
 to:∀k,k<S.N->∀i,i<(S.arcs k).length->((S.arcs k).getD i (0,0)).2<S.N
 tot:sumA S S.N<=262144
theorem ymn(S:Spc):∀{n k:Nat},k<=n->sumA S k<=sumA S n
 |0,k,h=>by rw[Nat.le_zero.1 h];exact zAG _
 | n + 1,k,h=>by
   rcases zAI k (n+1)with q|q
   .have:=ymn S (n:=n) (k:=k) (by omega)
    show _<=sumA S n+_;omega
   .rw[show k=n+1 by omega];exact zAG _
theorem Spc.ok.len{S:Spc}(h:S.ok){k:Nat}(hk:k<S.N):(S.arcs k).length<=262144:=by
 have a:=ymn S (n:=S.N) (k:=k+1) (by omega)
 have b:=h.tot;have:sumA S (k+1)=sumA S k+(S.arcs k).length:=rfl;omega
theorem Spc.ok.mem{S:Spc}(h:S.ok){k:Nat}(hk:k<S.N){a:Nat×Nat}(c:a∈S.arcs k):a.2<S.N:=by
 obtain⟨i,b,rfl⟩:=List.getElem_of_mem c;have:=h.to k hk i b
 rwa [ylj b]at this
def ygz(S:Spc)(k i:Nat):List (Nat×Nat):=(zL k).flatMap (fun q=>(S.arcs q).map fun a=>(q,a.2))++((S.arcs k).take i).map fun a=>(k,a.2)
def yhj(S:Spc)(k i j:Nat):List Nat:=((ygz S k i).filter fun p=>p.2==j).map (·.1)
theorem yun(S:Spc)(k:Nat):ygz S k (S.arcs k).length=ygz S (k+1) 0:=by
 unfold ygz;rw[zN,zCE,List.flatMap_append];simp
theorem ybbx(S:Spc)(k j:Nat):yhj S k (S.arcs k).length j=yhj S (k+1) 0 j:=by unfold yhj;rw[yun]
theorem ybck(S:Spc)(j:Nat):yhj S 0 0 j=[]:=rfl
theorem ybjb(S:Spc){k i:Nat}(a:i<(S.arcs k).length):ygz S k (i+1)=ygz S k i++[(k,((S.arcs k).getD i (0,0)).2)]:=by
 unfold ygz;rw[zAA a,zBE,<-List.append_assoc,ylj a];rfl
theorem ybwz(S:Spc){k i:Nat}(a:i<(S.arcs k).length)(j:Nat):yhj S k (i+1) j=if j=((S.arcs k).getD i (0,0)).2 then yhj S k i j++[k]else yhj S k i j:=by
 unfold yhj;rw[ybjb S a,zAB,zBE]
 by_cases q:j=((S.arcs k).getD i (0,0)).2
 .rw[if_pos q];have:((k,((S.arcs k).getD i (0,0)).2).2==j)=true:=by rw[q];exact beq_self_eq_true _
  rw[zCA,this];rfl
 .rw[if_neg q];have:((k,((S.arcs k).getD i (0,0)).2).2==j)=false:=by rw[beq_eq_false_iff_ne];exact Ne.symm q
  rw[zCA,this];simp
theorem yoz(S:Spc):∀k,(ygz S k 0).length=sumA S k
 |0=>rfl
 | k+1=>by
   rw[<-yun];have a:=yoz S k;unfold ygz at a ⊢;simp only[zAR,zBS,zAQ]at a;rw[zI,a,zN,zAH];rfl
theorem yya{S:Spc}(h:S.ok){k i:Nat}(hk:k<=S.N)(f:k<S.N->i<=(S.arcs k).length)(b:k=S.N->i=0)(j:Nat):(yhj S k i j).length<=262144:=by
 have c:(ygz S k i).length<=262144:=by
  rcases zAI k S.N with q|q
  .have d:=ymn S (n:=S.N) (k:=k+1) (by omega)
   have e:=h.tot;have a:=yoz S k;unfold ygz at a ⊢;simp only[zAR,zBS,zAQ]at a;rw[zI,a,zAH,List.length_take];have:sumA S (k+1)=sumA S k+(S.arcs k).length:=rfl;omega
  .rw[b (by omega),yoz,show k=S.N by omega];exact h.tot
 unfold yhj;rw[zAH];exact zCR (zBJ _ _) c
theorem ycma{S:Spc}{k i j:Nat}(hk:k<S.N\/i=0/\k<=S.N):∀x∈yhj S k i j,x<S.N:=fun x d=>by
 unfold yhj at d;obtain⟨p,b,rfl⟩:=List.mem_map.1 d;have b:=(List.mem_filter.1 b).1;unfold ygz at b;rcases List.mem_append.1 b with q|q
 .obtain⟨y,e,q⟩:=List.mem_flatMap.1 q;obtain⟨a,_,rfl⟩:=List.mem_map.1 q;have:=List.mem_range.1 e;show y<S.N;omega
 .obtain⟨a,c,rfl⟩:=List.mem_map.1 q;rcases hk with h|⟨h,_⟩
  .exact h
  .rw[h]at c;simp at c
def srcS(S:Spc)(j:Nat):List Nat:=yhj S S.N 0 j
theorem ybhz{S:Spc}{k:Nat}(j:Nat):∀n,(yhj S n 0 j).count k=if k<n then(S.arcs k).countP (fun a=>a.2==j)else 0
 |0=>by simp[ybck]
 | n + 1=>by
   have d:=ybhz (S:=S) (k:=k) j n
   have e:yhj S (n+1) 0 j=yhj S n 0 j++((S.arcs n).filter fun a=>a.2==j).map fun _=>n:=by
    rw[<-ybbx];unfold yhj ygz;simp only[zN,zAR,zBS,zAQ,zAB,zBE,List.filter_map,List.map_map];rfl
   rw[e,zBW,d]
   by_cases q:k=n
   .subst q;rw[if_neg (by omega),if_pos (by omega),List.map_const',List.count_replicate_self,<-List.countP_eq_length_filter]
    omega
   .rw[List.count_eq_zero.2 (fun c=>q (by obtain⟨_,_,rfl⟩:=List.mem_map.1 c;rfl))]
    by_cases b:k<n
    .rw[if_pos b,if_pos (by omega)];omega
    .rw[if_neg b,if_neg (by omega)]
structure OrdI(S:Spc)(lg:Nat->Bool)(L:List Nat)(i j:Nat)(E:Nat->Nat):Prop where
 nd:L.Nodup
 lt:∀x∈L,x<S.N
 set:∀k,k<S.N->lg k=true->k∈L
 hi:i<=L.length
 cnt:∀k,k<S.N->E k=yva (S.arcs k) (L.take i)+(if i<L.length then((srcS S (L.getD i 0)).take j).count k else 0)
 inn:∀k,k<S.N->lg k=false->(k∈L↔0<(S.arcs k).length/\E k=(S.arcs k).length)
section
variable {S:Spc}{lg:Nat->Bool}{L:List Nat}{i j:Nat}{E:Nat->Nat}
theorem OrdI.start(c:L.Nodup)(b:∀x∈L,x<S.N)(a:∀k,k<S.N->(k∈L↔lg k=true)):OrdI S lg L 0 0 fun _=>0 :=
 ⟨c,b,fun k hk h=>(a k hk).2 h,zM _,fun k hk=>by rw[zAR,ybze];simp,fun k hk h=>⟨fun d=>(by rw[(a k hk).1 d]at h;cases h),fun q=>by omega⟩⟩
theorem yhc{b:Type}{l:List b}{i:Nat}(d:b)(a:i<l.length):l.take (i+1)=l.take i++[l.getD i d]:=by
 rw[zAA a,ylj a]
theorem OrdI.cnt_le(h:OrdI S lg L i j E)(a:i<L.length){k:Nat}(hk:k<S.N):yva (S.arcs k) (L.take i)+(srcS S (L.getD i 0)).count k=yva (S.arcs k) (L.take (i+1)):=by
 rw[yhc 0 a,ybvm]
 .unfold srcS;rw[ybhz,if_pos hk]
 .intro c;have:=h.nd;rw[<-zBI (i+1) L,yhc 0 a]at this;have b:=(List.nodup_append.1 (List.nodup_append.1 this).1).2.2;exact b _ c _ (List.mem_singleton.2 rfl) rfl
theorem ycqz(l:List (Nat×Nat))(A:List Nat):yva l A<=l.length:=List.countP_le_length
theorem ymg{l:List Nat}{j:Nat}(a:j<l.length)(k:Nat):(l.take (j+1)).count k=(l.take j).count k+if l.getD j 0=k then 1 else 0:=by
 rw[yhc 0 a,zBW,List.count_singleton];simp
theorem OrdI.step(h:OrdI S lg L i j E)(g:i<L.length)(p:j<(srcS S (L.getD i 0)).length){k:Nat}(hk:(srcS S (L.getD i 0)).getD j 0=k)(hkN:k<S.N) :
 E k<(S.arcs k).length/\(let s:=fun q=>if q=k then E k+1 else E q
 OrdI S lg (if lg k=false/\E k+1=(S.arcs k).length then L++[k]else L) i (j+1) s):=by
 have m:E k<(S.arcs k).length:=by
  have l:=h.cnt k hkN;rw[if_pos g]at l;have A:=h.cnt_le g hkN;have B:=ycqz (S.arcs k) (L.take (i+1));have v:=ymg p k;rw[if_pos hk]at v;have C:((srcS S (L.getD i 0)).take (j+1)).count k<=(srcS S (L.getD i 0)).count k:=(List.take_sublist _ _).count_le _;omega
 refine⟨m,?_⟩
 have f:∀q,q<S.N->(if q=k then E k+1 else E q)=yva (S.arcs q) (L.take i)+((srcS S (L.getD i 0)).take (j+1)).count q:=fun q z=>by
  have l:=h.cnt q z;rw[if_pos g]at l;rw[ymg p q,hk]
  by_cases e:q=k
  .subst e;rw[if_pos rfl,if_pos rfl];omega
  .rw[if_neg e,if_neg (Ne.symm e)];omega
 by_cases q:lg k=false/\E k+1=(S.arcs k).length
 .simp only[if_pos q]
  have o:k∉L:=fun n=>by
   have:=((h.inn k hkN q.1).1 n).2;omega
  refine⟨?_,fun x c=>?_,fun x c d=>List.mem_append_left _ (h.set x c d),by rw[zI];have:=h.hi;omega,fun x c=>?_,fun x c d=>?_⟩
  .exact List.nodup_append.2 ⟨h.nd,List.pairwise_singleton _ _,fun a w b y=>by rw[List.mem_singleton.1 y];rintro rfl;exact o w⟩
  .rcases List.mem_append.1 c with r|r
   .exact h.lt x r
   .rw[List.mem_singleton.1 r];exact hkN
  .have t:(L++[k]).take i=L.take i:=List.take_append_of_le_length h.hi
   have u:(L++[k]).getD i 0=L.getD i 0:=by
    simp only[zX,zZ g]
   have d:i<(L++[k]).length:=by rw[zI];omega
   rw[t,u,if_pos d];exact f x c
  .by_cases e:x=k
   .subst e;rw[if_pos rfl];exact⟨fun _=>⟨by omega,q.2⟩,fun _=>List.mem_append_right _ (List.mem_singleton.2 rfl)⟩
   .rw[if_neg e];refine Iff.trans ?_ (h.inn x c d);rw[List.mem_append,List.mem_singleton];exact⟨fun r=>r.resolve_right e,.inl⟩
 .simp only[if_neg q];refine⟨h.nd,h.lt,h.set,h.hi,fun x c=>by rw[if_pos g];exact f x c,fun x c d=>?_⟩
  by_cases e:x=k
  .subst e;rw[if_pos rfl];exact⟨fun n=>absurd ((h.inn x c d).1 n).2 (by omega),fun r=>absurd ⟨d,r.2⟩ q⟩
  .rw[if_neg e];exact h.inn x c d
theorem OrdI.next(h:OrdI S lg L i j E)(a:i<L.length)(c:j=(srcS S (L.getD i 0)).length):OrdI S lg L (i+1) 0 E :=
 ⟨h.nd,h.lt,h.set,a,fun k hk=>by
   have b:=h.cnt k hk;rw[if_pos a,c,zN]at b;rw[b,h.cnt_le a hk];simp,h.inn⟩
theorem OrdI.all(h:OrdI S lg L L.length j E)(d:∀k,k<S.N->∀a∈S.arcs k,a.2<S.N)(c:∀k,k<S.N->lg k=false->S.arcs k≠[])(b:∀f m,Back S.N S.arcs f m->False):∀k,k<S.N->k∈L:=by
 refine ydjx h.set (fun k hk l n g=>(h.inn k hk l).2 ⟨List.length_pos_iff.2 n,?_⟩) d c b;have e:=h.cnt k hk;rw[if_neg (by omega),zN]at e
 rw[e,ycab.2 g];rfl
theorem OrdI.len(h:OrdI S lg L i j E):L.length<=S.N:=by
 have:=ymf (l2:=zL S.N) h.nd fun x a=>List.mem_range.2 (h.lt x a)
 simpa using this
end
end
section
namespace Sh
open Ev Go.RowKit
def ybl(l:List (Nat×Nat)):SV:=.sl 2 l.length (fun i=>[.i .u32 ((l.getD i (0,0)).1:Nat),.i .i64 ((l.getD i (0,0)).2:Nat)])
def spcC(S:Spc):List SV:=[.sl 1 S.N (fun k=>[.i .u32 (S.en k:Nat)]),.sl 1 S.N (fun k=>[ybl (S.arcs k)])]
def ybd(n:Nat)(f:Nat->Bool):SV:=.sl 1 n (fun k=>[.b (f k)])
theorem dec_lt{a b:Nat}(h:a<b):decide ((a:Int)<(b:Int))=true:=by simp;omega
theorem ybth{e n:Nat}{l:List (Nat×Nat)}(C:e<2^24)(c:e=0↔l.length=0)(A:l.length<=262144)(g:∀i,i<l.length->(l.getD i (0,0)).1<2^24/\difB (l.getD i (0,0)).1 e=0)(d:∀i,i<l.length->yboy l i<(l.getD i (0,0)).1)(s:∀i,i<l.length->(l.getD i (0,0)).2<n) :
 Returns zF 180 [.i .u32 (e:Nat),ybl l,.i .i64 (n:Nat)] (.b true):=by
 refine Returns.of (ydio _ _ ?_);obtain⟨m,x⟩:∃m,l.length=m:=⟨_,rfl⟩;have B:e>>>24=0:=by rw[Nat.shiftRight_eq_div_pow];omega
 have f0:((((e>>>24:Nat):Int))!=0)=false:=by rw[B];rfl
 have f1:(((e:Int)!=0)!=decide ((m:Int)>0))=false:=by
  rw[x]at c
  by_cases q:e=0
  .have:=c.1 q;subst q;subst this;rfl
  .have D:m≠0:=fun r=>q (c.2 r);have y:((e:Int)!=0)=true:=by rw[bne_iff_ne];omega
   have z:decide ((m:Int)>0)=true:=by simp;omega
   rw[y,z];rfl
 simp only[c180,ydat,yctf,ycwo,yddh,ybl,x,ybzq,f0,f1,go_sem,Int.reduceToNat,zA,zB];refine⟨by decide,?_⟩
 refine ybf (σ:=Nat) (fun k=>⟨[(23,.i .i64 k),(22,.i .i64 m),(21,.sl 2 m (fun i=>[.i .u32 ((l.getD i (0,0)).1:Nat),.i .i64 ((l.getD i (0,0)).2:Nat)])),(0,.i .u32 (e:Nat)),(2,.i .i64 (n:Nat)),(7,.i .u32 (yboy l k:Nat))],[]⟩)
  (fun k=>k<=m) (fun k=>m-k) 0 (zM _) ?_ ?_
 .refine yx ?_;simp only[yboy,wk,go_sem,zA]
 .intro k hk
  by_cases j:k<m
  .obtain⟨u,h⟩:=g k (by omega)
   have v:=d k (by omega)
   have w:=s k (by omega)
   have o:yboy l (k+1)=(l.getD k (0,0)).1:=rfl;obtain⟨⟨a,t⟩,f⟩:∃p,l.getD k (0,0)=p:=⟨_,rfl⟩;rw[f]at u h v w o;simp only at u h v w o;have d1:=dec_lt j;have d2:decide ((a:Int)<=(yboy l k:Int))=false:=by simp;omega
   have d3:=u32_andNot (a:=a) (b:=e) (by omega) (by omega)
   rw[h]at d3;simp only[IntKind.bits]at d3;have d4:decide ((t:Int)<0)=false:=by simp
   have d5:decide ((t:Int)>=(n:Int))=false:=by simp;omega
   have d6:((((0:Nat):Int))!=0)=false:=rfl;simp only[ycla,ydeb,ycxk,ydgj,ydfe,ychj,ybmk,f,d1,d2,d3,d4,d5,d6,splice,go_sem,zA,zB,zQ,zC];refine⟨⟨by omega,by omega⟩,ikw (by omega) (by omega),?_⟩
   refine ycg (k+1) ?_;refine yx ?_;simp only[o,wk,go_sem,zA];omega
  .obtain rfl:k=m:=by omega
   simp only[ycla,ybmk,zK,yut,go_sem,zA]
def spcO(S:Spc):Fam:=.one (some ⟨41,true,2,1,fun _=>spcC S⟩)
theorem ybtx{S:Spc}(h:S.ok):Returns zF 136 [.ag (spcC S)] (.b true):=by
 refine Returns.of (ydma _ _ ?_);have g:=h.pos;have d:=h.le;have f1:decide ((S.N:Int)<1)=false:=by simp;omega
 have f2:decide ((S.N:Int)>32768)=false:=by simp;omega
 have f3:((S.N:Int)!=(S.N:Int))=false:=by simp
 simp only[c136,ycsq,ycwc,ycxx,yczp,ycwx,spcC,ybl,f1,f2,f3,go_sem,zA,zB,zQ,zC];refine ybf (σ:=Nat) (fun k=>⟨[(23,.i .i64 k),(22,.i .i64 (S.N:Nat)),(3,.i .i64 (S.N:Nat)),(4,.i .i64 (sumA S k:Nat)),(1,.pt (1,0) 0 0)],[(1,spcO S)]⟩) (fun k=>k<=S.N) (fun k=>S.N-k) 0 (zM _) ?_ ?_
 .refine yx ?_;simp only[spcO,spcC,ybl,sumA,wk,go_sem,zA,zC]
 .intro k hk
  by_cases a:k<S.N
  .have c:=ybth (h.lt k a) (h.ne k a) (h.len a) (h.sub k a) (h.asc k a) (h.to k a);simp only[ybl]at c;have d1:=dec_lt a;have e:((sumA S k:Nat):Int)+((S.arcs k).length:Nat)=((sumA S (k+1):Nat):Int):=by show _=((sumA S k+(S.arcs k).length:Nat):Int);omega
   have f:=ymn S (n:=S.N) (k:=k+1) (by omega)
   have j:=h.tot;have d2:decide (((sumA S (k+1):Nat):Int)>262144)=false:=by simp;omega
   simp only[ycfc,ydad,ydem,ydcw,ycce,spcO,spcC,ybl,d1,d2,e,clash,go_sem,zA,zB,zQ];refine⟨by omega,ikw (by omega) (by omega),by omega,by omega,c.use ?_⟩
   simp only[ybk,clash,go_sem,zA,zB]
   try refine⟨by decide,?_⟩
   refine⟨ikw (by omega) (by omega),?_⟩
   refine ycg (k+1) ?_;refine yx ?_;simp only[wk,go_sem,zA,zC];omega
  .obtain rfl:k=S.N:=by omega
   simp only[ycfc,ycht,zK,yut,go_sem,zA]
theorem ysb{S:Spc}(h:S.ok)(lg:Nat->Bool):Returns zF 73 [.ag (spcC S),ybd S.N lg] (.i .i64 0):=by
 refine Returns.of (ydsk _ _ ?_);have a:=ybtx h;have f3:((S.N:Int)!=(S.N:Int))=false:=by simp
 simp only[spcC,ybl]at a;simp only[c73,yegy,ydth,spcC,ybl,ybd,clash,go_sem,zA,zB,zC];refine a.use ?_;simp only[ybk,ydtj,ydsr,clash,f3,go_sem,zA,zB,zQ];exact Sim.refl _
theorem ybwg{S:Spc}(h:S.ok){lg:Nat->Bool}(f:∀k,k<S.N->lg k=true->(S.arcs k).length=0):Returns zF 18 [.ag (spcC S),ybd S.N lg] (.tp [.b true,.i .i64 0]):=by
 refine Returns.of (ydqo _ _ ?_);have d:=ysb h lg;have g:=h.le;simp only[spcC,ybl,ybd]at d;simp only[c18,yean,yefi,spcC,ybl,ybd,clash,go_sem,zA,zB,zC];refine d.use ?_;simp only[ybk,ydvk,yeef,clash,zAK,go_sem,zA,zB];refine ybf (σ:=Nat) (fun k=>⟨[(20,.i .i64 k),(19,.i .i64 (S.N:Nat)),(18,.sl 1 S.N fun k=>[ybl (S.arcs k)]),(1,ybd S.N lg)],[]⟩) (fun k=>k<=S.N) (fun k=>S.N-k) 0 (zM _) ?_ ?_
 .refine yx ?_;simp only[ybl,ybd,wk,go_sem,zA]
 .intro k hk
  by_cases a:k<S.N
  .have d1:=dec_lt a;cases c:lg k with
   | false =>
     simp only[ycnn,ydpo,ydiy,ycic,ybl,ybd,d1,c,clash,go_sem,zA,zB];refine⟨⟨by omega,by omega⟩,⟨by omega,by omega⟩,ikw (by omega) (by omega),?_⟩
     refine ycg (k+1) ?_;refine yx ?_;simp only[wk,go_sem,zA];omega
   | true =>
     have e:=f k a c;simp only[ycnn,ydpo,ydiy,yegw,ybl,ybd,d1,c,clash,e,go_sem,zA,zB];refine⟨⟨by omega,by omega⟩,⟨by omega,by omega⟩,?_⟩
     refine ybf (σ:=Unit) (fun _=>⟨[(32,.i .i64 0),(31,.i .i64 0),(20,.i .i64 k),(19,.i .i64 (S.N:Nat)),(18,.sl 1 S.N fun k=>[ybl (S.arcs k)]),(1,ybd S.N lg)],[]⟩) (fun _=>True) (fun _=>0) () trivial ?_ ?_
     .refine yx ?_;simp only[ybl,ybd,wk,go_sem,zA]
     .intro _ _;simp only[ydsq,ycic,ybl,ybd,zK,clash,go_sem,zA,zB];refine⟨ikw (by omega) (by omega),?_⟩
      refine ycg (k+1) ?_;refine yx ?_;simp only[wk,go_sem,zA];omega
  .obtain rfl:k=S.N:=by omega
   simp only[ycnn,ydcy,zK,go_sem,zA,zB];exact Sim.refl _
end Sh
end
section
namespace Sh
open Ev Go.RowKit
def yct(l:List Nat):SV:=.sl 1 l.length (fun i=>[.i .i64 ((l.getD i 0:Nat):Int)])
def rowC(F:Nat)(f:Nat->List Nat)(j:Nat):SV:=if (f j).length=0 then .a (.slice none 0 0)else .os (F,j) 0 (f j).length true
def rowB(e:Nat)(k:IntKind)(l:List Nat):Option OB:=if l.length=0 then none else some ⟨e,false,1,l.length,fun i=>[.i k ((l.getD i 0:Nat):Int)]⟩
def yit(e:Nat)(k:IntKind)(f:Nat->List Nat):Fam:=.many fun j=>rowB e k (f j)
theorem ylg{F e j:Nat}{k:IntKind}{f:Nat->List Nat}{O:Own}(ρ:List (Nat×(Nat->Nm))){X:SV}(c:X=if (f j).length=0 then .a (.slice none 0 0)else .os (rid ρ (F,j)) 0 (f j).length true)(b:lookO O (F,j)=rowB e k (f j)) :
 (Sim X (ren (rid ρ) 5 (rowC F f j))/\cln (lv [] O) 5 (rowC F f j)=true)/\one1 (rowC F f j)=true:=by
 subst c;unfold rowC
 by_cases q:(f j).length=0
 .simp only[if_pos q];exact⟨⟨Sim.refl _,rfl⟩,rfl⟩
 .simp only[if_neg q];refine⟨⟨Sim.refl _,?_⟩,rfl⟩;show(live O (F,j) && !(List.elem F []))=true;unfold live;rw[b];unfold rowB;rw[if_neg q];rfl
theorem yem{e:Nat}{k:IntKind}{l:List Nat}{b:OB}{h:Nm->Nm}{f j:Own}(m:mapE e=false)(a:rowB e k l=some b){c:OB}(d:(c.e=e/\c.bx=false/\c.z=1/\c.n=l.length)/\∀i,i<l.length->c.g i=[.i k ((l.getD i 0:Nat):Int)]) :
 (c.e=b.e/\c.bx=b.bx/\c.z=b.z/\c.n=b.n)/\(mapE b.e=true->∀i,c.g i=b.g i)/\∀i,i<b.n->telL h [] [] f j (c.g i) (b.g i):=by
 unfold rowB at a;split at a
 .cases a
 .cases a
  refine⟨d.1,fun q=>?_,fun i o=>?_⟩
  .have q:mapE e=true:=q;rw[m]at q;cases q
  .rw[d.2 i o];exact⟨.inl ⟨(yir _ _ _).2 trivial,by rw[yew];exact Sim.refl _,rfl⟩,rfl,trivial⟩
theorem yfk{e:Nat}{k:IntKind}{l:List Nat}{b:OB}(a:rowB e k l=some b):(b.e=e/\b.bx=false/\b.z=1/\b.n=l.length)/\∀i,i<l.length->b.g i=[.i k ((l.getD i 0:Nat):Int)]:=by
 unfold rowB at a;split at a
 .cases a
 .cases a;exact⟨⟨rfl,rfl,rfl,rfl⟩,fun _ _=>rfl⟩
theorem ybry{e:Nat}{k:IntKind}{l:List Nat}{x:Nat}(h:l.length=0){g:Nat->List SV}(a:g 0=[.i k (x:Int)]):((⟨e,false,1,1,g⟩:OB).e=e/\(⟨e,false,1,1,g⟩:OB).bx=false/\(⟨e,false,1,1,g⟩:OB).z=1/\(⟨e,false,1,1,g⟩:OB).n=(l++[x]).length)/\∀i,i<(l++[x]).length->(⟨e,false,1,1,g⟩:OB).g i=[.i k (((l++[x]).getD i 0:Nat):Int)]:=by
 obtain rfl:l=[]:=zY h;refine⟨⟨rfl,rfl,rfl,rfl⟩,fun i b=>?_⟩;obtain rfl:i=0:=by simp at b;omega
 exact a
theorem ybhj{e n:Nat}{k:IntKind}{l:List Nat}{x:Nat}{g g':Nat->List SV}(d:n=l.length)(b:∀i,i<l.length->g i=[.i k ((l.getD i 0:Nat):Int)])(a:g' 0=[.i k (x:Int)]) :
 ((⟨e,false,1,n+1,fun i=>if i<n then g i else g' (i-n)⟩:OB).e=e/\(⟨e,false,1,n+1,fun i=>if i<n then g i else g' (i-n)⟩:OB).bx=false/\(⟨e,false,1,n+1,fun i=>if i<n then g i else g' (i-n)⟩:OB).z=1/\(⟨e,false,1,n+1,fun i=>if i<n then g i else g' (i-n)⟩:OB).n=(l++[x]).length) /\
   ∀i,i<(l++[x]).length->(⟨e,false,1,n+1,fun i=>if i<n then g i else g' (i-n)⟩:OB).g i=[.i k (((l++[x]).getD i 0:Nat):Int)]:=by
 subst d;refine⟨⟨rfl,rfl,rfl,by rw[zI];rfl⟩,fun i c=>?_⟩
 show(if i<l.length then g i else g' (i-l.length))=_
 by_cases q:i<l.length
 .rw[if_pos q,b i q];simp[zX,zZ q]
 .have:i=l.length:=by simp at c;omega
  subst this;rw[if_neg q,zBT,a];simp[zX]
theorem ypu{F e j:Nat}{k:IntKind}{f:Nat->List Nat}{b O:Own}(ρ:List (Nat×(Nat->Nm))){X:List SV}(i:X=[if (f j).length=0 then .a (.slice none 0 0)else .os (rid ρ (F,j)) 0 (f j).length true])(h:lookO O (F,j)=rowB e k (f j)):telL (rid ρ) [] [] b O X [rowC F f j]:=by
 subst i;obtain⟨⟨c,d⟩,g⟩:=ylg (X:=if (f j).length=0 then .a (.slice none 0 0)else .os (rid ρ (F,j)) 0 (f j).length true) ρ rfl h
 exact⟨.inl ⟨(yir _ _ _).2 trivial,by rw[yew];exact c,d⟩,g,trivial⟩
theorem ybde{a b c d t i:Nat}(f:c≠a)(g:c≠b):((c,d):Nm)=(if i=t then((a,0):Nm)else(b,i))->False:=fun e=>by
 split at e
 .exact f (congrArg Prod.fst e)
 .exact g (congrArg Prod.fst e)
theorem yto{a b c d t i:Nat}(f:c≠a)(g:c≠b):(if i=t then((a,0):Nm)else(b,i))=((c,d):Nm)->False:=fun e=>ybde f g e.symm
theorem ybat{a b t i j:Nat}(h:a≠b)(e:(if i=t then((a,0):Nm)else(b,i))=if j=t then((a,0):Nm)else(b,j)):i=j:=by
 by_cases c:i=t<;>by_cases d:j=t
 .omega
 .rw[if_pos c,if_neg d]at e;exact absurd (congrArg Prod.fst e) h
 .rw[if_neg c,if_pos d]at e;exact absurd (congrArg Prod.fst e).symm h
 .rw[if_neg c,if_neg d]at e;exact congrArg Prod.snd e
theorem ybor{S:Spc}(h:S.ok):Returns zF 179 [.ag (spcC S)] (.sl 1 S.N fun j=>[yct (srcS S j)]):=by
 refine Returns.of (ydil _ _ ?_);have G:=h.le;simp only[c179,ydbs,ycts,ydaa,spcC,ybl,clash,go_sem,zA,zB,zC,↓reduceIte,reduceCtorEq];refine⟨by omega,?_⟩
 let o:Nat->Nat->Own:=fun k i=>[(1,spcO S),(11,.one (some ⟨22,false,1,S.N,fun j=>[rowC 60 (yhj S k i) j]⟩)),(60,yit 3 .i64 (yhj S k i))]
 refine ybf (σ:=Nat) (fun k=>⟨[(15,.i .i64 k),(14,.i .i64 (S.N:Nat)),(13,.sl 1 S.N fun k=>[ybl (S.arcs k)]),(1,.pt (1,0) 0 0),(3,.os (11,0) 0 S.N true)],o k 0⟩) (fun k=>k<=S.N) (fun k=>S.N-k) 0 (zM _) ?_ ?_
 .refine yx ?_;simp only[o,spcO,spcC,ybl,rowC,yit,rowB,ybck,wk,go_sem,zA,zC,↓reduceIte,reduceCtorEq]
 .intro k hk
  by_cases s:k<S.N
  .have d1 := dec_lt s;have D:=h.len s;simp only[ybxy,ycvn,ydgu,o,ybl,d1,clash,go_sem,zA,zB,↓reduceIte,reduceCtorEq];refine⟨⟨by omega,by omega⟩,?_⟩
   refine ybf (σ:=Nat) (fun i=>⟨[(22,.i .i64 i),(21,.i .i64 ((S.arcs k).length:Nat)),(20,ybl (S.arcs k)),(4,.i .i64 k),(15,.i .i64 k),(14,.i .i64 (S.N:Nat)),(13,.sl 1 S.N fun k=>[ybl (S.arcs k)]),(1,.pt (1,0) 0 0),(3,.os (11,0) 0 S.N true)],o k i⟩)
    (fun i=>i<=(S.arcs k).length) (fun i=>(S.arcs k).length-i) 0 (zM _) ?_ ?_
   .refine yx ?_;simp only[o,spcO,spcC,ybl,yit,wk,go_sem,zA,zC,↓reduceIte,reduceCtorEq];exact⟨fun _ _ _ _ e=>e,fun i _=>ylg [] rfl rfl,fun i b c=>⟨b,c,yem rfl c (yfk c)⟩⟩
   .intro i A
    by_cases m:i<(S.arcs k).length
    .have z:=h.to k s i m;obtain⟨⟨a,t⟩,n⟩:∃p,(S.arcs k).getD i (0,0)=p:=⟨_,rfl⟩;rw[n]at z;simp only at z;have d2:=dec_lt m;have l:=ybwz S m;rw[n]at l;simp only at l;have x:=yya h (k:=k) (i:=i) (by omega) (by omega) (by omega) t
     obtain⟨f,w⟩:∃f,yhj S k i=f:=⟨_,rfl⟩;obtain⟨u,r⟩:∃f,yhj S k (i+1)=f:=⟨_,rfl⟩;rw[w]at l x;rw[r]at l;have d:∀j,¬j=t->u j=f j:=fun j E=>by rw[l,if_neg E]
     have g:u t=f t++[k]:=by rw[l,if_pos rfl]
     by_cases q:(f t).length=0
     .simp only[ybqv,ycim,yckw,ybxe,ybcu,o,spcO,spcC,ybl,d2,n,w,rowC,yit,rowB,q,clash,go_sem,zA,zB,zQ,zC,Nat.reduceMul,↓reduceIte,reduceCtorEq]
      repeat refine ybe ?_
      refine ycg (i+1) ?_;refine yby [(60,fun j=>if j=t then(36,0)else(60,j))] [] [] ?_
      simp only[r,wk,go_sem,zA,zC,↓reduceIte,reduceCtorEq];refine⟨⟨fun i _=>ybde (by decide) (by decide),fun i _=>ybde (by decide) (by decide),fun i _=>yto (by decide) (by decide),fun i _=>yto (by decide) (by decide),fun i _ j _=>ybat (by decide)⟩,by omega,fun i A=>?_,fun i b c=>?_⟩
      .refine ypu (F:=60) (e:=3) (k:=.i64) (f:=u) [(60,fun j=>if j=t then(36,0)else(60,j))] ?_ rfl
       by_cases e:i=t
       .subst e;have v:(u i).length=1:=by rw[g,zI,q];rfl
        simp only[v,go_sem,↓reduceIte,reduceCtorEq]
       .simp only[d i e,e,go_sem,↓reduceIte]
      .by_cases e:i=t
       .subst e;rw[g]at c;simp only[go_sem,zA,↓reduceIte];exact yem (e:=3) (k:=.i64) rfl c (ybry q rfl)
       .rw[d i e]at c;simp only[e,go_sem,zA,↓reduceIte];exact⟨_,c,yem (e:=3) (k:=.i64) rfl c (yfk (e:=3) (k:=.i64) c)⟩
     .have I:0<(f t).length:=by omega
      simp only[ybqv,ycim,yckw,ybxe,ybcu,o,spcO,spcC,ybl,d2,n,w,rowC,yit,rowB,q,clash,go_sem,zA,zB,zQ,zC,↓reduceIte,reduceCtorEq]
      repeat refine ybe ?_
      refine ycg (i+1) ?_;refine yby [(60,fun j=>if j=t then(36,0)else(60,j))] [] [] ?_
      simp only[r,wk,go_sem,zA,zC,↓reduceIte,reduceCtorEq];refine⟨⟨fun i _=>ybde (by decide) (by decide),fun i _=>ybde (by decide) (by decide),fun i _=>yto (by decide) (by decide),fun i _=>yto (by decide) (by decide),fun i _ j _=>ybat (by decide)⟩,by omega,fun i A=>?_,fun i b c=>?_⟩
      .refine ypu (F:=60) (e:=3) (k:=.i64) (f:=u) [(60,fun j=>if j=t then(36,0)else(60,j))] ?_ rfl
       by_cases e:i=t
       .subst e;have v:(u i).length=(f i).length+1:=by rw[g,zI];rfl
        have C:¬(f i).length+1=0:=by omega
        simp only[v,C,go_sem,↓reduceIte]
       .simp only[d i e,e,go_sem,↓reduceIte]
      .by_cases e:i=t
       .subst e;rw[g]at c;simp only[go_sem,zA,↓reduceIte];exact yem (e:=3) (k:=.i64) rfl c (ybhj (g':=fun i=>zDC 1 (zDD (i*1) [.i .i64 (k:Int)])) rfl (fun _ _=>rfl) rfl)
       .rw[d i e]at c;simp only[e,go_sem,zA,↓reduceIte];exact⟨_,c,yem (e:=3) (k:=.i64) rfl c (yfk (e:=3) (k:=.i64) c)⟩
    .obtain rfl:i=(S.arcs k).length:=by omega
     have y:yhj S k (S.arcs k).length=yhj S (k+1) 0:=funext fun j=>ybbx S k j;simp only[ybqv,ybcu,o,spcO,spcC,ybl,zK,clash,y,go_sem,zA,zB,↓reduceIte,reduceCtorEq];refine⟨ikw (by omega) (by omega),?_⟩
     refine ycg (k+1) ?_;refine yx ?_;simp only[yit,wk,go_sem,zA,zC,↓reduceIte,reduceCtorEq];exact⟨fun _ _ _ _ e=>e,by omega,fun i _=>ylg [] rfl rfl,fun i b c=>⟨b,c,yem rfl c (yfk c)⟩⟩
  .obtain rfl:k=S.N:=by omega
   simp only[ybxy,ycae,o,spcO,zK,go_sem,zA,zB,↓reduceIte,reduceCtorEq];have B:∀q,q<S.N->(yhj S S.N 0 q).length<=262144:=fun q _=>yya h (k:=S.N) (i:=0) (by omega) (by omega) (by omega) q
   refine⟨fun q H=>?_,yeb fun q H=>?_⟩
   .unfold rowC
    by_cases e:(yhj S S.N 0 q).length=0
    .simp only[e,go_sem,↓reduceIte]
    .simp only[e,yit,rowB,go_sem,zA,↓reduceIte]
   .unfold rowC
    by_cases e:(yhj S S.N 0 q).length=0
    .simp only[e,SimL,yct,srcS,go_sem,↓reduceIte];exact ybee
    .simp only[e,yit,rowB,SimL,yct,srcS,go_sem,zA,↓reduceIte];exact Sim.refl _
end Sh
end
section
namespace Sh
open Ev Go.RowKit
theorem Ct.fnd{P:Program}{g:FuncId}{args:List SV}{f:Type}{R:SV->f->Prop}{V:f->SV}{Q:SV->Prop}(h:Ct P g args fun r=>∃x,R r x)(n:∀r x,R r x->Sim r (V x))(l:∀r x,R r x->Q (V x)):Ct P g args Q:=fun G m p i j k=>by
 obtain⟨v,o,r,a,b,c,⟨x,d⟩,e⟩:=h G m p i j k;exact⟨v,o,V x,a,b,c,l r x d,n r x d _ _ _ e⟩
def natO(L:List Nat):Fam:=.one (some ⟨3,false,1,L.length,fun i=>[.i .i64 ((L.getD i 0:Nat):Int)]⟩)
theorem ybph(L:List Nat)(x:Nat){i:Nat}(a:i<L.length+1):(if i<L.length then[SV.i .i64 ((L.getD i 0:Nat):Int)]else zDC 1 (zDD ((i-L.length)*1) [SV.i .i64 (x:Int)]))=[SV.i .i64 (((L++[x]).getD i 0:Nat):Int)]:=by
 by_cases q:i<L.length
 .rw[if_pos q];simp[zX,zZ q]
 .obtain rfl:i=L.length:=by omega
  rw[if_neg q,zBT];simp[zX]
structure OrdL(S:Spc)(lg:Nat->Bool)(L:List Nat):Prop where
 lt:∀x∈L,x<S.N
 len:L.length=S.N
 all:∀k,k<S.N->k∈L
structure _root_.Go.Proofs.YthclbjjgfcgbgaaGreatDoor.Spc.free(S:Spc)(lg:Nat->Bool):Prop where
 ne:∀k,k<S.N->lg k=false->S.arcs k≠[]
 cyc:∀f m,Back S.N S.arcs f m->False
def yok(lg:Nat->Bool)(k:Nat):List Nat:=(zL k).filter lg
theorem ycgs(lg:Nat->Bool)(k:Nat):yok lg (k+1)=yok lg k++if lg k=true then[k]else[]:=by
 unfold yok;rw[zCE,zAB];congr 1;cases h:lg k<;>simp[h]
theorem ybpr(lg:Nat->Bool)(k:Nat):(yok lg k).length<=k:=by
 have:=zBJ lg (zL k);unfold yok
 simpa using this
theorem ycpf{lg:Nat->Bool}{n k:Nat}(hk:k<n):k∈yok lg n↔lg k=true:=by
 unfold yok;rw[zCF,zCH];exact⟨fun h=>h.2,fun h=>⟨hk,h⟩⟩
theorem ydjd(lg:Nat->Bool)(n:Nat):(yok lg n).Nodup:=List.Pairwise.filter _ zBZ
theorem ydlf(lg:Nat->Bool)(n:Nat):∀x∈yok lg n,x<n:=fun x h=>List.mem_range.1 (List.mem_filter.1 h).1
theorem ygd{h:Nm->Nm}{a:List Nat}{b O:Own}{X:List SV}{k:IntKind}{x:Int}(e:X=[.i k x]):telL h a [] b O X [.i k x]:=by
 subst e;exact⟨.inl ⟨(yir _ _ _).2 trivial,by rw[yew];exact Sim.refl _,rfl⟩,rfl,trivial⟩
set_option maxHeartbeats 1000000 in
theorem ybpy{S:Spc}(h:S.ok){lg:Nat->Bool}(F:S.free lg):Ct zF 135 [.ag (spcC S),ybd S.N lg] fun r=>∃L,Sim r (yct L)/\OrdL S lg L:=by
 refine ydqh _ _ ?_;have M:=h.le;have D:=ybor h;simp only[spcC,ybl,yct]at D;simp only[c135,yddc,ycvg,ycwa,spcC,ybl,ybd,clash,go_sem,zA,zB,zC];refine ybf (σ:=Nat) (fun k=>⟨[(15,.i .i64 k),(14,.i .i64 (S.N:Nat)),(13,ybd S.N lg),(1,ybd S.N lg),(2,.pt (2,0) 0 0),(5,.os (70,0) 0 (yok lg k).length true)],[(2,spcO S),(70,natO (yok lg k))]⟩) (fun k=>k<=S.N) (fun k=>S.N-k) 0 (zM _) ?_ ?_
 .refine yby [] [70] [] ?_;simp only[spcO,spcC,ybl,ybd,natO,show yok lg 0=[]from rfl,wk,go_sem,zA,zC,Nat.reduceBEq]
  exact⟨(70,0),rfl,rfl,rfl⟩
 .intro k hk
  by_cases b:k<S.N
  .have d1:=dec_lt b;have s:=ybpr lg k;have f:=ycgs lg k;obtain⟨L,w⟩:∃L,yok lg k=L:=⟨_,rfl⟩;obtain⟨P,p⟩:∃L,yok lg (k+1)=L:=⟨_,rfl⟩;rw[w]at s;rw[w,p]at f;cases l:lg k with
   | true =>
     rw[l,if_pos rfl]at f;simp only[ybqj,ybyb,yccn,ycin,ycfz,ybd,natO,w,d1,l,clash,go_sem,zA,zB,zQ,zC]
     repeat refine ybe ?_
     refine ycg (k+1) ?_;refine yby [(70,fun i=>(24,i))] [] [] ?_;simp only[spcO,spcC,ybl,p,f,zI,wk,go_sem,zA,zC];exact⟨by omega,fun i m=>ygd (ybph L k m)⟩
   | false =>
     rw[l,if_neg (by decide),zAQ]at f
     simp only[ybqj,ybyb,yccn,ycin,ycfz,ybd,natO,w,d1,l,clash,go_sem,zA,zB]
     repeat refine ybe ?_
     refine ycg (k+1) ?_;refine yx ?_;simp only[spcO,spcC,ybl,p,f,wk,go_sem,zA,zC];omega
  .obtain rfl:k=S.N:=by omega
   simp only[ybqj,ydhg,natO,spcO,spcC,ybl,ybd,zK,go_sem,zA,zB];have v:OrdI S lg (yok lg S.N) 0 0 fun _=>0:=OrdI.start (ydjd _ _) (ydlf _ _) fun k hk=>ycpf hk;have s:=ybpr lg S.N
   generalize yok lg S.N=L0 at v s
   refine D.use ?_;simp only[ybk,ycvj,ycbu,clash,go_sem,zA,zB,zC]
   repeat refine ybe ?_
   refine ybf (σ:=Nat×List Nat×(Nat->Nat)) (fun x=>⟨[(10,.i .i64 x.1),(5,.os (70,0) 0 x.2.1.length true),(9,.os (30,0) 0 S.N true),(8,.sl 1 S.N fun j=>[yct (srcS S j)]),(1,ybd S.N lg),(2,.pt (2,0) 0 0)],
    [(2,spcO S),(70,natO x.2.1),(30,.one (some ⟨3,false,1,S.N,fun k=>[.i .i64 (x.2.2 k:Nat)]⟩))]⟩) (fun x=>OrdI S lg x.2.1 x.1 0 x.2.2) (fun x=>S.N+1-x.1) (0,L0,fun _=>0) v ?_ ?_
   .refine yx ?_;simp only[spcO,spcC,ybl,ybd,natO,yct,wk,go_sem,zA,zC]
   .rintro⟨i,L,E⟩ e;simp only at e ⊢;have u:=e.len;have J:=e.hi
    by_cases b:i<L.length
    .have d1 := dec_lt b;obtain⟨x,g⟩:∃x,L.getD i 0=x:=⟨_,rfl⟩;have O:x<S.N:=by rw[<-g,getD_at b];exact e.lt _ (zJ _)
     have B:=yya h (k:=S.N) (i:=0) (by omega) (by omega) (by omega) x
     change (srcS S x).length<=262144 at B
     simp only[ybnd,ycao,ychu,natO,yct,ybd,d1,g,clash,go_sem,zA,zB]
     repeat refine ybe ?_
     refine ybf (σ:=Nat×List Nat×(Nat->Nat)) (fun y=>⟨[(45,.i .i64 y.1),(44,.i .i64 ((srcS S x).length:Nat)),(43,yct (srcS S x)),(10,.i .i64 i),(5,.os (70,0) 0 y.2.1.length true),(9,.os (30,0) 0 S.N true),(8,.sl 1 S.N fun j=>[yct (srcS S j)]),(1,ybd S.N lg),(2,.pt (2,0) 0 0)],
      [(2,spcO S),(70,natO y.2.1),(30,.one (some ⟨3,false,1,S.N,fun k=>[.i .i64 (y.2.2 k:Nat)]⟩))]⟩) (fun y=>OrdI S lg y.2.1 i y.1 y.2.2/\i<y.2.1.length/\y.2.1.getD i 0=x/\y.1<=(srcS S x).length) (fun y=>(srcS S x).length-y.1) (0,L,E) ⟨e,b,g,zM _⟩ ?_ ?_
     .refine yx ?_;simp only[spcO,spcC,ybl,ybd,natO,yct,wk,go_sem,zA,zC]
     .rintro⟨j,L,E⟩ ⟨e,b,g,K⟩;simp only at e b g K ⊢;have u:=e.len
      by_cases c:j<(srcS S x).length
      .have d2:=dec_lt c;obtain⟨k,hk⟩:∃k,(srcS S x).getD j 0=k:=⟨_,rfl⟩;have hkN:k<S.N:=by rw[<-hk,getD_at c];exact ycma (.inr ⟨rfl,zAG _⟩) _ (zJ _)
       have I:=h.len hkN;obtain⟨G,d⟩:=e.step b (by rw[g];exact c) (by rw[g];exact hk) hkN
       simp only at d;obtain⟨z,t⟩:∃z,(fun q=>if q=k then E k+1 else E q)=z:=⟨_,rfl⟩
       have o:∀(i:Nat),i<S.N->(if i=k then[SV.i .i64 ((E k:Int)+1)]else[SV.i .i64 (E i:Int)])=[SV.i .i64 (z i:Int)]:=fun i _=>by
        rw[<-t]
        by_cases q:i=k
        .simp only[if_pos q];rfl
        .simp only[if_neg q]
       rw[t]at d;cases l:lg k with
       | true =>
         rw[l,if_neg (fun q=>by cases q.1)]at d
         simp only[yxw,ybfj,ybej,ybdg,ybel,natO,yct,ybd,spcO,spcC,ybl,d2,hk,l,clash,go_sem,zA,zB]
         repeat refine ybe ?_
         refine yj (j+1,L,_) ⟨d,b,g,c⟩ (by show _-(j+1)<_-j;omega) ?_
         refine yx ?_;simp only[wk,go_sem,zA,zC];exact⟨by omega,fun i m=>ygd (o i m)⟩
       | false =>
         by_cases C:E k+1=(S.arcs k).length
         .rw[if_pos ⟨l,C⟩]at d;have d3:(((E k:Int)+1)==((S.arcs k).length:Int))=true:=by rw[beq_iff_eq];omega
          simp only[yxw,ybfj,ybej,ybdg,ycib,ybel,natO,yct,ybd,spcO,spcC,ybl,d2,d3,hk,l,clash,go_sem,zA,zB,zQ,zC]
          repeat refine ybe ?_
          refine yj (j+1,L++[k],_) ⟨d,by show i<(L++[k]).length;rw[zI];omega,by show(L++[k]).getD i 0=x;rw[<-g];simp only[zX,zZ b],c⟩ (by show _-(j+1)<_-j;omega) ?_
          refine yby [(70,fun i=>(76,i))] [] [] ?_;simp only[zI,wk,go_sem,zA,zC];exact⟨by omega,fun i m=>ygd (ybph L k m),fun i m=>ygd (o i m)⟩
         .rw[if_neg (fun q=>C q.2)]at d;have d3:(((E k:Int)+1)==((S.arcs k).length:Int))=false:=by rw[beq_eq_false_iff_ne];omega
          simp only[yxw,ybfj,ybej,ybdg,ybel,natO,yct,ybd,spcO,spcC,ybl,d2,d3,hk,l,clash,go_sem,zA,zB]
          repeat refine ybe ?_
          refine yj (j+1,L,_) ⟨d,b,g,c⟩ (by show _-(j+1)<_-j;omega) ?_
          refine yx ?_;simp only[wk,go_sem,zA,zC];exact⟨by omega,fun i m=>ygd (o i m)⟩
      .obtain rfl:j=(srcS S x).length:=by omega
       have A:=e.next b (by rw[g])
       simp only[yxw,natO,yct,ybd,spcO,spcC,ybl,zK,clash,go_sem,zA,zB]
       repeat refine ybe ?_
       refine yj (i+1,L,E) A (by show S.N+1-(i+1)<S.N+1-i;omega) ?_
       refine yx ?_;simp only[wk,go_sem,zA,zC];omega
    .obtain rfl:i=L.length:=by omega
     have n:=e.all (fun k hk a H=>h.mem hk H) F.ne F.cyc;simp only[ybnd,yckm,natO,zK,go_sem,zA,zB];exact⟨L,Sim.refl _,e.lt,Nat.le_antisymm u (ydkm n),n⟩
def allO(n:Nat)(b:Bool):Fam:=.one (some ⟨4,false,1,n,fun _=>[.b b]⟩)
theorem ycke{h:Nm->Nm}{a:List Nat}{c O:Own}{X:List SV}{x:Bool}(e:X=[.b x]):telL h a [] c O X [.b x]:=by
 subst e;exact⟨.inl ⟨(yir _ _ _).2 trivial,by rw[yew];exact Sim.refl _,rfl⟩,rfl,trivial⟩
set_option maxHeartbeats 1000000 in
theorem ybhq{S:Spc}(h:S.ok){lg:Nat->Bool}(p:S.free lg):Cm zF 72 [] [] [.ag (spcC S),ybd S.N lg] fun r o=>r = .tp [.os (1,0) 0 S.N true,.i .i64 0]/\o=[(1,allO S.N true)]:=by
 refine ydnj [] [] _ _ _ ?_;have s:=h.le;have g:=ysb h lg;have j:=ybpy h p;simp only[spcC,ybl,ybd]at g j;simp only[c72,ydtb,ydzw,spcC,ybl,ybd,clash,go_sem,zA,zB,zC];refine g.use ?_;simp only[ybk,yebj,ydyi,ydqm,clash,zAK,go_sem,zA,zB,zC]
 repeat refine ybe ?_
 refine j.fnd (V:=yct) (fun r L h=>h.1) fun r L n=>?_;obtain⟨-,d,m,c⟩:=n;simp only[yct,go_sem]
 let mk:Nat->Nat->Bool:=fun i k=>decide (k∈L.take i)
 refine ybf (σ:=Nat) (fun i=>⟨[(23,.i .i64 i),(22,.i .i64 (L.length:Nat)),(21,yct L),(7,.os (18,0) 0 S.N true)],[(18,.one (some ⟨4,false,1,S.N,fun k=>[.b (mk i k)]⟩))]⟩) (fun i=>i<=L.length) (fun i=>L.length-i) 0 (zM _) ?_ ?_
 .refine yx ?_;simp only[yct,mk,wk,go_sem,zA,zC]
 .intro i l
  by_cases a:i<L.length
  .have d1:=dec_lt a;obtain⟨k,hk⟩:∃k,L.getD i 0=k:=⟨_,rfl⟩;have hkN:k<S.N:=by rw[<-hk,getD_at a];exact d _ (zJ _)
   have f:∀q,mk (i+1) q=if q=k then true else mk i q:=fun q=>by
    show decide (q∈L.take (i+1))=if q=k then true else decide (q∈L.take i)
    rw[yhc 0 a,hk]
    by_cases e:q=k
    .simp[e]
    .simp[e]
   simp only[ydns,ydwu,ydvq,ydww,yct,d1,hk,clash,go_sem,zA,zB]
   repeat refine ybe ?_
   refine ycg (i+1) ?_;refine yx ?_;simp only[f,wk,go_sem,zA,zC];refine⟨by omega,fun q _=>ycke ?_⟩
   by_cases e:q=k
   .rw[if_pos e,if_pos e]
   .rw[if_neg e,if_neg e]
  .obtain rfl:i=L.length:=by omega
   simp only[ydns,ycth,yct,zK,yhs,go_sem,zA,zB];refine⟨.tp [.os (1,0) 0 S.N true,.i .i64 0],[(1,allO S.N true)],?_,?_,rfl,rfl⟩
   .refine ybo [(1,fun i=>(18,i))] [] [] ?_;simp only[allO,mk,zN,wk,go_sem,zC];exact fun i l=>c i l
   .simp only[allO,ycp,yfq,wk,go_sem]
set_option maxHeartbeats 1000000 in
theorem ycni{S:Spc}(h:S.ok){lg:Nat->Bool}(d:S.free lg):Returns zF 17 [.ag (spcC S),ybd S.N lg] (.tp [ybd S.N fun _=>false,.i .i64 0]):=by
 refine Returns.of (ydlw [72] _ _ ?_);have f:=h.le;have c:=ybhq h d;simp only[spcC,ybl,ybd]at c;simp only[c17,ydxg,ydso,spcC,ybl,ybd,clash,go_sem,zA,zB,zC,↓reduceIte,reduceCtorEq];refine yfb c [] 50 [] [] ?_ ?_
 .simp only[go_sem,to1,okN,ycp,yfq,yeq,yeg,wk,go_sem,zB,↓reduceIte,reduceCtorEq]
 rintro r j ⟨rfl,rfl⟩;simp only[allO,ypd,ymp,nuF,nu,difN,yeq,yeg,Fam.ren,OB.ren,dim,yil,ycgc,yqz,ykn,go_sem,zA,zB,↓reduceIte,reduceCtorEq];simp only[ydru,ydrf,clash,zAK,go_sem,zA,zB,↓reduceIte];refine ybf (σ:=Nat) (fun i=>⟨[(20,.i .i64 i),(19,.i .i64 (S.N:Nat)),(6,.os (51,0) 0 S.N true)],[(51,.one (some ⟨4,false,1,S.N,fun k=>[.b (!decide (k<i))]⟩))]⟩) (fun i=>i<=S.N) (fun i=>S.N-i) 0 (zM _) ?_ ?_
 .refine yx ?_;simp only[go_sem,wk,go_sem,zA,zC,↓reduceIte,reduceCtorEq];exact fun i _=>by simp
 .intro i g
  by_cases a:i<S.N
  .have d1:=dec_lt a;simp only[ydmy,yeav,yecd,ydqq,d1,clash,go_sem,zA,zB,↓reduceIte,reduceCtorEq]
   repeat refine ybe ?_
   refine ycg (i+1) ?_;refine yx ?_;simp only[go_sem,wk,go_sem,zA,zC,↓reduceIte,reduceCtorEq];refine⟨by omega,fun q _=>ycke ?_⟩
   by_cases e:q=i
   .subst e;rw[if_pos rfl];simp
   .rw[if_neg e];congr 2;rw[show decide (q<i)=decide (q<i+1)from decide_eq_decide.2 (by omega)]
  .obtain rfl:i=S.N:=by omega
   simp only[ydmy,ydtm,zK,go_sem,zA,zB,↓reduceIte,reduceCtorEq];exact ybbj ⟨ybrk fun k hk=>by rw[decide_eq_true hk];rfl,Sim.refl _,trivial⟩
end Sh
end
section
namespace Sh
open Ev Go.RowKit
set_option maxHeartbeats 1000000 in
theorem ybjv{S:Spc}(h:S.ok){lg:Nat->Bool}(d:S.free lg):Ct zF 74 [.ag (spcC S),ybd S.N lg] fun r=>∃L,Sim r (.tp [yct L,.i .i64 0])/\OrdL S lg L:=by
 refine ydwe _ _ ?_;have e:=h.le;have b:=ysb h lg;have c:=ybpy h d;simp only[spcC,ybl,ybd]at b c;simp only[c74,yeew,yeek,spcC,ybl,ybd,clash,go_sem,zA,zB,zC];refine b.use ?_;simp only[ybk,ydwd,yegx,ydye,clash,zAK,go_sem,zA,zB];refine c.fnd (V:=yct) (fun r L h=>h.1) fun r L a=>?_;obtain⟨-,a⟩:=a;simp only[yefs,clash,yct,a.len,zK,go_sem,zA,zB];exact⟨L,by rw[a.len];exact Sim.refl _,a⟩
theorem ybwl{s t:Nat}(b:s<2^32):Returns zF 78 [.ag [.i .u32 (s:Nat),.i .i64 (t:Nat)]] (.i .i64 (popP s:Nat)):=by
 refine Returns.of (ydqx _ _ ?_);have a:=ybpn b;simp only[c78,ydsc,ydro,clash,go_sem,zA,zB,zQ,zC];refine a.use ?_;simp only[ybk,clash,go_sem,zA,zB];exact Sim.refl _
structure MvB(S:Spc)(lg:Nat->Bool)(B:Nat->Nat->Prop):Prop where
 zero:∀k,k<S.N->B k 0
 arc:∀k,k<S.N->lg k=false->∀i,i<(S.arcs k).length->∀x,B ((S.arcs k).getD i (0,0)).2 x->B k (popP ((S.arcs k).getD i (0,0)).1+x)
set_option maxHeartbeats 2000000 in
theorem ybms{S:Spc}(h:S.ok){lg:Nat->Bool}(M:S.free lg){B:Nat->Nat->Prop}(I:MvB S lg B) :
 Ct zF 77 [.ag (spcC S),ybd S.N lg,.fn 78 [] []] fun r=>∃f:Nat->Nat,Sim r (.tp [.sl 1 S.N fun k=>[.i .i64 (f k:Nat)],.i .i64 0])/\(∀k,k<S.N->B k (f k))/\∀k,k<S.N->f k<=1000000:=by
 refine ydxu _ _ ?_;have W:=h.le;have J:=ybjv h M;simp only[spcC,ybl,ybd]at J;simp only[c77,ydxj,ydul,spcC,ybl,ybd,clash,go_sem,zA,zB,zC];refine J.fnd (V:=fun L=>.tp [yct L,.i .i64 0]) (fun r L h=>h.1) fun r L P=>?_;obtain⟨-,G,O,K⟩:=P;simp only[ybk,yecs,yeed,yebc,clash,yct,zAK,go_sem,zA,zB,zC]
 repeat refine ybe ?_
 refine ybf (σ:=Nat×(Nat->Nat)) (fun x=>⟨[(29,.i .i64 x.1),(28,.i .i64 (L.length:Nat)),(27,yct L),(10,.os (26,0) 0 S.N true),(1,ybd S.N lg),(2,.fn 78 [] []),(3,.pt (3,0) 0 0)],
  [(3,spcO S),(26,.one (some ⟨3,false,1,S.N,fun k=>[.i .i64 (x.2 k:Nat)]⟩))]⟩) (fun x=>x.1<=L.length/\(∀k,k<S.N->B k (x.2 k))/\∀k,x.2 k<=24*x.1) (fun x=>L.length-x.1) (0,fun _=>0) ⟨zM _,I.zero,fun _=>zM _⟩ ?_ ?_
 .refine yx ?_;simp only[yct,ybd,spcO,spcC,ybl,wk,go_sem,zA,zC]
 .rintro⟨i,f⟩ ⟨F,b,c⟩;simp only at F b c ⊢
  by_cases g:i<L.length
  .have d1 := dec_lt g;obtain⟨k,hk⟩:∃k,L.getD i 0=k:=⟨_,rfl⟩;have hkN:k<S.N:=by rw[<-hk,getD_at g];exact G _ (zJ _)
   have R:=h.len hkN;cases H:lg k with
   | true =>
     simp only[yclw,ydik,ydog,ycbb,yct,ybd,d1,hk,H,clash,go_sem,zA,zB]
     repeat refine ybe ?_
     refine yj (i+1,f) ⟨g,b,fun q=>by have:=c q;show f q<=24*(i+1);omega⟩ (by show _-(i+1)<_-i;omega) ?_
     refine yx ?_;simp only[spcO,spcC,ybl,wk,go_sem,zA,zC];omega
   | false =>
     simp only[yclw,ydik,ydog,ydyj,yct,ybd,spcO,spcC,ybl,d1,hk,H,clash,go_sem,zA,zB]
     repeat refine ybe ?_
     refine ybf (σ:=Nat×(Nat->Nat)) (fun y=>⟨[(43,.i .i64 y.1),(42,.i .i64 ((S.arcs k).length:Nat)),(41,ybl (S.arcs k)),(12,.i .i64 k),(29,.i .i64 i),(28,.i .i64 (L.length:Nat)),(27,yct L),(10,.os (26,0) 0 S.N true),(1,ybd S.N lg),(2,.fn 78 [] []),(3,.pt (3,0) 0 0)],
      [(3,spcO S),(26,.one (some ⟨3,false,1,S.N,fun k=>[.i .i64 (y.2 k:Nat)]⟩))]⟩) (fun y=>y.1<=(S.arcs k).length/\(∀k,k<S.N->B k (y.2 k))/\(∀q,q≠k->y.2 q<=24*i)/\y.2 k<=24*(i+1)) (fun y=>(S.arcs k).length-y.1) (0,f) ⟨zM _,b,fun q _=>c q,by have:=c k;show f k<=24*(i+1);omega⟩ ?_ ?_
     .refine yx ?_;simp only[yct,ybd,spcO,spcC,ybl,wk,go_sem,zA,zC]
     .rintro⟨j,f⟩ ⟨U,b,c,C⟩;simp only at U b c C ⊢
      by_cases d:j<(S.arcs k).length
      .have d2:=dec_lt d;have w:=h.to k hkN j d;have m:=(h.sub k hkN j d).1;have l:=I.arc k hkN H j d;have u:((S.arcs k).getD j (0,0)).2≠k:=fun e=>M.cyc (fun _=>k) 1 ⟨by omega,fun _=>rfl,fun _=>hkN,fun _=>⟨_,by rw[getD_at d];exact zJ _,e⟩⟩
       obtain⟨⟨a,t⟩,z⟩:∃p,(S.arcs k).getD j (0,0)=p:=⟨_,rfl⟩;rw[z]at w m l u;simp only at w m l u;have Q:=ybwl (s:=a) (t:=t) (by omega)
       have X:=ydjm a m;have T:=c t u;obtain⟨n,A⟩:∃n:Nat->Nat,(fun q=>if q=k then max (f k) (popP a+f t)else f q)=n:=⟨_,rfl⟩
       have o:n k=max (f k) (popP a+f t):=by rw[<-A];simp
       have v:∀q,q≠k->n q=f q:=fun q e=>by rw[<-A];simp[e]
       have E:∀(i:Nat),i<S.N->(if i=k then[SV.i .i64 (max (f k:Int) ((popP a:Int)+(f t:Int)))]else[SV.i .i64 (f i:Int)])=[SV.i .i64 (n i:Int)]:=fun i _=>by
        by_cases q:i=k
        .subst q;rw[if_pos rfl,o];congr 2;omega
        .rw[if_neg q,v i q]
       simp only[ycfj,ydgk,yddw,ycxm,yct,ybd,spcO,spcC,ybl,d2,z,clash,go_sem,zA,zB,zC]
       repeat refine ybe ?_
       refine Q.use ?_;simp only[ybk,clash,go_sem,zA,zB]
       repeat refine ybe ?_
       refine yj (j+1,n) ⟨d,fun q D=>?_,fun q e=>by show n q<=_;rw[v q e];exact c q e,by show n k<=_;rw[o];omega⟩ (by show _-(j+1)<_-j;omega) ?_
       .show B q (n q)
        by_cases e:q=k
        .subst e;rw[o];rcases Nat.le_total (f q) (popP a+f t)with r|r
         .rw[Nat.max_eq_right r];exact l _ (b t w)
         .rw[Nat.max_eq_left r];exact b q D
        .rw[v q e];exact b q D
       refine yx ?_;simp only[wk,go_sem,zA,zC];exact⟨by omega,fun i F=>ygd (E i F)⟩
      .obtain rfl:j=(S.arcs k).length:=by omega
       simp only[ycfj,ycbb,yct,ybd,spcO,spcC,ybl,zK,clash,go_sem,zA,zB]
       repeat refine ybe ?_
       refine yj (i+1,f) ⟨g,b,fun q=>?_⟩ (by show _-(i+1)<_-i;omega) ?_
       .show f q<=24*(i+1)
        by_cases e:q=k
        .rw[e];exact C
        .have:=c q e;omega
       refine yx ?_;simp only[wk,go_sem,zA,zC];omega
  .obtain rfl:i=L.length:=by omega
   simp only[yclw,yczi,yct,zK,go_sem,zA,zB];exact⟨f,Sim.refl _,b,fun k _=>by have:=c k;omega⟩
theorem ycsi{S:Spc}(h:S.ok){lg:Nat->Bool}(a:S.free lg){B:Nat->Nat->Prop}(c:MvB S lg B) :
 Ct zF 20 [.ag (spcC S),ybd S.N lg] fun r=>∃f:Nat->Nat,Sim r (.tp [.sl 1 S.N fun k=>[.i .i64 (f k:Nat)],.i .i64 0])/\(∀k,k<S.N->B k (f k))/\∀k,k<S.N->f k<=1000000:=by
 refine ydxq _ _ ?_;have b:=ybms h a c;simp only[spcC,ybl,ybd]at b;simp only[c20,ydxf,yeba,spcC,ybl,ybd,clash,go_sem,zA,zB,zC];refine b.fnd (V:=fun f:Nat->Nat=>.tp [.sl 1 S.N fun k=>[.i .i64 (f k:Nat)],.i .i64 0]) (fun r f h=>h.1) fun r f a=>?_;simp only[ybk,clash,go_sem,zA,zB];exact⟨f,Sim.refl _,a.2⟩
end Sh
end
section
def ycf(s:Nat):List Nat:=(zL 32).filter s.testBit
theorem ybjp{p q:Nat->Bool}{n t:Nat}(j:t<n)(g:p t=true)(c:∀i,i<t->p i=false)(b:∀i,q i=(p i && !decide (i=t))):(zL n).filter p=t::(zL n).filter q:=by
 obtain⟨d,rfl⟩:∃d,n=t+(d+1):=⟨n-t-1,by omega⟩
 rw[List.range_add,zAB,zAB,List.range_succ_eq_map];have e:(zL t).filter p=[]:=List.filter_eq_nil_iff.2 fun x a=>by rw[c x (List.mem_range.1 a)];simp
 have f:(zL t).filter q=[]:=List.filter_eq_nil_iff.2 fun x a=>by rw[b,c x (List.mem_range.1 a)];simp
 rw[e,f,List.map_cons,zBF,zBF,zBP,List.filter_cons_of_pos g,List.filter_cons_of_neg (by rw[b];simp)]
 congr 1;refine List.filter_congr fun x a=>?_;obtain⟨y,h,rfl⟩:=List.mem_map.1 a;obtain⟨z,_,rfl⟩:=List.mem_map.1 h;rw[b];have:decide (t+z.succ=t)=false:=decide_eq_false (by omega)
 rw[this];simp
theorem ycqy{x:Nat}(l:x≠0)(h:x<2^32):zAL 32 x<32/\x.testBit (zAL 32 x)=true/\(∀i,i<zAL 32 x->x.testBit i=false)/\∀i,(x&&&(x-1)).testBit i=(x.testBit i && !decide (i=zAL 32 x)):=by
 obtain⟨m,c,hk⟩:=Lib.ctzFrom_spec 32 x (by omega) h
 have e:zAL 32 x=zDA 32 x:=by simp[zAL,l]
 rw[e];obtain⟨k,b⟩:∃k,zDA 32 x=k:=⟨_,rfl⟩;rw[b]at c hk ⊢;have p:0<2^k:=Nat.two_pow_pos k
 have a:∀j,x.testBit j=if j<k then false else(2*m+1).testBit (j-k):=fun j=>by
  have:=zAT (2*m+1) p j;rw[zBP,<-c]at this;rw[this];simp
 have g:x-1=2^k*(2*m)+(2^k-1):=by
  have:2^k*(2*m+1)=2^k*(2*m)+2^k:=by rw[Nat.mul_add,zBX]
  omega
 have f:∀j,(x-1).testBit j=if j<k then(2^k-1).testBit j else(2*m).testBit (j-k):=fun j=>by
  rw[g];exact zAT (2*m) (show 2^k-1<2^k by omega) j
 refine⟨hk,by rw[a,if_neg (by omega),zBT];simp,fun i n=>by rw[a,if_pos n],fun i=>?_⟩
 rw[Nat.testBit_and,a,f]
 by_cases q:i<k
 .rw[if_pos q];simp
 .rw[if_neg q,if_neg q]
  by_cases d:i=k
  .subst d;simp
  .obtain⟨j,o⟩:∃j,i-k=j+1:=⟨i-k-1,by omega⟩
   rw[o,zCB,zCB,show(2*m+1)/2=m by omega,show 2*m/2=m by omega]
   simp[d]
theorem ysm:ycf 0=[]:=List.filter_eq_nil_iff.2 fun x _=>by simp
theorem ysv{x:Nat}(a:x≠0)(h:x<2^32):ycf x=zAL 32 x::ycf (x&&&(x-1)):=by
 obtain⟨b,c,d,e⟩:=ycqy a h;exact ybjp b c d e
def yei(s:Nat):Nat->Nat
 |0=>s
 |k+1=>yei s k&&&(yei s k-1)
theorem yqn{s:Nat}(h:s<2^32):∀k,yei s k<2^32
 |0=>h
 |k+1=>Nat.lt_of_le_of_lt Nat.and_le_left (yqn h k)
theorem ysa{s:Nat}(h:s<2^32):∀k,ycf (yei s k)=(ycf s).drop k
 |0=>by simp[yei]
 | k + 1=>by
   have a:=ysa h k;show ycf (yei s k&&&(yei s k-1))=_
   by_cases b:yei s k=0
   .rw[b,ysm]at a;rw[b,Nat.zero_and,ysm,<-zCI,<-a];rfl
   .rw[ysv b (yqn h k)]at a;rw[<-zCI,<-a];rfl
theorem rest_end{s k:Nat}(h:s<2^32)(hk:k<=(ycf s).length):yei s k=0↔k=(ycf s).length:=by
 have a:=ysa h k;constructor
 .intro e;rw[e,ysm]at a;have:=congrArg List.length a;rw[List.length_drop,zCG]at this;omega
 .intro e;rw[e,List.drop_length]at a;refine zD fun q=>?_;rw[<-e]at a;rw[ysv q (yqn h k)]at a;cases a
theorem ydpf{s k:Nat}(h:s<2^32)(hk:k<(ycf s).length):yei s k≠0/\zAL 32 (yei s k)=(ycf s).getD k 0:=by
 have a:yei s k≠0:=fun e=>by have:=(rest_end h (Nat.le_of_lt hk)).1 e;omega
 refine⟨a,?_⟩;have b:=ysa h k;rw[ysv a (yqn h k),List.drop_eq_getElem_cons hk]at b;have:=(List.cons.inj b).1;rw[this,zAV,zO hk];rfl
theorem ybyf{s v:Nat}:v∈ycf s↔v<32/\s.testBit v=true:=by
 unfold ycf;rw[zCF,zCH]
end
section
open Go.RowKit
theorem ydxr(x a:Nat)(g:x<4294967296)(f:x≠0)(c:x&&&(4294967296-x)=a) :
 bits BinOp.and IntKind.u32 (x:Int) (-(x:Int)%4294967296)*125613361%4294967296/134217728=((a*125613361%4294967296/134217728:Nat):Int):=by
 have d:-(x:Int)%4294967296=((4294967296-x:Nat):Int):=by omega
 have e:bits BinOp.and IntKind.u32 (x:Int) ((4294967296-x:Nat):Int)=((x&&&(4294967296-x):Nat):Int):=u32_and (a:=x) (b:=4294967296-x) (by omega) (by omega)
 rw[d,e,c];omega
set_option maxHeartbeats 1000000 in
theorem ydot (x k idx:Nat) (w:World) (b:((x:Int)==0)=false) (key:bits BinOp.and IntKind.u32 (x:Int) (-(x:Int)%4294967296)*125613361%4294967296/134217728=(idx:Int))
 (d:idx<32) (hk:k<32) (a:w.cell? ⟨0,idx,none⟩=some (.int .u8 k)) :
 Calls zF 173 #[.int .u32 x] w fun e c=>e = .returned (.int .i64 k)/\c=w:=by
 go_enter zCS,zCL
 go_wp2_with (simp only[key])
 go_ret
 exact⟨rfl,rfl⟩
theorem ydjv(w:World):Calls zF 173 #[.int .u32 0] w fun e a=>e = .returned (.int .i64 32)/\a=w:=by
 go_enter zCS,zCL
 go_wp2
 go_ret
 exact⟨rfl,rfl⟩
theorem yeex{w:World}{x:Nat}(k:x<2^32)(f:∃e h,w.heap[0]?=some (.cells Ev.ybjc.toArray e h)) :
 Calls zF 173 #[.int .u32 x] w fun e m=>e = .returned (.int .i64 (zAL 32 x))/\m=w:=by
 by_cases a:x=0
 .subst a;exact ydjv w
 .obtain⟨b,hk⟩:=Lib.lowest_bit 32 x a k;obtain⟨i,c⟩:=Lib.deBruijn32_at _ hk;obtain⟨e,h,f⟩:=f;refine ydot x _ _ w (by simp;omega) (ydxr x _ k a b) i hk ?_
  have d:∀j,j<32->([0,1,28,2,29,14,24,3,30,22,20,15,25,17,4,8,31,27,13,23,21,19,16,7,26,12,18,6,11,5,10,9]:List Int)[j]?=some ((Lib.deBruijn32tab.getD j 0:Nat):Int):=by decide +kernel
  have g:∀j,j<32->Ev.ybjc[j]?=some (.int .u8 (Lib.deBruijn32tab.getD j 0:Nat)):=fun j l=>by
   unfold Ev.ybjc;rw[List.getElem?_map,d j l];rfl
  rw[World.cell?,f];have:=g _ i;rw[c]at this
  simpa using this
namespace Sh
open Ev
end Sh
end
section
namespace Sh
open Go Ev Go.RowKit
section
variable {m:Mem}{F:AM}
theorem row_of{z c p n cp N e u:Nat}{Tb:Ev.T Value}{L:Nat->List Value}(q:m.b.get c=some (.cells Tb N e u))(v:0<n)(r:p+n*z<=N)(f:∀a,a<n->(L a).length=z)(s:∀a,a<n->∀j,j<z->Tb.get (p+a*z+j)=(L a)[j]?) :
 rowOf m z (.slice (some ⟨c,p,none⟩) n cp)=some (ycx L n,[c]):=by
 have i:=ydj f;show(bif zDF n 0 then _ else _)=_;rw[show zDF n 0=false by cases n with|zero=>omega|succ n=>rfl]
 simp only[cond_false];rw[q];simp only;rw[zAM r];simp only[cond_true]
 have g:=yiq (T:=Tb) (L:=ycx L n) (o:=p) (fun j h=>by
  rw[i]at h;rcases zBU z with d|d
  .subst d;omega
  .have t:=zCD j z;have k:=zCC j d;have hk:j/z<n:=Nat.div_lt_of_lt_mul (by rwa [zU]at h)
   have l:j=j/z*z+j%z:=by rw[zU];exact t.symm
   rw[l,yhn f _ _ hk k,<-zCK];exact s _ hk _ k)
 rw[i]at g;rw[g]
theorem row_zero{u:Value}(h:Z0 u)(z:Nat):rowOf m z u=some ([],[]):=by
 rcases h with rfl|⟨b,o,c,rfl⟩
 .rfl
 .rfl
theorem in64{n:Int}(h:I64 n):yzs n=true:=by
 unfold I64 at h;unfold yzs;split
 .rename_i k;exact zAM (by simp only[Int.ofNat_eq_natCast]at h;omega)
 .rename_i k;exact zAM (by omega)
theorem ytv{a b:Int}(c:I64 a)(d:I64 b):∀{l:List Value}{r:List (Int×Int)},yjr l=some r->yjr (l++[.int .i64 a,.int .i64 b])=some (r++[(a,b)])
 | [],r,h=>by
   cases h
   show(bif yzs a&&yzs b then _ else _)=_;rw[in64 c,in64 d];rfl
 | .int .i64 x :: .int .i64 y::l,r,h=>by
   unfold yjr at h;split at h
   .rename_i g f
    rw[Bool.cond_eq_ite]at h;split at h
    .rename_i e
     cases h
     show(match yjr (l++[.int .i64 a,.int .i64 b])with|some r=>bif yzs x&&yzs y then some ((x,y)::r)else none|none=>none)=_
     rw[ytv c d f];simp only[e,cond_true];rfl
    .cases h
   .cases h
theorem ybui(s:Le F m.b.get){ls:List (Int×Int)}{u:Value}(h:RV F om0 (ybb ls) u)(t:∀l∈ls,I64 l.1/\I64 l.2):ypc m u=some ls:=by
 unfold ypc;rcases h.sl_inv with⟨c,z⟩|⟨B,p,C,T,N,e,H,L,rfl,j,D,k,o,q,r,E⟩
 .rw[row_zero z];have:ls=[]:=zY c;subst this;rfl
 .rcases zBU ls.length with c|c
  .have:ls=[]:=zY c;subst this;rfl
  .rw[row_of (s _ _ j) c k o q]
   have:∀n,n<=ls.length->yjr (ycx L n)=some (ls.take n):=by
    intro n
    induction n with
    |zero=>intro _;rfl
    | succ n A =>
      intro G;have a:n<ls.length:=by omega
      have d:=r n a
      have g:L n=[.int .i64 ls[n].1,.int .i64 ls[n].2]:=by
       have f:ls.getD n (0,0)=ls[n]:=by simp[zX,a]
       rw[f]at d;obtain⟨x,y,i,v,w⟩:=rvl2 d;rw[i,v.int_inv,w.int_inv]
      show yjr (ycx L n++L n)=_;rw[g,zAA a];have:=t ls[n] (zJ a);exact ytv this.1 this.2 (A (by omega))
   simp only;rw[this _ (zAG _),zN]
theorem ycfn{L:Nat->List Value}{n:Nat}(h:∀a,a<n->(L a).length=1){k:Nat}(hk:k<n):(ycx L n)[k]?=(L k)[0]?:=by
 have:=yhn h k 0 hk (by omega)
 simpa using this
end
end Sh
end
section
namespace Ev
open Go Go.RowKit
theorem ybqu(v:Value):(T.sets .leaf 0 [v]).get 0=some v:=ybys (l:=[v]) (j:=0) (by simp)
noncomputable def ybcg(x:Nat):ABlk:=.cells (T.sets .leaf 0 [.int .u32 x]) 1 77 0
def setAt(b x:Nat)(m:Mem):Prop:=∃c,m.b.get b=some (.cells c 1 77 0)/\c.get 0=some (.int .u32 x)
section
variable {φ:Phi}{M:AM}{w:World}{m:Mem}{b x y:Nat}
theorem ybdc(h:setAt b x m)(q:Rel φ M w)(r:Sub m M):∃l a,φ b=some l/\l.sz=0/\l.base+1<=l.size/\l.ob=none/\w.heap[l.blk]?=some (.cells a 77 (0,0))/\a.size=l.size/\a[l.base]?=some (.int .u32 x):=by
 obtain⟨c,o,p⟩:=h;obtain⟨l,a,A,B,d,f,g,i,j,k,n⟩:=q.cellsAt (r _ _ o);obtain⟨u,v,z⟩:=i (by decide)
 subst u v;obtain⟨C,s,t⟩:=n 0 _ (by omega) p
 have e:=t.eq_simple rfl;subst e;exact⟨l,a.toArray,d,f,g,z,j,by simpa using k,by simpa using s⟩
theorem ydoz(h:setAt b x m)(i:Rel φ M w)(p:Sub m M){l:Loc}(k:φ b=some l) :
 Rel φ (upd M b (some (ybcg y))) (w.setCell ⟨l.blk,l.base,none⟩ (.int .u32 y))/\WG φ M w φ (upd M b (some (ybcg y))) (w.setCell ⟨l.blk,l.base,none⟩ (.int .u32 y)):=by
 obtain⟨B,a,e,r,s,f,g,t,z⟩:=ybdc h i p;rw[k]at e;cases e
 obtain⟨c,u,_⟩:=h;rw[setCell_eq_setRow w l.blk l.base a _ _ _ g];refine i.setRow (p _ _ u) k ⟨r,s,(a.setIfInBounds l.base (.int .u32 y)).toList,77,(0,0),⟨fun _=>⟨rfl,rfl,f⟩,fun o n=>(by rw[f]at n;cases n)⟩,?_,by simpa using t,fun j v A q=>?_⟩
 .rw[Array.toArray_toList];exact setRow_heap w _ _ _ _ _ g
 .obtain rfl:j=0:=by omega
  rw[ybqu]at q;cases q
  refine⟨.int .u32 y,?_,.simple rfl⟩;have d:l.base<a.size:=by omega
  simp[d]
end
noncomputable def ytz(b y:Nat)(m:Mem):Mem:=m.app (.upd b (ybcg y))
theorem ybtr(b y:Nat)(m:Mem)(i:Nat):(ytz b y m).b.get i=if i=b then some (ybcg y)else m.b.get i:=by
 unfold ytz;rw[Sh.ybff];exact T.set_at _ _ _ _
noncomputable def ycvr(b s:Nat):It where
 n:=(ycf s).length
 el:=fun k=>[.int .i64 ((ycf s).getD k 0:Nat)]
 pre:=fun k m=>setAt b (yei s k) m
 adv:=fun k m=>ytz b (yei s (k+1)) m
 step:=fun k φ M w M' w'=>∃l,φ b=some l/\M'=upd M b (some (ybcg (yei s (k+1))))/\w'=w.setCell ⟨l.blk,l.base,none⟩ (.int .u32 (yei s (k+1):Nat))
theorem ydor{a:Nat}(d:a≠0)(h:a<2^32):bits BinOp.and IntKind.u32 (a:Int) (IntKind.wrap .u32 ((a:Int)-1))=((a&&&(a-1):Nat):Int):=by
 have e:IntKind.wrap .u32 ((a:Int)-1)=((a-1:Nat):Int):=by
  have c:(a:Int)-1=((a-1:Nat):Int):=by omega
  rw[c];exact ynz (by omega)
 rw[e];exact u32_and (a:=a) (b:=a-1) h (by omega)
set_option maxRecDepth 100000 in
set_option maxHeartbeats 2000000 in
theorem ycrt{b s:Nat}(r:s<2^32):ItOk zF 172 [.pointer (some ⟨b,0,none⟩)] (ycvr b s):=by
 refine⟨fun V w=>ycc yur zCT rfl V w,fun k m hk hw hp=>?_,?_,?_⟩
 .obtain⟨c,h1,_⟩:=hp;have hb:=hw _ _ h1;show Grow m (ytz b _ m);unfold ytz
  exact⟨ycli hw (fun i hi=>by
   have hi:i∈[b]:=hi;rw[List.mem_singleton.1 hi];exact⟨_,h1⟩),(ywy m _).1⟩
 .rintro k φ M w m U w' hk hw hR hs hp ⟨l,hl,rfl,rfl⟩;obtain⟨r1,r2⟩:=ydoz (y:=yei s (k+1)) hp hR hs hl;obtain⟨c,h1,_⟩:=hp;refine⟨φ.le_refl,fun _ _=>rfl,r1,fun i x B=>?_,fun i hi o=>?_,r2⟩
  .have B:(ytz b (yei s (k+1)) m).b.get i=some x:=B;rw[ybtr]at B;show(if i=b then _ else _)=_
   split at B
   .rename_i q;rw[if_pos q];exact B
   .rename_i q;rw[if_neg q];exact hs _ _ B
  .show(if i=b then _ else _)=_
   rw[if_neg fun q=>?_];subst q;rcases o with o|o
   .rw[h1]at o;cases o
   .have o:i<(ytz i (yei s (k+1)) m).low:=o;unfold ytz at o;rw[Sh.ybff]at o;have o:i<Nat.min m.low i:=o;exact absurd o (Nat.not_lt.2 (Nat.min_le_right m.low i))
 .intro l St b1 φ M w b2 d p n O H;obtain⟨box,rfl,G⟩:=yha H;obtain⟨C,R,_,rfl⟩:=G.ptr_inv;obtain⟨N,hN⟩:∃N,(ycf s).length=N:=⟨_,rfl⟩;have K:=zW d;have J:=zW p;have Hyield:=zW n;have H0:=zW O;have Hlc:=zW R
  have g:Hid (∀k f U W,St k f U W->φ.le f/\W.cell? ⟨C.blk,C.base,none⟩=some (.int .u32 (yei s k:Nat))/\W.frozen? ⟨C.blk,C.base,none⟩=false/\(∃e fz,W.heap[0]?=some (.cells ybjc.toArray e fz))/\C.blk<W.heap.size):=zW fun k f U W t=>by
   obtain⟨a2,m,hR,a8,a4⟩:=d k f U W t;obtain⟨l',cs,Y,g2,g3,g4,L,g6,g7⟩:=ybdc a4 hR a8;rw[a2 _ _ R]at Y;cases Y
   exact⟨a2,by simp[World.cell?,L,g7],by simp[World.frozen?,L],(hR.gl _ rfl).1,(Array.getElem?_eq_some_iff.1 L).1⟩
  clear d p n O G R H
  refine callsIn_of_wp zCT rfl trivial ?_
  simp only[Tryz.ntmps172,List.size_toArray,zBA,zCG,zB,Nat.reduceSub,Array.replicate_succ,
   Array.replicate_zero,List.push_toArray,List.append_toArray,zBF,List.cons_append]
  gi_wp2
  gi_loopg [] N (fun q wr=>∃k:Nat,q+k=N/\Hid (∃f U,φ.le f/\St k f U wr))
  case atStart=>exact⟨0,by omega,zW ⟨φ,M,φ.le_refl,H0.out⟩⟩
  case round =>
   obtain⟨k,hq,t⟩:=hrel;obtain⟨T,M1,h,a⟩:=t.out;obtain⟨_,a1,b5,Q,b3⟩:=g.out _ _ _ _ a
   by_cases b7:k<N
   .obtain⟨O,hz⟩:=ydpf r (k:=k) (by omega)
    have A:=yqn r k;have F:=ydor O A;have E:yei s (k+1)=yei s k&&&(yei s k-1):=rfl;obtain⟨x,B⟩:∃x,yei s k=x:=⟨_,rfl⟩;obtain⟨y,hy⟩:∃y,yei s (k+1)=y:=⟨_,rfl⟩;rw[B]at a1 O hz A F E;rw[hy]at E;rw[<-E]at F;have b8:((x:Int)!=0)=true:=by rw[bne_iff_ne];omega
    have S:=yeex (w:=wr) (x:=x) A Q;rw[hz]at S;obtain⟨v,hv⟩:∃v,(ycf s).getD k 0=v:=⟨_,rfl⟩
    obtain⟨fn,a7,D,X,a5,P⟩:=Hyield.out k T M1 wr [.int .i64 (v:Nat)] (by show k<(ycf s).length;omega) a (by
     show VRL T [.int .i64 ((ycf s).getD k 0:Nat)] _;rw[hv];exact .cons (.simple rfl) .nil)
    rw[hv]at S;have a6:(Instr.yield l #[.int .i64 (v:Int)]).run zF wr = .ok (.round l fn a7 D X) wr:=a5;have Hst1:=zW a;have Hle1:=zW h;have Hy:=zW hy;have Hx:=zW B
    clear t a h a5 Q hz E B hy
    gi_wp2
    refine⟨trivial,callsIn_wide.2 (S.mono ?_)⟩;rintro e w' ⟨rfl,rfl⟩
    gi_wp2
    refine P.mono ?_;rintro e W3 (⟨rfl,b0,M3,j,⟨m3,Z,a0,a3⟩,I⟩|⟨rfl,u⟩)
    .obtain⟨l',cs,Y,g2,g3,g4,L,g6,g7⟩:=ybdc a3 Z a0;rw[j _ _ (Hle1.out _ _ Hlc.out)]at Y;cases Y
     have b4:W3.cell? ⟨C.blk,C.base,none⟩=some (.int .u32 (x:Nat)):=by
      have a9:yei s k=x:=Hx.out;simp[World.cell?,L,g7,a9]
     have b6:W3.frozen? ⟨C.blk,C.base,none⟩=false:=by simp[World.frozen?,L]
     have Hst3:=zW (I _ _ ⟨C,j _ _ (Hle1.out _ _ Hlc.out),rfl,rfl⟩);have Hle3:=zW j
     clear I j P a6 Z a0 a3 g2 g3 g4 L g6 g7
     gi_wp2
     gi_roundg (gk-1)
     case measure=>omega
     case rel =>
      have z:=Hst3.out;rw[Hy.out]at z;refine⟨k+1,by omega,zW ⟨b0,upd M3 b (some (ybcg y)),Phi.le_trans Hle1.out Hle3.out,?_⟩⟩
      clear K J Hyield H0 g Hst3
      have e1:IntKind.wrap .u32 ((x:Int)-1)=(x:Int)-1:=by
       have e:(x:Int)-1=((x-1:Nat):Int):=by omega
       rw[e];exact ynz (by omega)
      rw[e1]at F;rw[F];exact z
    .have Hstop:=zW u
     clear u P a6
     gi_wp2
     refine bodyPost_ret (results_none rfl _ _ _) rfl ?_;exact⟨⟨_,rfl⟩,.inr Hstop.out⟩
   .have hk:k=N:=by omega
    have O:yei s k=0:=(rest_end r (by omega)).2 (by omega)
    rw[O]at a1;have Hst1:=zW a;have Hle1:=zW h
    clear t a h Q
    gi_wp2
    go_end0
    exact⟨⟨_,rfl⟩,.inl ⟨T,M1,by
     have:=Hst1.out;rw[hk,<-hN]at this;exact this⟩⟩
end Ev
end
section
section
variable {nm nc nr:ByteArray}{g:Gr}{c:Conf}{u v s:Nat}
end
end
section
end
section
namespace Sh
open Ev Go.RowKit
def setO(x:Nat):OB:=⟨77,true,1,1,fun _=>[.i .u32 x]⟩
def ycfx(b s:Nat):ItS:=⟨(ycf s).length,fun k=>[.i .i64 ((ycf s).getD k 0:Nat)],[(b,0)],fun k o=>lookO o (b,0)=some (setO (yei s k)),fun k o=>(SS.own ⟨[],o⟩ (b,0) (some (setO (yei s (k+1))))).o⟩
theorem ycdy{b s:Nat}(G:s<2^32):ItC zF 172 [.pt (b,0) 0 0] (ycfx b s):=by
 intro Q F U K f m S C E hown;obtain⟨u,rfl,H⟩:=rvl1 E;obtain⟨k,z,hk,rfl⟩:=H.pt_inv;have c:lookO K.o (b,0)=some (setO (yei s 0)):=hown;obtain⟨l,_⟩:=C.ownAt c hk (.inl (show(1:Nat)≠0 by decide))
 have l:z=1:=l;subst l;refine⟨ycvr k s,ycrt G,rfl,fun x p J M R j O n d P a=>?_⟩;have g:=n (b,0) zH _ hk;have a:lookO J.o (b,0)=some (setO (yei s j)):=a;obtain⟨_,Tb,L,y,A⟩:=d.ownAt a g (.inl (show(1:Nat)≠0 by decide))
 obtain⟨N,h,_,B⟩:=A 0 (by show 0<1;omega)
 refine⟨?_,fun D=>⟨.cons .i .nil,?_⟩⟩
 .refine⟨Tb,y,?_⟩;have r:=B 0 (by show 0<1;omega)
  have h:RVL x p [.i .u32 (yei s j:Nat)] (L 0):=h;obtain⟨v,e,I⟩:=rvl1 h;rw[e,I.int_inv]at r;exact r
 .exact d.upd (b:=setO (yei s (j+1))) ⟨_,a⟩ g (show 77≠CU by decide) (Tb:=T.sets .leaf 0 [.int .u32 (yei s (j+1):Nat)]) (L:=fun _=>[.int .u32 (yei s (j+1):Nat)]) fun i t=>by
   have t:i<1:=t;obtain rfl:i=0:=by omega
   refine⟨rfl,.cons .i .nil,rfl,fun q w=>?_⟩;have w:q<1:=w;obtain rfl:q=0:=by omega
   exact ybqu _
theorem ycqg{s:Nat}:Cm zF 129 [] [] [.i .u32 s] fun r o=>r = .fn 172 [] [.pt (1,0) 0 0]/\o=[(1,.one (some (setO s)))]:=by
 refine ycqr [] [] _ _ _ ?_;simp only[c129,yctq,ydgl,clash,yhs,go_sem,zA,zB,zC];refine⟨.fn 172 [] [.pt (1,0) 0 0],[(1,.one (some (setO s)))],?_,?_,rfl,rfl⟩
 .refine yx ?_;simp only[setO,wk,go_sem,zC]
 .simp only[setO,ycp,yfq,wk,go_sem]
theorem ycpj{s v:Nat}(b:s<2^24)(h:v∈ycf s):v<24/\s.testBit v=true:=by
 have a:=(ybyf.1 h).2;refine⟨zD fun q=>?_,a⟩;rw[zBH (zBR b (zBN (by omega) (by omega)))]at a
 cases a
theorem getD_mem{l:List Nat}{k:Nat}(h:k<l.length):l.getD k 0∈l:=by rw[getD_at h];exact zJ h
end Sh
end
section
namespace Sh
open Go Ev
end Sh
end
section
namespace Sh
open Ev Go.RowKit
end Sh
end
section
namespace Sh
open Ev Go.RowKit
end Sh
end
section
namespace Sh
open Ev Go.RowKit
end Sh
end
section
namespace Sh
open Ev Go.RowKit
end Sh
end
end Go.Proofs.YthclbjjgfcgbgaaGreatDoor
