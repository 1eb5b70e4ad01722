/- Joined. -/
import Derived.Test.YthclbjjgfcgbgaaGreatDoorPkCp8
import Derived.Lib.TrailingZeros
set_option linter.unusedSimpArgs false
set_option linter.unusedVariables false
set_option maxRecDepth 8000
open Nat renaming reduceEqDiff->zA,reduceAdd->zB,reduceLT->zC,reduceLeDiff->zD,zero_le->zM,reduceBEq->zN,zero_add->zS,add_comm->zT,le_of_ble_eq_true->zW,mul_comm->zX,mod_eq_of_lt->zAG,le_refl->zAK,sub_self->zAQ,lt_or_ge->zAT,testBit_two_pow_mul_add->zBC,reduceMul->zBD,mul_assoc->zBF,div_div_eq_div_mul->zBO,testBit_lt_two_pow->zBP,mul_le_mul_right->zBS,pow_le_pow_right->zBT,succ_mul->zBV,add_zero->zBW,lt_of_lt_of_le->zBX,mul_one->zCB,testBit_succ->zCE,add_assoc->zCK,zero_mul->zCN,le_trans->zCQ,mul_pos->zCV,mod_one->zCW,mod_mul->zCX,add_mul->zCY,ble->zDC,mod_lt->zDD,blt->zDG
open Classical renaming byContradiction->zF,choose_spec->zDB,choose->zDF
open List renaming range->zG,length_append->zI,mem_cons_self->zK,mem_cons_of_mem->zL,filter_append->zO,getElem?_append_left->zQ,take_length->zY,getElem_mem->zZ,getD->zAC,append_nil->zAD,length_map->zAI,length_erase_of_mem->zAJ,take_succ_eq_append_getElem->zAM,filter_cons->zAN,length_filter_le->zAO,mem_erase_of_ne->zAR,range_succ->zAU,mem_filter->zAV,eq_nil_of_length_eq_zero->zAW,take_zero->zAX,mem_range->zAY,take->zAZ,drop->zBA,getD_eq_getElem?_getD->zBE,pairwise_map->zBG,not_mem_nil->zBI,length_cons->zBJ,countP_cons->zBK,length_nil->zBL,map_append->zBM,nil_append->zBN,map_nil->zBY,count_append->zBZ,length->zCA,getElem_map->zCC,nodup_range->zCD,filter_nil->zCG,drop_drop->zCH,flatMap->zCM,elem->zDE
open Go.Proofs.Tryz renaming prog->zH,ntmps173->zCL,func173->zCR,func172->zCS
open Int renaming lt_irrefl->zJ,natCast_mul->zU,toNat_natCast->zAF,reduceBNe->zAH,add_mul->zAL,natCast_add->zAS,add_mul_ediv_right->zBQ,ediv_eq_zero_of_lt->zBR,natCast_zero->zCF,mul_assoc->zCJ,sub_self->zCO,mul_comm->zCP,add_comm->zCT,zero_add->zCU,sub_mul->zCZ
open Go.Lib renaming hid->zV,ctz->zAP,ctzFrom->zDA
open Bool renaming and_eq_true->zAA,false_ne_true->zAB,or_eq_true->zAE,false_eq_true->zBB,not_eq_true'->zBH,true_and->zCI
open And renaming intro->zBU
open Go
namespace Go.Proofs.YthclbjjgfcgbgaaGreatDoor
section
def yko(back:Bool)(g:Gr)(a b:Nat)(w:Int):Gr:=if a=b\/ype (g.ports.getD a []) b=true then g else ycx back g a b w
namespace Sh
open Ev Go.RowKit
def rowO(l:List (Int×Int)):OB:=⟨68,false,2,l.length,fun k=>[.i .i64 (l.getD k (0,0)).1,.i .i64 (l.getD k (0,0)).2]⟩
def yhs(ports:List (List (Int×Int))):Own:=[(211,.one (some ⟨135,false,1,ports.length,fun v=>[.os (212,v) 0 (ports.getD v []).length true]⟩)),
 (212,.many fun v=>if v<ports.length then some (rowO (ports.getD v []))else none)]
def yxx(g:Gr):SV:=.ag [yba g.ids,.os (211,0) 0 g.ports.length true]
theorem ylb{i n:Nat}{x b:OB}(h:(if i<n then some x else none)=some b):i<n/\b=x:=by
 split at h
 .cases h;exact⟨by assumption,rfl⟩
 .cases h
theorem ych(back:Bool)(L:List (Int×Int))(x:Int×Int):(addL back L x).length=L.length+1:=by
 unfold addL;cases back<;>simp
theorem ybiq(L:List (Int×Int))(x:Int×Int){k:Nat}(hk:k<L.length+1):(if k<L.length then[SV.i .i64 (L.getD k (0,0)).1,SV.i .i64 (L.getD k (0,0)).2]else zAZ 2 (zBA ((k-L.length)*2) [SV.i .i64 x.1,SV.i .i64 x.2]))=[SV.i .i64 ((addL false L x).getD k (0,0)).1,SV.i .i64 ((addL false L x).getD k (0,0)).2]:=by
 show _=[SV.i .i64 ((L++[x]).getD k (0,0)).1,SV.i .i64 ((L++[x]).getD k (0,0)).2];rw[ydvx]
 by_cases h:k<L.length
 .rw[if_pos h,if_pos h]
 .obtain rfl:k=L.length:=by omega
  rw[if_neg h,if_neg h,if_pos rfl,zAQ];rfl
theorem yrj(L:List (Int×Int))(x:Int×Int)(k:Nat):(if k<1 then zAZ 2 (zBA (k*2) [SV.i .i64 x.1,SV.i .i64 x.2])else[SV.i .i64 (L.getD (k-1) (0,0)).1,SV.i .i64 (L.getD (k-1) (0,0)).2])=[SV.i .i64 ((addL true L x).getD k (0,0)).1,SV.i .i64 ((addL true L x).getD k (0,0)).2]:=by
 show _=[SV.i .i64 ((x::L).getD k (0,0)).1,SV.i .i64 ((x::L).getD k (0,0)).2];cases k with
 |zero=>rfl
 |succ k=>rw[if_neg (by omega)];rfl
theorem cells_one(L:List (Int×Int))(h:L.length=0)(x:Int×Int){k:Nat}(hk:k<1):zAZ 2 (zBA (k*2) [SV.i .i64 x.1,SV.i .i64 x.2])=[SV.i .i64 ((addL true L x).getD k (0,0)).1,SV.i .i64 ((addL true L x).getD k (0,0)).2]:=by
 obtain rfl:k=0:=by omega
 rfl
theorem ykr {n:Nat}{o:Own}{P':List (List (Int×Int))}(D:P'.length=n) (A:Nat->Nm) {R:Nat->List SV}(m:lookO o (211,0)=some ⟨135,false,1,n,R⟩) (C:∀v,v<n->R v=[.os (A v) 0 (P'.getD v []).length true])
 (B:∀v,v<n->∃q,lookO o (A v)=some ⟨68,false,2,(P'.getD v []).length,q⟩/\∀k,k<(P'.getD v []).length->q k=[.i .i64 ((P'.getD v []).getD k (0,0)).1,.i .i64 ((P'.getD v []).getD k (0,0)).2])
 (t:∀u v,u<n->v<n->A u=A v->u=v) (z:∀v,v<n->A v≠(211,0)) :
 ∃r l,Weak [(211,0)] ⟨[(0,.tp [])],o⟩ ⟨[(0,r)],l⟩/\(cln (live l) 5 r=true/\allQ (fun p=>ycl (live l) p.2) l/\allQ (fun G=>live l G=true) [(211,0)])/\r = .tp []/\l=yhs P':=by
 subst D
 have d:∀i,(if i<P'.length then some (rowO (P'.getD i []))else none).isSome=true->i<P'.length:=fun i h=>by
  by_cases q:i<P'.length
  .exact q
  .rw[if_neg q]at h;cases h
 have f:∀i,i<P'.length->live (yhs P') (212,i)=true:=fun i t=>by
  show(if i<P'.length then some (rowO (P'.getD i []))else none).isSome=true
  rw[if_pos t];rfl
 refine⟨.tp [],yhs P',ybkq [(212,A)] [] [] trivial ⟨.inr ⟨.inr fun e=>⟨rfl,rfl⟩,.inr fun j y e=>?_,trivial⟩,.inr ⟨.inr fun i c e=>?_,.inr fun i c j y e=>⟨rfl,?_⟩,trivial⟩,trivial⟩ ⟨?_,trivial⟩ ⟨?_,fun i b s=>?_,trivial⟩ ⟨⟨rfl,rfl,rfl⟩,trivial⟩,⟨rfl,⟨?_,?_,trivial⟩,rfl,trivial⟩,rfl,rfl⟩
 .exact absurd e.symm (z j (d j y))
 .exact absurd e (z i (d i c))
 .exact t i j (d i c) (d j y) e
 .exact⟨_,rfl,.inl ⟨trivial,Sim.refl _,rfl⟩⟩
 .refine⟨_,m,⟨rfl,rfl,rfl,rfl,rfl⟩,fun e=>absurd (show false=true from e) zAB,fun i c=>?_⟩
  have c:i<P'.length:=c;show telL _ _ _ _ _ (R i) _;rw[C i c];refine⟨.inl ⟨by simp only[go_sem],Sim.refl _,?_⟩,rfl,trivial⟩
  show(live (yhs P') (212,i) && !(zDE 212 []))=true;rw[f i c];rfl
 .obtain⟨c,rfl⟩:=ylb s;obtain⟨q,E,F⟩:=B i c;refine⟨_,E,⟨rfl,rfl,rfl,rfl,rfl⟩,fun e=>absurd (show false=true from e) zAB,fun k hk=>?_⟩
  show telL _ _ _ _ _ (q k) _;rw[F k hk];exact⟨.inl ⟨trivial,Sim.refl _,rfl⟩,rfl,.inl ⟨trivial,Sim.refl _,rfl⟩,rfl,trivial⟩
 .intro k hk;have:live (yhs P') (212,k)=true:=f k hk;simp only[yhs,List.all_cons,List.all_nil,Bool.and_true]at this ⊢;exact this
 .intro i b s k hk;obtain⟨c,rfl⟩:=ylb s;rfl
section
variable {x:NetR}{g:Gr}{a b:Nat}{w:Int}
theorem ydmo (A:a<g.ports.length)(C:b<g.ports.length)(M:g.ports.length<=24)(E:∀v,(g.ports.getD v []).length<=1000) :
 Cm zH 48 [(211,0)] (yhs g.ports) [.ag (netC x),yxx g,.i .i64 a,.i .i64 b,.i .i64 w] fun r o=>r = .tp []/\o=yhs (yko x.back g a b w).ports:=by
 refine ydgh [(211,0)] [] _ _ _ ?_;obtain⟨L,p⟩:∃O,yhs (yko x.back g a b w).ports=O:=⟨_,rfl⟩;rw[p]
 by_cases d:a=b
 .subst d;have B:yko x.back g a a w=g:=if_pos (.inl rfl);rw[B]at p;simp only[c48,ydhp,ydiy,netC,yxx,yhs,yhi,go_sem,zA,zB,zC,↓reduceIte,reduceCtorEq];subst p;exact ykr rfl (fun v=>(212,v)) rfl (fun v m=>rfl) (fun v m=>⟨_,if_pos m,fun k hk=>rfl⟩) (fun u v _ _ e=>congrArg Prod.snd e) (fun v _ e=>by cases e)
 .have F:((a:Int)==(b:Int))=false:=by rw[beq_eq_false_iff_ne];omega
  have I:=ybwv (ids:=g.ids) (ports:=g.ports) (b:=b) A (by have:=E a;omega)
  simp only[c48,ydhp,ydiy,netC,yxx,yhs,F,clash,go_sem,zA,zB,zC,↓reduceIte,reduceCtorEq];refine .inl ⟨fun q H=>by rw[if_pos H];exact⟨zAK _,fun k hk=>by simp only[rowO,go_sem]⟩,I.useS ?_ ?_⟩
  .refine⟨ybqo ⟨Sim.refl _,?_,trivial⟩,Sim.refl _,Sim.refl _,trivial⟩;refine yec fun q H=>?_;rw[if_pos H];simp only[rowO,ybc,go_sem];exact⟨Sim.refl _,trivial⟩
  cases D:ype (g.ports.getD a []) b with
  | true =>
    have B:yko x.back g a b w=g:=if_pos (.inr D);rw[B]at p;simp only[ybk,clash,yhi,go_sem,zA,zB,↓reduceIte];subst p;exact ykr rfl (fun v=>(212,v)) rfl (fun v m=>rfl) (fun v m=>⟨_,if_pos m,fun k hk=>rfl⟩) (fun u v _ _ e=>congrArg Prod.snd e) (fun v _ e=>by cases e)
  | false =>
    have B:yko x.back g a b w=ycx x.back g a b w:=if_neg (fun q=>by rcases q with q|q;exact d q;rw[D]at q;cases q)
    rw[B]at p;subst p;have s:¬b=a:=fun e=>d e.symm;have l:(ycx x.back g a b w).ports.length=g.ports.length:=by simp[ycx]
    have f:=yer x.back g w A C;obtain⟨G',z⟩:∃G,(ycx x.back g a b w).ports=G:=⟨_,rfl⟩;rw[z]at l ⊢;have f:∀v,G'.getD v []=if v=b then addL x.back (g.ports.getD b []) (a,w)else if v=a then addL x.back (g.ports.getD a []) (b,w)else g.ports.getD v []:=fun v=>by rw[<-z];exact f v
    clear z B
    obtain⟨N,P,Q,R,S,back⟩:=x;have J:=E a;have K:=E b;cases back with
    | false =>
      simp only[ybk,clash,ybud,ybve,ydqu,rowO,if_pos A,if_pos C,d,s,yhi,and_false,go_sem,zA,zB,zD,zC,↓reduceIte,reduceCtorEq];refine⟨⟨by omega,by omega⟩,by omega,⟨by omega,by omega⟩,by decide,⟨by omega,by omega⟩,by omega,⟨by omega,by omega⟩,by decide,⟨by omega,by omega⟩,by omega,by decide,⟨by omega,by omega⟩,by omega,by decide,?_⟩
      refine ykr l (fun v=>if v=b then(74,0)else if v=a then(66,0)else(212,v)) rfl (fun v m=>?_) (fun v m=>?_) (fun u v _ _ e=>?_) (fun v _ e=>?_)
      .rw[f v]
       by_cases q:v=b
       .simp only[if_pos q,ych]
       .by_cases c:v=a
        .simp only[if_neg q,if_pos c,ych]
        .simp only[if_neg q,if_neg c]
      .rw[f v]
       by_cases q:v=b
       .simp only[if_pos q,ych];exact⟨_,rfl,fun k hk=>ybiq _ (_,_) hk⟩
       .by_cases c:v=a
        .simp only[if_neg q,if_pos c,ych];exact⟨_,rfl,fun k hk=>ybiq _ (_,_) hk⟩
        .simp only[if_neg q,if_neg c];refine⟨fun k=>[.i .i64 ((g.ports.getD v []).getD k (0,0)).1,.i .i64 ((g.ports.getD v []).getD k (0,0)).2],?_,fun k hk=>rfl⟩;show(if v=b then none else if v=a then none else if v<g.ports.length then some _ else none)=some _
         rw[if_neg q,if_neg c,if_pos m]
      .by_cases q:u=b<;>by_cases c:u=a<;>by_cases t:v=b<;>by_cases y:v=a<;>simp[q,c,t,y,d]at e ⊢<;>omega
      .by_cases q:v=b<;>by_cases c:v=a<;>simp[q,c,d]at e
    | true =>
      by_cases j:(g.ports.getD a []).length=0
      .by_cases h:(g.ports.getD b []).length=0
       .simp only[ybk,clash,ybud,ybve,ybyg,ychj,rowO,if_pos A,if_pos C,s,yhi,and_false,j,h,go_sem,zA,zB,zD,zC,zBD,↓reduceIte,reduceCtorEq]
        repeat' apply zBU
        all_goals first|omega|decide|skip
        refine ykr l (fun v=>if v=b then(45,0)else if v=a then(33,0)else(212,v)) rfl (fun v m=>?_) (fun v m=>?_) (fun u v _ _ e=>?_) (fun v _ e=>?_)
        .rw[f v]
         by_cases q:v=b
         .simp only[if_pos q,ych,h,zS]
         .by_cases c:v=a
          .simp only[if_neg q,if_pos c,ych,j,zS]
          .simp only[if_neg q,if_neg c]
        .rw[f v]
         by_cases q:v=b
         .simp only[if_pos q,ych,h,zS];exact⟨_,rfl,fun k hk=>cells_one _ h (_,_) hk⟩
         .by_cases c:v=a
          .simp only[if_neg q,if_pos c,ych,j,zS];exact⟨_,rfl,fun k hk=>cells_one _ j (_,_) hk⟩
          .simp only[if_neg q,if_neg c];refine⟨fun k=>[.i .i64 ((g.ports.getD v []).getD k (0,0)).1,.i .i64 ((g.ports.getD v []).getD k (0,0)).2],?_,fun k hk=>rfl⟩;show(if v<g.ports.length then some _ else none)=some _
           rw[if_pos m]
        .by_cases q:u=b<;>by_cases c:u=a<;>by_cases t:v=b<;>by_cases y:v=a<;>simp[q,c,t,y,d]at e ⊢<;>omega
        .by_cases q:v=b<;>by_cases c:v=a<;>simp[q,c,d]at e
       .simp only[ybk,clash,ybud,ybve,ybyg,ychj,rowO,if_pos A,if_pos C,s,yhi,and_false,j,h,go_sem,zA,zB,zD,zC,zBD,↓reduceIte,reduceCtorEq]
        repeat' apply zBU
        all_goals first|omega|decide|skip
        refine ykr l (fun v=>if v=b then(51,0)else if v=a then(33,0)else(212,v)) rfl (fun v m=>?_) (fun v m=>?_) (fun u v _ _ e=>?_) (fun v _ e=>?_)
        .rw[f v]
         by_cases q:v=b
         .simp only[if_pos q,ych,zT]
         .by_cases c:v=a
          .simp only[if_neg q,if_pos c,ych,j,zS,zT]
          .simp only[if_neg q,if_neg c]
        .rw[f v]
         by_cases q:v=b
         .simp only[if_pos q,ych];exact⟨_,congrArg some (congrArg (fun n=>OB.mk _ _ _ n _) (zT _ _)),fun k hk=>yrj _ (_,_) k⟩
         .by_cases c:v=a
          .simp only[if_neg q,if_pos c,ych,j,zS];exact⟨_,rfl,fun k hk=>cells_one _ j (_,_) hk⟩
          .simp only[if_neg q,if_neg c];refine⟨fun k=>[.i .i64 ((g.ports.getD v []).getD k (0,0)).1,.i .i64 ((g.ports.getD v []).getD k (0,0)).2],?_,fun k hk=>rfl⟩;show(if v<g.ports.length then some _ else none)=some _
           rw[if_pos m]
        .by_cases q:u=b<;>by_cases c:u=a<;>by_cases t:v=b<;>by_cases y:v=a<;>simp[q,c,t,y,d]at e ⊢<;>omega
        .by_cases q:v=b<;>by_cases c:v=a<;>simp[q,c,d]at e
      .by_cases h:(g.ports.getD b []).length=0
       .simp only[ybk,clash,ybud,ybve,ybyg,ychj,rowO,if_pos A,if_pos C,s,yhi,and_false,j,h,go_sem,zA,zB,zD,zC,zBD,↓reduceIte,reduceCtorEq]
        repeat' apply zBU
        all_goals first|omega|decide|skip
        refine ykr l (fun v=>if v=b then(45,0)else if v=a then(39,0)else(212,v)) rfl (fun v m=>?_) (fun v m=>?_) (fun u v _ _ e=>?_) (fun v _ e=>?_)
        .rw[f v]
         by_cases q:v=b
         .simp only[if_pos q,ych,h,zS,zT]
         .by_cases c:v=a
          .simp only[if_neg q,if_pos c,ych,zT]
          .simp only[if_neg q,if_neg c]
        .rw[f v]
         by_cases q:v=b
         .simp only[if_pos q,ych,h,zS];exact⟨_,rfl,fun k hk=>cells_one _ h (_,_) hk⟩
         .by_cases c:v=a
          .simp only[if_neg q,if_pos c,ych];exact⟨_,congrArg some (congrArg (fun n=>OB.mk _ _ _ n _) (zT _ _)),fun k hk=>yrj _ (_,_) k⟩
          .simp only[if_neg q,if_neg c];refine⟨fun k=>[.i .i64 ((g.ports.getD v []).getD k (0,0)).1,.i .i64 ((g.ports.getD v []).getD k (0,0)).2],?_,fun k hk=>rfl⟩;show(if v<g.ports.length then some _ else none)=some _
           rw[if_pos m]
        .by_cases q:u=b<;>by_cases c:u=a<;>by_cases t:v=b<;>by_cases y:v=a<;>simp[q,c,t,y,d]at e ⊢<;>omega
        .by_cases q:v=b<;>by_cases c:v=a<;>simp[q,c,d]at e
       .simp only[ybk,clash,ybud,ybve,ybyg,ychj,rowO,if_pos A,if_pos C,s,yhi,and_false,j,h,go_sem,zA,zB,zD,zC,↓reduceIte,reduceCtorEq]
        repeat' apply zBU
        all_goals first|omega|decide|skip
        refine ykr l (fun v=>if v=b then(51,0)else if v=a then(39,0)else(212,v)) rfl (fun v m=>?_) (fun v m=>?_) (fun u v _ _ e=>?_) (fun v _ e=>?_)
        .rw[f v]
         by_cases q:v=b
         .simp only[if_pos q,ych,zT]
         .by_cases c:v=a
          .simp only[if_neg q,if_pos c,ych,zT]
          .simp only[if_neg q,if_neg c]
        .rw[f v]
         by_cases q:v=b
         .simp only[if_pos q,ych];exact⟨_,congrArg some (congrArg (fun n=>OB.mk _ _ _ n _) (zT _ _)),fun k hk=>yrj _ (_,_) k⟩
         .by_cases c:v=a
          .simp only[if_neg q,if_pos c,ych];exact⟨_,congrArg some (congrArg (fun n=>OB.mk _ _ _ n _) (zT _ _)),fun k hk=>yrj _ (_,_) k⟩
          .simp only[if_neg q,if_neg c];refine⟨fun k=>[.i .i64 ((g.ports.getD v []).getD k (0,0)).1,.i .i64 ((g.ports.getD v []).getD k (0,0)).2],?_,fun k hk=>rfl⟩;show(if v<g.ports.length then some _ else none)=some _
           rw[if_pos m]
        .by_cases q:u=b<;>by_cases c:u=a<;>by_cases t:v=b<;>by_cases y:v=a<;>simp[q,c,t,y,d]at e ⊢<;>omega
        .by_cases q:v=b<;>by_cases c:v=a<;>simp[q,c,d]at e
end
end Sh
end
section
theorem ybtx{back:Bool}{g:Gr}{a b:Nat}{w:Int}(c:ybh g)(d:a<g.ports.length)(f:b<g.ports.length)(j:1<=w/\w<=15):ybh (yko back g a b w)/\(yko back g a b w).ids=g.ids/\(yko back g a b w).ports.length=g.ports.length:=by
 unfold yko
 by_cases h:a=b\/ype (g.ports.getD a []) b=true
 .rw[if_pos h];exact⟨c,rfl,rfl⟩
 .rw[if_neg h];refine⟨ybhk c d f (fun e=>h (.inl e)) j fun l i e=>h (.inr (List.any_eq_true.2 ⟨l,i,decide_eq_true e⟩)),rfl,by simp[ycx]⟩
theorem ycii{back:Bool}{g:Gr}{a b:Nat}{w:Int}(c:a<g.ports.length)(d:b<g.ports.length){m:Nat}(h:Tre g m):Tre (yko back g a b w) m:=by
 unfold yko;split
 .exact h
 .exact h.add c d
theorem ycim{back:Bool}{g:Gr}{a b:Nat}{w:Int}(d:a<g.ports.length)(f:b<g.ports.length)(c:a≠b):adj (yko back g a b w) a b:=by
 unfold yko;split
 .rename_i h
  rcases h with h|h
  .exact absurd h c
  .obtain⟨l,i,e⟩:=List.any_eq_true.1 h;exact yoz.2 ⟨l,i,of_decide_eq_true e⟩
 .exact ybok d f c
theorem ybmj:∀(l:List Nat) (i x:Nat) (h:i<l.length),(l.set i x).sum+l[i]=l.sum+x
 |a::l,0,x,_=>by simp;omega
 | a::l,i+1,x,h=>by
   have:=ybmj l i x (by simpa using h)
   simp only[List.set_cons_succ,List.sum_cons,List.getElem_cons_succ];omega
theorem ybtw{back:Bool}{g:Gr}{a b:Nat}{w:Int}(e:a<g.ports.length)(f:b<g.ports.length)(c:a≠b):yor (ycx back g a b w)=yor g+2:=by
 unfold yor ycx;simp only[List.map_set,Sh.ych];have h:=ybmj (g.ports.map zCA) a ((g.ports.getD a []).length+1) (by simpa using e)
 have i:=ybmj ((g.ports.map zCA).set a ((g.ports.getD a []).length+1)) b ((g.ports.getD b []).length+1) (by simpa using f)
 rw[List.getElem_set_ne c,zCC,<-Sh.getD_at f (d:=[])]at i;rw[zCC,<-Sh.getD_at e (d:=[])]at h;omega
def WtF(x:NetR)(g:Gr):Prop:=∀v l,l∈g.ports.getD v []->∃i,l.2=1+yea (atP x.weights i) 15
theorem yckh{x:NetR}{back:Bool}{g:Gr}{a b:Nat}{w:Int}(e:a<g.ports.length)(f:b<g.ports.length)(d:∃i,w=1+yea (atP x.weights i) 15)(h:WtF x g):WtF x (yko back g a b w):=by
 unfold yko;split
 .exact h
 .intro v l c;rw[yer back g w e f]at c;split at c
  .rcases yfh.1 c with rfl|c
   .exact d
   .exact h _ _ c
  .split at c
   .rcases yfh.1 c with rfl|c
    .exact d
    .exact h _ _ c
   .exact h _ _ c
structure TreeTo(x:NetR)(v:Nat)(g:Gr):Prop where
 tre:Tre g v
 wt:WtF x g
 none_:∀u,v<=u->g.ports.getD u []=[]
 count:yor g+2=2*v
theorem ysx(ids:List Int)(v:Nat):(bare ids).ports.getD v []=[]:=by
 unfold bare;rw[zBE,List.getElem?_replicate];split<;>rfl
theorem TreeTo.zero(x:NetR)(ids:List Int):TreeTo x 1 (bare ids):=by
 refine⟨fun v b c=>by omega,fun v l a=>?_,fun u _=>ysx ids u,?_⟩
 .rw[ysx]at a;exact absurd a zBI
 .have:yor (bare ids)=0:=by
   unfold yor bare;simp
  omega
theorem TreeTo.succ{x:NetR}{v:Nat}{g:Gr}(n:ybh g)(h:TreeTo x v g)(f:v<g.ports.length)(s:1<=v){a:Nat}(m:a<v){w:Int}(r:∃i,w=1+yea (atP x.weights i) 15):TreeTo x (v+1) (yko x.back g a v w):=by
 have c:=ycim (back:=x.back) (g:=g) (a:=a) (b:=v) (w:=w) (by omega) (by omega) (by omega)
 have j:¬(a=v\/ype (g.ports.getD a []) v=true):=by
  rintro(e|e)
  .omega
  .obtain⟨l,o,e⟩:=List.any_eq_true.1 e;have e:=of_decide_eq_true e;have:adj g v a:=n.adj_symm (yoz.2 ⟨l,o,e⟩);obtain⟨t,d,_⟩:=yoz.1 this;rw[h.none_ v (zAK _)]at d;exact absurd d zBI
 have e:yko x.back g a v w=ycx x.back g a v w:=by unfold yko;rw[if_neg j]
 refine⟨fun u k p=>?_,yckh (by omega) f r h.wt,fun u p=>?_,?_⟩
 .by_cases q:u=v
  .subst q;exact⟨a,m,c⟩
  .exact ycii (by omega) f h.tre u k (by omega)
 .rw[e,yer x.back g w (by omega) f,if_neg (by omega),if_neg (by omega)]
  exact h.none_ u (by omega)
 .rw[e,ybtw (by omega) f (by omega)]
  have:=h.count;omega
namespace Sh
open Ev Go.RowKit
theorem ycmq{n:Nat}{P:List (List (Int×Int))}{f:SV->SV}(a:∀k z,f (.i k z) = .i k z){i:Nat}(c:i<n):(match (if i<n then some (rowO (P.getD i []))else none)with|some b=>some (⟨b.e,b.bx,b.z,b.n,fun k=>(b.g k).map f⟩:OB)|none=>none)=some (rowO (P.getD i [])):=by
 rw[if_pos c];simp[rowO,a]
theorem ydjs{x:NetR}(T:x.ok){most:Nat}(hm:1<=most/\most<=24) :
 Cm zH 10 [] [] [.ag (netC x),.i .i64 most] fun r o=>∃g,ybh g/\TreeTo x g.ports.length g/\(g.ports.length<=most/\(g.ports.length:Int)=1+yea (IntKind.wrap .i64 (x.n-1)) most/\ybid x g.ids)/\r=yxx g/\o=yhs g.ports:=by
 refine ydix [] [47,48] _ _ _ ?_;have R:=yclt T hm;obtain⟨a1,O,P,a2⟩:=T;simp only[netC]at R;simp only[c10,yebj,ydtr,netC,go_sem,zA,zB,zC,↓reduceIte,reduceCtorEq];refine yeu R [(17,117)] 0 [2,4] [2,4] ?_ ?_
 .simp only[to1,okN,ycl,yfj,yek,ydx,wk,go_sem,zA,zB,zN,↓reduceIte,reduceCtorEq]
 rintro r o' ⟨c,Q,X,Y,rfl,rfl⟩;obtain⟨n,J⟩:∃n,c.length=n:=⟨_,rfl⟩;rw[J]at Q;simp only[J,yoy,ymm,nuF,nu,difN,yek,ydx,Fam.ren,OB.ren,dim,ydtk,ydcj,yjw,go_sem,zA,zB,zC,zN,↓reduceIte];simp only[ydva,go_sem]
 refine ybf (σ:=Nat×Gr) (fun q=>⟨[(6,.i .i64 q.1),(5,.pt (5,0) 0 0),(2,.pt (2,0) 0 0),(4,.pt (4,0) 0 0)],
  (5,.one (some ⟨27,true,2,1,fun _=>[yba q.2.ids,.os (211,0) 0 n true]⟩))::(2,.one (some ⟨24,true,6,1,fun _=>netC x⟩))::(4,.one (some ⟨27,true,2,1,fun _=>[.a (.slice none 0 0),.a (.slice none 0 0)]⟩))::yhs q.2.ports⟩)
  (fun q=>ybh q.2/\q.2.ports.length=n/\TreeTo x q.1 q.2/\1<=q.1/\q.1<=n/\q.2.ids=c) (fun q=>n-q.1) (1,bare c) ⟨ycgr (by omega) (by omega) X Y,by simp[bare,J],TreeTo.zero x c,by omega,by omega,rfl⟩ ?_ ?_
 .refine yca [(211,fun i=>(117,i))] [212] [] ?_;have U:(bare c).ids=c:=rfl;have V:(bare c).ports.length=n:=by simp[bare,J]
  have W:∀v,(bare c).ports.getD v []=[]:=ysx c;simp only[netC,yhs,rowO,U,V,W,zBL,wk,go_sem,zA,zC,zN,↓reduceIte,reduceCtorEq];refine⟨rfl,fun i d=>⟨(212,i),rfl,rfl,by simp[d]⟩,fun i b p=>?_⟩
  obtain⟨_,rfl⟩:=ylb p;exact⟨rfl,rfl⟩
 .rintro⟨v,g⟩ ⟨z,h,s,y,I,E⟩;have z:ybh g:=z;have h:g.ports.length=n:=h;have s:TreeTo x v g:=s;have y:1<=v:=y;have I:v<=n:=I
  by_cases a0:v<n
  .have N:decide ((v:Int)<(n:Int))=true:=decide_eq_true (by omega)
   have H:(v:Int)-1=((v-1:Nat):Int):=by omega
   have K:=at_ret x.links (v-1);have L:=at_ret x.weights (v-1);have F:=ynn (v:=atP x.links (v-1)) (m:=(v:Int)) (by omega)
   have M:=ynn (v:=atP x.weights (v-1)) (m:=15) (by omega)
   have C:=ynf (atP x.links (v-1)) v (by omega) (O _)
   have D:=ynf (atP x.weights (v-1)) 15 (by omega) (P _)
   obtain⟨a,ha⟩:∃a:Nat,yea (atP x.links (v-1)) v=a:=Int.eq_ofNat_of_zero_le F.1;obtain⟨w,S⟩:∃w:Int,yea (atP x.weights (v-1)) 15=w:=⟨_,rfl⟩;rw[ha]at C F;rw[S]at D M;have hL:=ydmo (x:=x) (g:=g) (a:=a) (b:=v) (w:=1+w) (by omega) (by omega) (by omega) (fun u=>by have:=z.deg_lt (v:=u);omega)
   simp only[ydlz,ydwy,ydrw,netC,yhs,N,H,clash,go_sem,zA,zB,zD,zN,↓reduceIte,reduceCtorEq];refine⟨ikw (by omega) (by omega),K.use ?_⟩
   simp only[ybk,clash,go_sem,zA,zB,zD,zN,↓reduceIte,reduceCtorEq];refine C.use ?_;simp only[H,go_sem];refine⟨ikw (by omega) (by omega),L.use ?_⟩
   simp only[go_sem,↓reduceIte];refine D.use ?_;simp only[go_sem,zA,zN,↓reduceIte];refine⟨ikw (by omega) (by omega),yeu hL [(211,211),(212,212)] 0 [2,4,5,6] [2,4,5] ?_ ?_⟩
   .simp only[netC,yxx,yhs,h,to1,okN,ycl,yfj,yek,ydx,wk,go_sem,zA,zB,zC,zN,↓reduceIte,reduceCtorEq];refine⟨⟨fun i _ j _ e=>e,fun i d=>by rw[if_pos d],fun i b p=>?_⟩,by decide⟩
    obtain⟨d,rfl⟩:=ylb p;exact⟨_,if_pos d,⟨rfl,rfl,rfl,rfl⟩,fun e=>absurd (show false=true from e) zAB,fun k hk=>by simp only[rowO,wk,go_sem,reduceCtorEq]⟩
   .rintro r o' ⟨rfl,rfl⟩;simp only[yhs,yoy,ymm,nuF,nu,difN,yek,ydx,Fam.ren,OB.ren,dim,yrh,yjw,go_sem,zA,zB,zN,↓reduceIte,reduceCtorEq];obtain⟨A,t,l⟩:=ybtx (back:=x.back) (a:=a) (b:=v) (w:=1+w) z (by omega) (by omega) (by omega)
    have B:=s.succ z (by omega) y (a:=a) (by omega) (w:=1+w) ⟨v-1,by rw[S]⟩
    obtain⟨G,Z⟩:∃G,yko x.back g a v (1+w)=G:=⟨_,rfl⟩;rw[Z]at A t l B ⊢;rw[h]at l;refine⟨ikw (by omega) (by omega),yj (v+1,G) ⟨A,l,B,by omega,by omega,t.trans E⟩ (by show n-(v+1)<n-v;omega) ?_⟩
    .refine yw ?_;simp only[l,t,wk,go_sem,zA,zC,↓reduceIte,reduceCtorEq];refine⟨fun i _ j _ e=>e,by omega,fun i d=>by rw[if_pos d],fun i b p=>?_⟩
     obtain⟨d,rfl⟩:=ylb p;refine⟨_,ycmq (f:=ren (nu [(211,211),(212,212)] 0) 5) (fun _ _=>rfl) d,⟨rfl,rfl,rfl,rfl⟩,fun e=>absurd (show false=true from e) zAB,fun k hk=>?_⟩
     simp only[rowO,wk,go_sem,reduceCtorEq]
  .obtain rfl:v=n:=by omega
   have N:decide ((v:Int)<(v:Int))=false:=decide_eq_false (by omega)
   simp only[ydlz,yebf,netC,yhs,N,clash,splice,yhi,go_sem,zA,zB,↓reduceIte,reduceCtorEq];refine⟨yxx g,yhs g.ports,?_,?_,g,z,by rw[h];exact s,⟨by omega,by omega,by rw[show g.ids=c from E];exact Q.2.2.2⟩,rfl,rfl⟩
   .refine yw ?_;simp only[yhs,yxx,h,wk,go_sem,zA,zC,↓reduceIte,reduceCtorEq];refine⟨fun i _ j _ e=>e,fun i d=>by rw[if_pos d],fun i b p=>?_⟩
    obtain⟨d,rfl⟩:=ylb p;exact⟨_,if_pos d,⟨rfl,rfl,rfl,rfl⟩,fun e=>absurd (show false=true from e) zAB,fun k hk=>by simp only[rowO,wk,go_sem,reduceCtorEq]⟩
   .simp only[yhs,yxx,ycl,yfj,wk,go_sem,zA,↓reduceIte];refine⟨fun i d=>by rw[if_pos d],fun i b p k hk=>?_⟩
    obtain⟨d,rfl⟩:=ylb p;simp only[rowO,go_sem]
end Sh
end
section
namespace Sh
open Ev Go.RowKit
end Sh
end
section
namespace Sh
section
variable {nm nd np nt nl:ByteArray}{g:Gr}
end
end Sh
end
section
namespace Sh
open Ev Go.RowKit
theorem yckv(l:List Nat):one1 (usV l)=true:=rfl
theorem yciv{n:Nat}(l:List Nat):owned (n+1) (usV l)=false:=rfl
theorem ybux{n:Nat}(l:List Nat):scalar (n+1) (usV l)=false:=rfl
theorem ycll{n:Nat}(o:Own)(l:List Nat):view o (n+1) (usV l)=usV l:=rfl
theorem ydgs{n:Nat}(o:Own)(l:List Nat):vok o (n+1) (usV l)=True:=rfl
theorem ydhj{n:Nat}(h:Nm->Nm)(l:List Nat):ren h (n+1) (usV l)=usV l:=rfl
theorem ydme{n:Nat}(D:Nm->Bool)(l:List Nat):cln D (n+1) (usV l)=true:=rfl
theorem ybzt{n:Nat}(a:List Nm)(o:Own)(l:List Nat):ydt a o (n+1) (usV l)=usV l:=rfl
theorem ydjg{n:Nat}(a:List Nm)(o:Own)(l:List Nat):pok a o (n+1) (usV l)=True:=rfl
theorem ycik(l:List Nat):SV.cells (usV l)=[usV l]:=rfl
theorem ybmn(l:List Conf):one1 (yjg l)=true:=rfl
theorem ybje{n:Nat}(l:List Conf):owned (n+1) (yjg l)=false:=rfl
theorem ybed{n:Nat}(l:List Conf):scalar (n+1) (yjg l)=false:=rfl
theorem ybky{n:Nat}(o:Own)(l:List Conf):view o (n+1) (yjg l)=yjg l:=rfl
theorem ybtn{n:Nat}(o:Own)(l:List Conf):vok o (n+1) (yjg l)=True:=rfl
theorem ybsz{n:Nat}(h:Nm->Nm)(l:List Conf):ren h (n+1) (yjg l)=yjg l:=rfl
theorem ybso{n:Nat}(D:Nm->Bool)(l:List Conf):cln D (n+1) (yjg l)=true:=rfl
theorem ybha{n:Nat}(a:List Nm)(o:Own)(l:List Conf):ydt a o (n+1) (yjg l)=yjg l:=rfl
theorem ybua{n:Nat}(a:List Nm)(o:Own)(l:List Conf):pok a o (n+1) (yjg l)=True:=rfl
theorem ybja(l:List Conf):SV.cells (yjg l)=[yjg l]:=rfl
theorem ybus(l:List Cnt):one1 (yqc l)=true:=rfl
theorem ybmc{n:Nat}(l:List Cnt):owned (n+1) (yqc l)=false:=rfl
theorem ybhx{n:Nat}(l:List Cnt):scalar (n+1) (yqc l)=false:=rfl
theorem ybvq{n:Nat}(o:Own)(l:List Cnt):view o (n+1) (yqc l)=yqc l:=rfl
theorem yckb{n:Nat}(o:Own)(l:List Cnt):vok o (n+1) (yqc l)=True:=rfl
theorem ybyw{n:Nat}(h:Nm->Nm)(l:List Cnt):ren h (n+1) (yqc l)=yqc l:=rfl
theorem ybzv{n:Nat}(D:Nm->Bool)(l:List Cnt):cln D (n+1) (yqc l)=true:=rfl
theorem ybnx{n:Nat}(a:List Nm)(o:Own)(l:List Cnt):ydt a o (n+1) (yqc l)=yqc l:=rfl
theorem ycbh{n:Nat}(a:List Nm)(o:Own)(l:List Cnt):pok a o (n+1) (yqc l)=True:=rfl
theorem ybkr(l:List Cnt):SV.cells (yqc l)=[yqc l]:=rfl
theorem yclv(l:List Bool):one1 (blV l)=true:=rfl
theorem ycdx{n:Nat}(l:List Bool):owned (n+1) (blV l)=false:=rfl
theorem ybub{n:Nat}(l:List Bool):scalar (n+1) (blV l)=false:=rfl
theorem ycpt{n:Nat}(o:Own)(l:List Bool):view o (n+1) (blV l)=blV l:=rfl
theorem ydny{n:Nat}(o:Own)(l:List Bool):vok o (n+1) (blV l)=True:=rfl
theorem ydgv{n:Nat}(h:Nm->Nm)(l:List Bool):ren h (n+1) (blV l)=blV l:=rfl
theorem ydnm{n:Nat}(D:Nm->Bool)(l:List Bool):cln D (n+1) (blV l)=true:=rfl
theorem ybyo{n:Nat}(a:List Nm)(o:Own)(l:List Bool):ydt a o (n+1) (blV l)=blV l:=rfl
theorem ydih{n:Nat}(a:List Nm)(o:Own)(l:List Bool):pok a o (n+1) (blV l)=True:=rfl
theorem ychr(l:List Bool):SV.cells (blV l)=[blV l]:=rfl
attribute [go_sem] yckv yciv ybux ycll ydgs ydhj ydme ybzt ydjg ycik ybmn ybje ybed ybky ybtn ybsz ybso ybha ybua ybja ybus ybmc ybhx ybvq yckb ybyw ybzv ybnx ycbh ybkr yclv ycdx ybub ycpt ydny ydgv ydnm ybyo ydih ychr
theorem Ct.found{P:Program}{g:FuncId}{args:List SV}{f:Type}{R:SV->f->Prop}{V:f->SV}{Q:SV->Prop}(h:Ct P g args fun r=>∃x,R r x)(n:∀r x,R r x->Sim r (V x))(l:∀r x,R r x->Q (V x)):Ct P g args Q:=fun G m p i j k=>by
 obtain⟨v,o,r,a,b,c,⟨x,d⟩,e⟩:=h G m p i j k;exact⟨v,o,V x,a,b,c,l r x d,n r x d _ _ _ e⟩
structure RunD(S:Sys)(res:Nat->Nat->Nat)(ws:List Nat)(c:Conf)(n:Nat)(Cs:List Conf)(Ks:List Cnt):Prop where
 cs:(S.runs res ws c).map (·.1)=Cs
 ks:(S.runs res ws c).map (·.2)=Ks
 len:(S.runs res ws c).length=n
 pos:0<n
 le:n<=ws.length+1
end Sh
end
section
def ybnm(g:Gr):Bool:=yil g&&decide (yor g/2+1=g.ports.length)
theorem ycdr{g:Type}[DecidableEq g]:∀{l1 l2:List g},l1.Nodup->(∀x∈l1,x∈l2)->l2.length<=l1.length->∀x∈l2,x∈l1
 | [],l2,_,_,h,x,c=>by
   have:l2=[]:=zAW (by simpa using h)
   rw[this]at c;exact absurd c zBI
 | a :: t,l2,b,d,h,x,c=>by
   have b:=List.nodup_cons.1 b
   by_cases q:x=a
   .rw[q];exact zK
   .refine zL _ (ycdr (l2:=l2.erase a) b.2 (fun y f=>?_) ?_ x ((zAR q).2 c))
    .refine(zAR fun e=>b.1 (by rw[<-e];exact f)).2 (d y (zL _ f))
    .rw[zAJ (d a zK)];simp only[zBJ]at h;omega
structure TreeM(g:Gr):Prop where
 up:∀a v u,a<g.ports.length->adj g v u->(ydy g a).getD u 0=(ydy g a).getD v 0-1\/(ydy g a).getD u 0=(ydy g a).getD v 0+1
 one:∀a v u w,a<g.ports.length->adj g v u->adj g v w->(ydy g a).getD u 0=(ydy g a).getD v 0-1->(ydy g a).getD w 0=(ydy g a).getD v 0-1->u=w
theorem ydvz{g:Gr}(r:ybh g)(H:yil g=true)(R:yor g<=2*(g.ports.length-1)):TreeM g:=by
 have s:∀a,a<g.ports.length->∃up:Nat->Nat,∀v u,adj g v u->(v≠a/\u=up v/\(ydy g a).getD u 0=(ydy g a).getD v 0-1)\/(ydy g a).getD u 0=(ydy g a).getD v 0+1:=fun a m=>by
  have ex:∀v,v<g.ports.length->v≠a->∃u,adj g v u/\(ydy g a).getD u 0=(ydy g a).getD v 0-1:=fun v j k=>yceq r H m j k
  obtain⟨up,d⟩:∃up:Nat->Nat,∀v,v<g.ports.length->v≠a->adj g v (up v)/\(ydy g a).getD (up v) 0=(ydy g a).getD v 0-1:=by
   refine⟨fun v=>if h:v<g.ports.length/\v≠a then zDF (ex v h.1 h.2)else 0,fun v j k=>?_⟩
   simp only[dif_pos (show v<g.ports.length/\v≠a from⟨j,k⟩)]
   exact zDB (ex v j k)
  let U:List (Nat×Nat):=((zG g.ports.length).erase a).map fun v=>(v,up v)
  let P:List (Nat×Nat):=(zG g.ports.length).flatMap fun v=>(g.ports.getD v []).map fun l=>(v,l.1.toNat)
  have B:((zG g.ports.length).erase a).Nodup:=List.nodup_range.erase a
  have z:∀x y,(x,y)∈U↔x<g.ports.length/\x≠a/\y=up x:=fun x y=>by
   show(x,y)∈((zG g.ports.length).erase a).map (fun v=>(v,up v))↔_;rw[List.mem_map];constructor
   .rintro⟨v,j,e⟩;cases e
    have j:=(List.nodup_range.mem_erase_iff).1 j;exact⟨List.mem_range.1 j.2,j.1,rfl⟩
   .rintro⟨b,c,rfl⟩;exact⟨x,(List.nodup_range.mem_erase_iff).2 ⟨c,List.mem_range.2 b⟩,rfl⟩
  have C:∀x y,(x,y)∈P↔x<g.ports.length/\adj g x y:=fun x y=>by
   show(x,y)∈zCM _ _↔_;rw[List.mem_flatMap];constructor
   .rintro⟨v,j,h⟩;obtain⟨l,A,e⟩:=List.mem_map.1 h;cases e
    have j:=List.mem_range.1 j;exact⟨j,(yds r j A).2.2.1⟩
   .rintro⟨b,c⟩;obtain⟨l,A,e⟩:=ycdf c;exact⟨x,List.mem_range.2 b,List.mem_map.2 ⟨l,A,by rw[e]⟩⟩
  have t:∀x y,(x,y)∈U->(ydy g a).getD y 0=(ydy g a).getD x 0-1:=fun x y h=>by
   obtain⟨b,c,rfl⟩:=(z x y).1 h;exact(d x b c).2
  have E:U.Nodup:=by
   show(((zG g.ports.length).erase a).map (fun v=>(v,up v))).Nodup;rw[List.Nodup,zBG];exact B.imp fun h e=>h (congrArg Prod.fst e)
  have N:(U.map fun p=>(p.2,p.1)).Nodup:=by
   rw[List.Nodup,zBG];exact E.imp fun h e=>h (by simp only[Prod.mk.injEq]at e;exact Prod.ext e.2 e.1)
  have D:(U++U.map fun p=>(p.2,p.1)).Nodup:=by
   rw[List.nodup_append];refine⟨E,N,?_⟩;rintro⟨x,y⟩ b ⟨S,T⟩ c e;cases e
   obtain⟨⟨p,q⟩,f,e⟩:=List.mem_map.1 c;cases e
   have F:=t _ _ b;have G:=t _ _ f;simp only at F G;omega
  have M:U.length=g.ports.length-1:=by
   show(List.map _ _).length=_;rw[zAI,zAJ (List.mem_range.2 m),List.length_range]
  have L:P.length=yor g:=by
   show(zCM _ _).length=_;rw[List.length_flatMap];unfold yor;congr 1;refine List.ext_getElem (by simp) fun i b c=>?_
   have I:i<g.ports.length:=by simpa using c
   simp[zAC,I]
  have o:=ycdr D (l2:=P) (fun p J=>by
   obtain⟨x,y⟩:=p;rcases List.mem_append.1 J with h|h
   .obtain⟨b,c,rfl⟩:=(z x y).1 h;exact(C _ _).2 ⟨b,(d x b c).1⟩
   .obtain⟨⟨p,q⟩,f,e⟩:=List.mem_map.1 h;cases e
    obtain⟨b,c,e⟩:=(z _ _).1 f;simp only at e ⊢;subst e;have n:=(d p b c).1;exact(C _ _).2 ⟨(r.adj_lt n).2,r.adj_symm n⟩) (by have K:(U.map fun p=>(p.2,p.1)).length=U.length:=zAI _;rw[zI,K,M,L];omega)
  refine⟨up,fun v u h=>?_⟩;have b:=o (v,u) ((C v u).2 ⟨(r.adj_lt h).1,h⟩);rcases List.mem_append.1 b with h|h
  .left
   obtain⟨_,c,f⟩:=(z v u).1 h;exact⟨c,f,t _ _ h⟩
  .right
   obtain⟨⟨p,q⟩,f,e⟩:=List.mem_map.1 h;cases e
   have:=t _ _ f;simp only at this ⊢;omega
 constructor
 .intro a v u m h;obtain⟨up,d⟩:=s a m;rcases d v u h with⟨_,_,f⟩|f
  .exact .inl f
  .exact .inr f
 .intro a v u w m b c O Q;obtain⟨up,d⟩:=s a m;rcases d v u b with⟨_,f,_⟩|f
  .rcases d v w c with⟨_,n,_⟩|n
   .rw[f,n]
   .omega
  .omega
end
section
structure Tr(g:Gr):Prop where
 good:ybh g
 conn:yil g=true
 m:TreeM g
section
variable {g:Gr}{a b u v w x:Nat}
end
end
section
namespace Sh
open Go Ev
def ycrl:LO:=[bx' 77 0 1 0,o3 (.mv (.const (.nilFunc))) 2 0]
def ydag:LO:=[o3 (.mkfn 172 [] [(.tmp 1)]) 3 0,mv' 3 2 1]
def c129:SC:=(sr ycrl <| sr ydag <| .ret)
theorem ycmg:FnM 129 c129 [.t 2]:=fn_m Tryz.func129
end Sh
end
section
theorem TreeTo.tr{x:NetR}{g:Gr}(a:ybh g)(h:TreeTo x g.ports.length g):Tr g:=by
 have b:=Tre.conn a h.tre;refine⟨a,b,ydvz a b ?_⟩;have:=h.count;have:=a.1;omega
namespace Sh
open Ev Go.RowKit
theorem ybfm(g:Gr):vok (yhs g.ports) 5 (yxx g)/\Sim (view (yhs g.ports) 5 (yxx g)) (grV g):=by
 obtain⟨P,b⟩:∃P,g.ports=P:=⟨_,rfl⟩;simp only[yxx,yhs,grV,b,go_sem,zA];refine⟨fun q a=>?_,?_⟩
 .simp only[if_pos a];exact⟨zAK _,fun k hk=>by simp only[rowO,go_sem]⟩
 .refine ybqo ⟨Sim.refl _,?_,trivial⟩;refine yec fun q a=>?_;simp only[if_pos a];simp only[rowO,ybc,go_sem];exact⟨Sim.refl _,trivial⟩
theorem ybzb{x:NetR}(j:x.ok){most:Nat}(f:1<=most/\most<=24) :
 Ct zH 10 [.ag (netC x),.i .i64 most] fun r=>∃g,Tr g/\ybnm g=true/\(g.ports.length<=most/\(g.ports.length:Int)=1+yea (IntKind.wrap .i64 (x.n-1)) most/\ybid x g.ids)/\Sim r (grV g) :=
 (ydjs j f).ct fun r k ⟨g,b,c,h,d,e⟩=>by
   subst d e;have a:=c.tr b;refine⟨(ybfm g).1,g,a,?_,h,(ybfm g).2⟩;unfold ybnm;rw[a.conn];have:=c.count;have:=b.1;simp only[zCI,decide_eq_true_eq];omega
theorem ycld{x:NetR}(f:x.ok){most:Nat}(e:1<=most/\most<=24) :
 Ct zH 10 [.ag (netC x),.i .i64 most] fun r=>∃g,Tr g/\ybnm g=true/\g.ports.length<=most/\Sim r (grV g) :=
 (ybzb f e).mono fun _ ⟨g,a,b,c,d⟩=>⟨g,a,b,c.1,d⟩
end Sh
end
section
namespace Sh
open Go Ev
def ydxm:LO:=[nl' 4 0]
def ydrz:LO:=[mv' 0 8 0,ln' 8 9 1,o3 (.mk 22 1 24 [.a (.slice none 0 0)] (.tmp 9) (.tmp 9)) 10 3,mv' 10 5 7]
def ydwz:LO:=[mv' 0 11 0,ln' 11 12 1,mc 0 13 0]
def ydjp:LO:=[bn' .lss 13 12 14 0]
def ydrm:LO:=[mv' 13 15 0,mv' 15 6 1]
def yeak:LO:=[mv' 5 16 0,mv' 6 17 0,mv' 0 18 0,mv' 6 19 0,ix' 1 18 19 20 12,ld' 1 20 21 28,ln' 21 22 60,o3 (.mk 3 1 8 [.i .i64 0] (.tmp 22) (.tmp 22)) 23 124,ix' 1 16 17 24 255,sto 1 24 23 511]
def ydsl:LO:=[mv' 0 25 0,mv' 6 26 0,ix' 1 25 26 27 3,ld' 1 27 28 7,ln' 28 29 15,mc 0 30 0]
def ydli:LO:=[bn' .lss 30 29 31 0]
def ydov:LO:=[mv' 30 32 0,mv' 32 7 1]
def ydxt:LO:=[mv' 5 33 0,mv' 6 34 0,ix' 1 33 34 35 3,ld' 1 35 36 7,mv' 7 37 0,mv' 1 38 0,mv' 6 39 0,mv' 7 40 0,o3 (.call (.tmp 38) [(.tmp 39),(.tmp 40)]) 41 224,ix' 1 36 37 42 511,sto 1 42 41 1023]
def ycxw:LO:=[bc .add 30 1 43 0,mv' 43 30 1]
def ydbf:LO:=[bc .add 13 1 44 0,mv' 44 13 1]
def yddm:LO:=[mv' 5 45 0,mv' 45 4 1]
def c65:SC:=(sr ydxm <| sr ydrz <| .seq (sr ydwz <| .block 0 (.loop (sr ydjp <| .seq (cn 14 .skip (.exit 0)) (.seq (.block 1 (sr ydrm <| sr yeak <| sr ydsl <| .block 2 (.loop (sr ydli <| .seq (cn 31 .skip (.exit 2)) (.seq (.block 3 (sr ydov <| .reg true ydxt)) (.reg false ycxw)))))) (.reg false ydbf))))) (sr yddm <| .ret))
theorem ydio:FnM 65 c65 [.t 4]:=fn_m Tryz.func65
def ydya:LO:=[bx' 32 0 2 0,bx' 27 1 3 0,nl' 4 0,mc 0 5 4]
def ydzl:LO:=[la' 3 2 8 0,la' 2 3 9 0,cl' 62 [8,9] 10 3,mv' 10 6 7]
def ydwv:LO:=[mv' 6 11 0,bc .neq 11 0 12 1]
def yefp:LO:=[mv' 6 13 0,nl' 4 0,mv' 13 5 3]
def ydqb:LO:=[la' 3 2 14 0,la' 2 3 15 0,cl' 63 [14,15] 16 3,o3 (.alloc 84 1 [.a (.slice none 0 0)]) 7 0,sto 1 7 16 15]
def ydwi:LO:=[ld' 1 7 17 0,o3 (.mkfn 125 [] [(.tmp 7)]) 18 0,cl' 65 [17,18] 19 3,mv' 19 4 7,mc 0 5 15]
def c59:SC:=(sr ydya <| .seq (sr ydzl <| sr ydwv <| cn 12 (sr yefp <| .ret) .skip) (sr ydqb <| sr ydwi <| .ret))
theorem ydja:FnM 59 c59 [.t 4,.t 5]:=fn_m Tryz.func59
def ycsw:LO:=[mc 0 5 0]
def ydaf:LO:=[ld' 1 2 6 0,mv' 0 7 0,ix' 1 6 7 8 3,ld' 1 8 9 7,mv' 1 10 0,ix' 2 9 10 11 31,o3 (.idxA 2 1 (.tmp 11) (ci' 0)) 12 63,ld' 1 12 13 127,mv' 13 5 255]
def c125:SC:=(sr ycsw <| sr ydaf <| .ret)
theorem ydla:Fn 125 c125 [.t 5]:=fn_0 Tryz.func125
def ydrx:LO:=[bx' 32 0 2 0,bx' 27 1 3 0,mc 0 4 0,mc 0 5 4]
def ydqq:LO:=[la' 3 2 7 0,la' 2 3 8 0,cl' 62 [7,8] 9 3,mv' 9 6 7]
def ydrn:LO:=[mv' 6 10 0,bc .neq 10 0 11 1]
def yefj:LO:=[mv' 6 12 0,mc 0 4 0,mv' 12 5 3]
def ydys:LO:=[la' 3 2 13 0,la' 2 3 14 0,cl' 63 [13,14] 15 3,cl' 64 [15] 16 7,xt' 16 0 17 15,xt' 16 1 18 15,mv' 17 4 63,mv' 18 5 127]
def c56:SC:=(sr ydrx <| .seq (sr ydqq <| sr ydrn <| cn 11 (sr yefj <| .ret) .skip) (sr ydys <| .ret))
theorem ydvn:Fn 56 c56 [.t 4,.t 5]:=fn_0 Tryz.func56
def ydwo:LO:=[mc 0 2 0,mc 0 3 1]
def ydsn:LO:=[mc 1 4 0]
def ydws:LO:=[mv' 0 9 0,ln' 9 10 1,mc 0 11 0]
def ydkb:LO:=[bn' .lss 11 10 12 0]
def ydpo:LO:=[ix' 1 9 11 13 0,ld' 1 13 14 1,mv' 14 6 3]
def ydvq:LO:=[mv' 6 15 0,ln' 15 16 1,mc 0 17 0]
def ydia:LO:=[bn' .lss 17 16 18 0]
def ydog:LO:=[ix' 2 15 17 19 0,la' 2 19 20 1,o3 (.alloc 91 1 [.i .i64 0,.i .i64 0]) 8 0,sto 2 8 20 7]
def ydqp:LO:=[mv' 4 21 0,o3 (.idxA 2 1 (.tmp 8) (ci' 1)) 22 0,ld' 1 22 23 2,o3 (.idxA 2 1 (.tmp 8) (ci' 0)) 24 0,ld' 1 24 25 8,bn' .sub 23 25 26 30,bc .add 26 1 27 62,bn' .mul 21 27 28 127,mv' 28 4 255]
def yduz:LO:=[mv' 4 29 0,bc .gtr 29 32768 30 1]
def ydpq:LO:=[mc 0 2 0,mc 3 3 1]
def ydce:LO:=[bc .add 17 1 31 0,mv' 31 17 1]
def ydej:LO:=[bc .add 11 1 32 0,mv' 32 11 1]
def ycxy:LO:=[mv' 4 33 0,mv' 33 2 1,mc 0 3 3]
def c64:SC:=(sr ydwo <| sr ydsn <| .seq (sr ydws <| .block 0 (.loop (sr ydkb <| .seq (cn 12 .skip (.exit 0)) (.seq (.block 1 (sr ydpo <| sr ydvq <| .block 2 (.loop (sr ydia <| .seq (cn 18 .skip (.exit 2)) (.seq (.block 3 (sr ydog <| sr ydqp <| sr yduz <| cn 30 (sr ydpq <| .ret) .skip)) (.reg false ydce)))))) (.reg false ydej))))) (sr ycxy <| .ret))
theorem yecp:Fn 64 c64 [.t 2,.t 3]:=fn_0 Tryz.func64
def ydtq:LO:=[bx' 32 0 3 0,bx' 27 1 4 0,bx' 3 2 5 0,nl' 6 0,mc 0 7 8]
def yecc:LO:=[la' 3 3 18 0,la' 2 4 19 0,cl' 62 [18,19] 20 3,mv' 20 8 7]
def ydvi:LO:=[mv' 8 21 0,bc .neq 21 0 22 1]
def yefn:LO:=[mv' 8 23 0,nl' 6 0,mv' 23 7 3]
def yebg:LO:=[la' 3 3 24 0,la' 2 4 25 0,cl' 63 [24,25] 26 3,o3 (.alloc 84 1 [.a (.slice none 0 0)]) 9 0,sto 1 9 26 15]
def ydur:LO:=[ld' 1 9 28 0,cl' 64 [28] 29 1,mv' 29 27 3,xt' 27 0 30 7,xt' 27 1 31 7,mv' 30 10 15,mv' 31 11 63]
def ydzk:LO:=[mv' 11 32 0,bc .neq 32 0 33 1]
def yefr:LO:=[mv' 11 34 0,nl' 6 0,mv' 34 7 3]
def ydzc:LO:=[ld' 1 5 35 0,bc .lss 35 0 36 1,mv' 36 37 3,gf (.load false 1 (.tmp 5)) 38 37 7,gf (.mv (.tmp 10)) 39 37 7,gf (.bin .geq (.tmp 38) (.tmp 39)) 40 37 31,pk' 37 40 41 63]
def yedx:LO:=[nl' 6 0,mc 2 7 1]
def ycsa:LO:=[ld' 1 9 42 0,o3 (.mkfn 66 [] [(.tmp 9)]) 43 0,cl' 65 [42,43] 44 3,o3 (.alloc 46 1 [.a (.slice none 0 0)]) 12 0,sto 1 12 44 15]
def ycxa:LO:=[ld' 1 9 45 0,cl' 67 [45] 46 1]
def ydci:LO:=[o3 (.alloc 3 1 [.i .i64 0]) 13 0,sto 1 13 47 1]
def ycrv:LO:=[mv' 48 14 0]
def ydar:LO:=[mv' 14 49 0,cl' 68 [49] 50 1]
def yddv:LO:=[mv' 51 15 0]
def ycvf:LO:=[o3 (.alloc 91 1 [.i .i64 0,.i .i64 0]) 16 0,sto 2 16 52 1]
def ycvc:LO:=[o3 (.idxA 2 1 (.tmp 16) (ci' 1)) 53 0,ld' 1 53 54 1,o3 (.idxA 2 1 (.tmp 16) (ci' 0)) 55 0,ld' 1 55 56 4,bn' .sub 54 56 57 15,bc .add 57 1 58 31,mv' 58 17 63]
def ycus:LO:=[ld' 1 12 59 0,ld' 1 13 60 0,ix' 1 59 60 61 3,ld' 1 61 62 7,mv' 15 63 0,ix' 1 62 63 64 31,ld' 1 64 65 63,ld' 1 5 66 0,mv' 17 67 0,bn' .rem 66 67 68 384,bn' .add 65 68 69 1023,ix' 1 62 63 70 2047,sto 1 70 69 4095]
def ydad:LO:=[ld' 1 5 71 0,mv' 17 72 0,bn' .quo 71 72 73 3,sto 1 5 73 7]
def ydct:LO:=[ld' 1 12 74 0,mv' 74 6 1,mc 0 7 3]
def c15:SC:=(sr ydtq <| .seq (sr yecc <| sr ydvi <| cn 22 (sr yefn <| .ret) .skip) (sr yebg <| sr ydur <| .seq (sr ydzk <| cn 33 (sr yefr <| .ret) .skip) (.seq (sr ydzc <| cn 41 (sr yedx <| .ret) .skip) (sr ycsa <| .seq (sr ycxa <| .block 0 (.range (.tmp 46) [47,48] (sr ydci <| .reg false ycrv) (.block 1 (sr ydar <| .block 2 (.range (.tmp 50) [51,52] (sr yddv <| .reg false ycvf) (.block 3 (sr ycvc <| .seq (.reg true ycus) (.reg false ydad)))))))) (sr ydct <| .ret)))))
theorem ydls:FnU 15 c15 [.t 6,.t 7]:=fn_u Tryz.func15
def yebe:LO:=[mc 0 5 0]
def ydtj:LO:=[ld' 1 2 6 0,mv' 0 7 0,ix' 1 6 7 8 3,ld' 1 8 9 7,mv' 1 10 0,ix' 2 9 10 11 31,o3 (.idxA 2 1 (.tmp 11) (ci' 0)) 12 63,ld' 1 12 13 127,mv' 13 5 255]
def c66:SC:=(sr yebe <| sr ydtj <| .ret)
theorem ydtz:Fn 66 c66 [.t 5]:=fn_0 Tryz.func66
def ydpx:LO:=[bx' 46 1 3 0]
def ydyg:LO:=[mv' 0 8 0,cl' 67 [8] 9 1]
def ydtw:LO:=[o3 (.alloc 3 1 [.i .i64 0]) 4 0,sto 1 4 10 1]
def yece:LO:=[mv' 11 5 0]
def ydoo:LO:=[mv' 5 12 0,cl' 68 [12] 13 1]
def ydml:LO:=[mv' 14 6 0]
def ydgr:LO:=[o3 (.alloc 91 1 [.i .i64 0,.i .i64 0]) 7 0,sto 2 7 15 1]
def ydkc:LO:=[ld' 1 3 16 0,ld' 1 4 17 0,ix' 1 16 17 18 3,ld' 1 18 19 7,mv' 6 20 0,ix' 1 19 20 21 31,ld' 1 21 22 63,o3 (.idxA 2 1 (.tmp 7) (ci' 1)) 23 0,ld' 1 23 24 128,bn' .lss 22 24 25 511]
def ydyr:LO:=[ld' 1 3 26 0,ld' 1 4 27 0,ix' 1 26 27 28 3,ld' 1 28 29 7,mv' 6 30 0,ix' 1 29 30 31 31,ld' 1 31 32 63,bc .add 32 1 33 127,ix' 1 29 30 34 255,sto 1 34 33 511]
def ydqd:LO:=[ld' 1 3 35 0,ld' 1 4 36 0,ix' 1 35 36 37 3,ld' 1 37 38 7,mv' 6 39 0,o3 (.idxA 2 1 (.tmp 7) (ci' 0)) 40 0,ld' 1 40 41 32,ix' 1 38 39 42 127,sto 1 42 41 255]
def c61:SC:=(sr ydpx <| sr ydyg <| .block 0 (.range (.tmp 9) [10,11] (sr ydtw <| .reg false yece) (.block 1 (sr ydoo <| .block 2 (.range (.tmp 13) [14,15] (sr ydml <| .reg false ydgr) (.block 3 (.seq (.seq (.reg true ydkc) (cn 25 (sr ydyr <| .ret) .skip)) (.reg true ydqd))))))))
theorem ydlk:FnM 61 c61 []:=fn_m Tryz.func61
def ydst:LO:=[bx' 84 0 1 0,o3 (.mv (.const (.nilFunc))) 2 0]
def yeco:LO:=[o3 (.mkfn 133 [] [(.tmp 1)]) 3 0,mv' 3 2 1]
def c67:SC:=(sr ydst <| sr yeco <| .ret)
theorem ydph:Fn 67 c67 [.t 2]:=fn_0 Tryz.func67
def ydbe:LO:=[bx' 41 0 1 0,mb false 2 0]
def yddz:LO:=[fa' 0 1 1 6 0,ld' 1 6 7 1,ln' 7 8 3,mv' 8 3 7]
def ycrm:LO:=[mv' 3 9 0,bc .lss 9 1 10 1,mv' 10 11 3,gf (.mv (.tmp 3)) 12 11 7,gf (.bin .gtr (.tmp 12) (ci' 32768)) 13 11 15,pk' 11 13 14 31,mv' 14 15 63,gf (.faddr 1 1 (.tmp 1)) 16 15 127,gf (.load false 1 (.tmp 16)) 17 15 255,gf (.len (.tmp 17)) 18 15 511,gf (.mv (.tmp 3)) 19 15 127,gf (.bin .neq (.tmp 18) (.tmp 19)) 20 15 2047,pk' 15 20 21 4095]
def yebh:LO:=[mb false 2 0]
def ycsf:LO:=[mc 0 4 0]
def yctz:LO:=[mv' 3 22 0,mc 0 23 0]
def ycfo:LO:=[bn' .lss 23 22 24 0]
def ycts:LO:=[mv' 23 25 0,mv' 25 5 1]
def ydau:LO:=[mv' 4 26 0,fa' 1 1 1 27 0,ld' 1 27 28 2,mv' 5 29 0,ix' 1 28 29 30 14,ld' 1 30 31 30,ln' 31 32 62,bn' .add 26 32 33 127,mv' 33 4 255]
def ydbn:LO:=[mv' 4 34 0,bc .gtr 34 262144 35 1,mv' 35 36 3,gf (.faddr 0 1 (.tmp 1)) 37 36 7,gf (.load false 1 (.tmp 37)) 38 36 15,gf (.mv (.tmp 5)) 39 36 7,gf (.idx 1 (.tmp 38) (.tmp 39)) 40 36 63,gf (.load false 1 (.tmp 40)) 41 36 127,gf (.faddr 1 1 (.tmp 1)) 42 36 7,gf (.load false 1 (.tmp 42)) 43 36 263,gf (.mv (.tmp 5)) 44 36 7,gf (.idx 1 (.tmp 43) (.tmp 44)) 45 36 1799,gf (.load false 1 (.tmp 45)) 46 36 3847,gf (.mv (.tmp 3)) 47 36 7,gf (.call (.func 180) [(.tmp 41),(.tmp 46),(.tmp 47)]) 48 36 16383,gf (.un .not (.tmp 48)) 49 36 32767,pk' 36 49 50 65535]
def ydjy:LO:=[mb false 2 0]
def ycem:LO:=[bc .add 23 1 51 0,mv' 51 23 1]
def ybyi:LO:=[mb true 2 0]
def c136:SC:=(sr ydbe <| sr yddz <| .seq (sr ycrm <| cn 21 (sr yebh <| .ret) .skip) (sr ycsf <| .seq (sr yctz <| .block 0 (.loop (sr ycfo <| .seq (cn 24 .skip (.exit 0)) (.seq (.block 1 (sr ycts <| sr ydau <| .seq (.reg true ydbn) (cn 50 (sr ydjy <| .ret) .skip))) (.reg false ycem))))) (sr ybyi <| .ret)))
theorem ydgj:Fn 136 c136 [.t 2]:=fn_0 Tryz.func136
def ydat:LO:=[mb false 6 0]
def ycvw:LO:=[mv' 0 10 0,o3 (.bin .shr (.tmp 10) (.const (.int .u64 24))) 11 1,o3 (.bin .neq (.tmp 11) (.const (.int .u32 0))) 12 3,mv' 12 13 7,gf (.mv (.tmp 0)) 14 13 15,gf (.bin .neq (.tmp 14) (.const (.int .u32 0))) 15 13 31,gf (.mv (.tmp 1)) 16 13 15,gf (.len (.tmp 16)) 17 13 79,gf (.bin .gtr (.tmp 17) (ci' 0)) 18 13 207,gf (.beq true (.tmp 15) (.tmp 18)) 19 13 511,pk' 13 19 20 1023]
def ydwp:LO:=[mb false 6 0]
def ycxi:LO:=[o3 (.mv (.const (.int .u32 0))) 7 0]
def ydfa:LO:=[mv' 1 21 0,ln' 21 22 1,mc 0 23 0]
def ycgw:LO:=[bn' .lss 23 22 24 0]
def ycvl:LO:=[ix' 2 21 23 25 0,la' 2 25 26 1,o3 (.alloc 103 1 [.i .u32 0,.i .i64 0]) 9 0,sto 2 9 26 7]
def ycra:LO:=[fa' 0 1 9 27 0,ld' 1 27 28 1,mv' 7 29 0,bn' .leq 28 29 30 7,mv' 30 31 15,gf (.faddr 0 1 (.tmp 9)) 32 31 31,gf (.load false 1 (.tmp 32)) 33 31 63,gf (.mv (.tmp 0)) 34 31 31,gf (.bin .andNot (.tmp 33) (.tmp 34)) 35 31 255,gf (.bin .neq (.tmp 35) (.const (.int .u32 0))) 36 31 511,pk' 31 36 37 1023,mv' 37 38 2047,gf (.faddr 1 1 (.tmp 9)) 39 38 4095,gf (.load false 1 (.tmp 39)) 40 38 8191,gf (.bin .lss (.tmp 40) (ci' 0)) 41 38 16383,pk' 38 41 42 32767,mv' 42 43 65535,gf (.faddr 1 1 (.tmp 9)) 44 43 131071,gf (.load false 1 (.tmp 44)) 45 43 262143,gf (.mv (.tmp 2)) 46 43 131071,gf (.bin .geq (.tmp 45) (.tmp 46)) 47 43 1048575,pk' 43 47 48 2097151]
def ycsy:LO:=[mb false 6 0]
def ycuy:LO:=[fa' 0 1 9 49 0,ld' 1 49 50 1,mv' 50 7 3]
def ybzy:LO:=[bc .add 23 1 51 0,mv' 51 23 1]
def yblv:LO:=[mb true 6 0]
def c180:SC:=(sr ydat <| .seq (sr ycvw <| cn 20 (sr ydwp <| .ret) .skip) (sr ycxi <| .seq (sr ydfa <| .block 0 (.loop (sr ycgw <| .seq (cn 24 .skip (.exit 0)) (.seq (.block 1 (sr ycvl <| .seq (sr ycra <| cn 48 (sr ycsy <| .ret) .skip) (.reg false ycuy))) (.reg false ybzy))))) (sr yblv <| .ret)))
theorem ydjm:Fn 180 c180 [.t 6]:=fn_0 Tryz.func180
def ydrk:LO:=[bx' 32 0 3 0,bx' 27 1 4 0,o3 (.alloc 41 1 [.a (.slice none 0 0),.a (.slice none 0 0)]) 6 0,mc 0 7 0]
def ydti:LO:=[la' 3 3 20 0,la' 2 4 21 0,cl' 56 [20,21] 22 3,mv' 22 19 7,xt' 19 0 23 15,xt' 19 1 24 15,mv' 23 8 31,mv' 24 9 127]
def ydoh:LO:=[mv' 9 25 0,bc .neq 25 0 26 1,mv' 26 27 3,gt (.mv (.tmp 9)) 28 27 7,gt (.bin .neq (.tmp 28) (ci' 3)) 29 27 15,o3 (.pick (.tmp 27) (.tmp 29) (.const (.bool false))) 30 31]
def yefo:LO:=[o3 (.build [.a (.slice none 0 0),.a (.slice none 0 0)] []) 31 0,mv' 9 32 0,sto 2 6 31 1,mv' 32 7 7]
def yduy:LO:=[mv' 2 33 0,cl' 57 [33] 34 1,o3 (.un .not (.tmp 34)) 35 3]
def yeeb:LO:=[o3 (.build [.a (.slice none 0 0),.a (.slice none 0 0)] []) 36 0,sto 2 6 36 1,mc 12 7 3]
def ydzb:LO:=[mv' 9 37 0,bc .neq 37 0 38 1]
def yedw:LO:=[o3 (.build [.a (.slice none 0 0),.a (.slice none 0 0)] []) 39 0,mv' 9 40 0,sto 2 6 39 1,mv' 40 7 7]
def ydyv:LO:=[la' 3 3 41 0,la' 2 4 42 0,mv' 2 43 0,cl' 58 [41,42,43] 44 7,mv' 44 10 15]
def ydsz:LO:=[mv' 8 45 0,o3 (.mk 77 1 4 [.i .u32 0] (.tmp 45) (.tmp 45)) 46 1,mv' 8 47 0,o3 (.mk 78 1 24 [.a (.slice none 0 0)] (.tmp 47) (.tmp 47)) 48 4,o3 (.build [.a (.slice none 0 0),.a (.slice none 0 0)] [(0,1,(.tmp 46)),(1,1,(.tmp 48))]) 49 15,o3 (.alloc 41 1 [.a (.slice none 0 0),.a (.slice none 0 0)]) 11 0,sto 2 11 49 63]
def ydeb:LO:=[la' 3 3 51 0,la' 2 4 52 0,cl' 59 [51,52] 53 3,mv' 53 50 7,xt' 50 0 54 15,xt' 50 1 55 15,mv' 54 12 31,mv' 55 13 127]
def ycre:LO:=[mc 0 14 0]
def ydfj:LO:=[mv' 8 56 0,mc 0 57 0]
def ycec:LO:=[bn' .lss 57 56 58 0]
def ycsd:LO:=[mv' 57 59 0,mv' 59 15 1]
def ydel:LO:=[mv' 10 61 0,mv' 12 62 0,mv' 15 63 0,cl' 60 [61,62,63] 64 7,mv' 64 60 15,xt' 60 0 65 31,xt' 60 1 66 31,xt' 60 2 67 31,mv' 65 16 63,mv' 66 17 383,mv' 67 18 1023]
def yctc:LO:=[mv' 14 68 0,mv' 17 69 0,ln' 69 70 2,bn' .add 68 70 71 7,mv' 71 14 15]
def ycud:LO:=[mv' 18 72 0,bc .neq 72 0 73 1,mv' 73 74 3,gf (.mv (.tmp 14)) 75 74 7,gf (.bin .gtr (.tmp 75) (ci' 262144)) 76 74 15,pk' 74 76 77 31]
def ydoc:LO:=[o3 (.build [.a (.slice none 0 0),.a (.slice none 0 0)] []) 78 0,sto 2 6 78 1,mc 3 7 3]
def yddh:LO:=[fa' 0 1 11 79 0,ld' 1 79 80 1,mv' 15 81 0,fa' 1 1 11 82 0,ld' 1 82 83 8,mv' 15 84 0,mv' 16 85 0,mv' 17 86 0,ix' 1 80 81 87 71,sto 1 87 85 327,ix' 1 83 84 88 1023,sto 1 88 86 2047]
def ycui:LO:=[mv' 10 89 0,nk' 89 90 1,fa' 3 1 90 91 3,ld' 1 91 92 7,mv' 12 93 0,cl' 61 [92,93] 94 31]
def ydek:LO:=[bc .add 57 1 95 0,mv' 95 57 1]
def ycrk:LO:=[la' 2 11 96 0,sto 2 6 96 1,mc 0 7 3]
def c14:SC:=(sr ydrk <| sr ydti <| .seq (sr ydoh <| cn 30 (sr yefo <| .ret) .skip) (.seq (sr yduy <| cn 35 (sr yeeb <| .ret) .skip) (.seq (sr ydzb <| cn 38 (sr yedw <| .ret) .skip) (sr ydyv <| .seq (.reg true ydsz) (sr ydeb <| sr ycre <| .seq (sr ydfj <| .block 0 (.loop (sr ycec <| .seq (cn 58 .skip (.exit 0)) (.seq (.block 1 (sr ycsd <| sr ydel <| sr yctc <| .seq (sr ycud <| cn 77 (sr ydoc <| .ret) .skip) (.seq (.reg true yddh) (.reg false ycui)))) (.reg false ydek))))) (sr ycrk <| .ret))))))
theorem ydki:FnU 14 c14 [.c 6 true 2,.t 7]:=fn_u Tryz.func14
def yecd:LO:=[bx' 32 0 3 0,bx' 27 1 4 0,o3 (.mv (.const (.pointer none))) 6 0]
def yedd:LO:=[la' 3 3 11 0,la' 2 4 12 0,cl' 123 [11,12] 13 3,la' 2 4 14 0,cl' 124 [14] 15 15,mv' 2 16 0,la' 3 3 17 0,la' 2 4 18 0,cl' 63 [17,18] 19 223,o3 (.build [.a (.pointer none),.a (.slice none 0 0),.i .i64 0,.a (.slice none 0 0),.a (.slice none 0 0)] [(0,1,(.tmp 13)),(1,1,(.tmp 15)),(2,1,(.tmp 16)),(3,1,(.tmp 19))]) 20 511,bx' 86 20 21 1023,mv' 21 7 2047]
def ydwa:LO:=[mv' 7 22 0,mv' 7 23 0,nk' 23 24 2,fa' 3 1 24 25 6,ld' 1 25 26 14,ln' 26 27 30,o3 (.mk 22 1 24 [.a (.slice none 0 0)] (.tmp 27) (.tmp 27)) 28 62,nk' 22 29 127,fa' 4 1 29 30 255,sto 1 30 28 511]
def ydyp:LO:=[mc 1 8 0]
def ydth:LO:=[mv' 7 31 0,nk' 31 32 1,fa' 3 1 32 33 3,ld' 1 33 34 7,ln' 34 35 15,bc .sub 35 1 36 31,mv' 36 9 63]
def ydnk:LO:=[mv' 9 37 0,bc .geq 37 0 38 1]
def ydxa:LO:=[mv' 7 41 0,nk' 41 42 1,fa' 4 1 42 43 3,ld' 1 43 44 7,mv' 9 45 0,mv' 7 46 0,nk' 46 47 32,fa' 3 1 47 48 96,ld' 1 48 49 224,mv' 9 50 0,ix' 1 49 50 51 992,ld' 1 51 52 2016,ln' 52 53 4064,o3 (.mk 3 1 8 [.i .i64 0] (.tmp 53) (.tmp 53)) 54 8160,ix' 1 44 45 55 16383,sto 1 55 54 32767]
def yebq:LO:=[mv' 7 56 0,nk' 56 57 1,fa' 3 1 57 58 3,ld' 1 58 59 7,mv' 9 60 0,ix' 1 59 60 61 31,ld' 1 61 62 63,ln' 62 63 127,bc .sub 63 1 64 255,mv' 64 10 511]
def ydkn:LO:=[mv' 10 65 0,bc .geq 65 0 66 1]
def ydei:LO:=[mv' 7 69 0,nk' 69 70 1,fa' 4 1 70 71 3,ld' 1 71 72 7,mv' 9 73 0,ix' 1 72 73 74 31,ld' 1 74 75 63,mv' 10 76 0,mv' 8 77 0,ix' 1 75 76 78 511,sto 1 78 77 1023]
def ycsl:LO:=[mv' 8 79 0,mv' 7 80 0,nk' 80 81 2,fa' 3 1 81 82 6,ld' 1 82 83 14,mv' 9 84 0,ix' 1 83 84 85 62,ld' 1 85 86 126,mv' 10 87 0,ix' 2 86 87 88 510,o3 (.idxA 2 1 (.tmp 88) (ci' 1)) 89 1022,ld' 1 89 90 2046,mv' 7 91 0,nk' 91 92 4096,fa' 3 1 92 93 12288,ld' 1 93 94 28672,mv' 9 95 0,ix' 1 94 95 96 126976,ld' 1 96 97 258048,mv' 10 98 0,ix' 2 97 98 99 1044480,o3 (.idxA 2 1 (.tmp 99) (ci' 0)) 100 2093056,ld' 1 100 101 4190208,bn' .sub 90 101 102 8388606,bc .add 102 1 103 16777214,bn' .mul 79 103 104 33554431,mv' 104 8 67108863]
def ydcq:LO:=[mv' 10 67 0,bc .sub 67 1 68 1,mv' 68 10 3]
def ydyh:LO:=[mv' 9 39 0,bc .sub 39 1 40 1,mv' 40 9 3]
def ydfe:LO:=[mv' 7 105 0,mv' 105 6 1]
def c58:SC:=(sr yecd <| .seq (.reg true yedd) (sr ydwa <| sr ydyp <| .seq (sr ydth <| .block 0 (.loop (.seq (sr ydnk <| cn 38 .skip (.exit 0)) (.seq (.block 1 (.seq (.reg true ydxa) (sr yebq <| .block 2 (.loop (.seq (sr ydkn <| cn 66 .skip (.exit 2)) (.seq (.block 3 (sr ydei <| .reg true ycsl)) (.reg false ydcq))))))) (.reg false ydyh))))) (sr ydfe <| .ret)))
theorem ydwu:Fn 58 c58 [.t 6]:=fn_0 Tryz.func58
def ydrv:LO:=[o3 (.mv (.const (.int .u32 0))) 6 0,nl' 7 1,mc 0 8 3]
def ydtn:LO:=[o3 (.mv (.const (.int .u32 0))) 9 0]
def ydvb:LO:=[o3 (.alloc 150 24 [.i .i64 0]) 10 0]
def yecq:LO:=[mv' 1 21 0,ln' 21 22 1,mc 0 23 0]
def ycnn:LO:=[bn' .lss 23 22 24 0]
def ydiu:LO:=[mv' 23 25 0,mv' 25 11 1]
def ydfw:LO:=[mv' 0 26 0,nk' 26 27 1,fa' 0 1 27 28 3,ld' 1 28 29 7,mv' 1 30 0,mv' 11 31 0,cl' 126 [29,30,31] 32 63,mv' 32 12 127]
def ydik:LO:=[mv' 12 33 0,bc .lss 33 0 34 1]
def yebt:LO:=[mv' 9 35 0,mv' 11 36 0,o3 (.bin .shl (.const (.int .u32 1)) (.tmp 36)) 37 2,bn' .or 35 37 38 7,mv' 38 9 15]
def ydvs:LO:=[mv' 0 39 0,nk' 39 40 1,fa' 0 1 40 41 3,ld' 1 41 42 7,mv' 1 43 0,mv' 11 44 0,mv' 12 45 0,cl' 127 [42,43,44,45] 46 127,ln' 46 47 255,mc 0 48 0]
def ybzh:LO:=[bn' .lss 48 47 49 0]
def ycum:LO:=[mv' 48 50 0,ix' 1 46 48 51 0,ld' 1 51 52 2,mv' 50 13 7,mv' 52 14 15]
def ycrz:LO:=[mv' 11 53 0,o3 (.idxA 24 1 (.tmp 10) (.tmp 53)) 54 1,ld' 1 54 55 3,mv' 14 56 0,mv' 1 57 0,mv' 11 58 0,ix' 1 57 58 59 48,ld' 1 59 60 112,mv' 13 61 0,ix' 1 60 61 62 496,ld' 1 62 63 1008,bn' .sub 56 63 64 2040,mv' 0 65 0,nk' 65 66 4096,fa' 4 1 66 67 12288,ld' 1 67 68 28672,mv' 11 69 0,ix' 1 68 69 70 126976,ld' 1 70 71 258048,mv' 13 72 0,ix' 1 71 72 73 1044480,ld' 1 73 74 2093056,bn' .mul 64 74 75 4194296,bn' .add 55 75 76 8388607,o3 (.idxA 24 1 (.tmp 10) (.tmp 53)) 77 16777215,sto 1 77 76 33554431]
def ydex:LO:=[bc .add 48 1 78 0,mv' 78 48 1]
def ycfu:LO:=[bc .add 23 1 79 0,mv' 79 23 1]
def ycrc:LO:=[mv' 0 81 0,nk' 81 82 1,fa' 1 1 82 83 3,ld' 1 83 84 7,mv' 0 85 0,nk' 85 86 16,fa' 2 1 86 87 48,ld' 1 87 88 112,mv' 9 89 0,cl' 128 [84,88,89] 90 511,mv' 90 80 1023,xt' 80 0 91 2047,xt' 80 1 92 2047,mv' 91 15 4095,mv' 92 16 16383]
def ydbw:LO:=[mv' 16 93 0,bc .neq 93 0 94 1]
def ydpc:LO:=[mv' 16 95 0,o3 (.mv (.const (.int .u32 0))) 6 0,nl' 7 2,mv' 95 8 7]
def yczj:LO:=[mv' 15 96 0,ln' 96 97 1,o3 (.mk 103 2 16 [.i .u32 0,.i .i64 0] (.tmp 97) (.tmp 97)) 98 3,o3 (.alloc 78 1 [.a (.slice none 0 0)]) 17 0,sto 1 17 98 15]
def ycvp:LO:=[mv' 15 99 0,ln' 99 100 1,mc 0 101 0]
def ybxd:LO:=[bn' .lss 101 100 102 0]
def ycyj:LO:=[mv' 101 103 0,ix' 1 99 101 104 0,ld' 1 104 105 2,o3 (.alloc 3 1 [.i .i64 0]) 18 0,sto 1 18 103 15,mv' 105 19 31]
def ydbl:LO:=[ld' 1 17 106 0,ld' 1 18 107 0,mv' 19 108 0,mv' 2 109 0,o3 (.build [.i .u32 0,.i .i64 0] [(0,1,(.tmp 108)),(1,1,(.tmp 109))]) 110 12,ix' 2 106 107 111 31,sto 2 111 110 63]
def ydbx:LO:=[mv' 19 112 0,cl' 129 [112] 113 1]
def ycxm:LO:=[mv' 114 20 0]
def yctx:LO:=[ld' 1 17 115 0,ld' 1 18 116 0,ix' 2 115 116 117 3,fa' 1 1 117 118 7,ld' 1 118 119 15,mv' 20 120 0,o3 (.idxA 24 1 (.tmp 10) (.tmp 120)) 121 32,ld' 1 121 122 96,bn' .add 119 122 123 255,ix' 2 115 116 124 511,fa' 1 1 124 125 1023,sto 1 125 123 2047]
def ydcz:LO:=[bc .add 101 1 126 0,mv' 126 101 1]
def ydbb:LO:=[mv' 9 127 0,ld' 1 17 128 0,mv' 127 6 1,mv' 128 7 7,mc 0 8 15]
def c60:SC:=(sr ydrv <| sr ydtn <| sr ydvb <| .seq (sr yecq <| .block 0 (.loop (sr ycnn <| .seq (cn 24 .skip (.exit 0)) (.seq (.block 1 (sr ydiu <| sr ydfw <| .seq (sr ydik <| cn 34 (.exit 1) .skip) (sr yebt <| sr ydvs <| .block 2 (.loop (sr ybzh <| .seq (cn 49 .skip (.exit 2)) (.seq (.block 3 (sr ycum <| .reg true ycrz)) (.reg false ydex))))))) (.reg false ycfu))))) (.seq (.reg true ycrc) (.seq (sr ydbw <| cn 94 (sr ydpc <| .ret) .skip) (sr yczj <| .seq (sr ycvp <| .block 4 (.loop (sr ybxd <| .seq (cn 102 .skip (.exit 4)) (.seq (.block 5 (sr ycyj <| sr ydbl <| sr ydbx <| .block 6 (.range (.tmp 113) [114] (.reg false ycxm) (.block 7 (.reg true yctx))))) (.reg false ydcz))))) (.seq (.reg true ydbb) .ret)))))
theorem ydhv:FnM 60 c60 [.t 6,.t 7,.t 8]:=fn_m Tryz.func60
def ycbr:LO:=[nl' 6 0,mc 0 7 1]
def ycha:LO:=[mv' 2 11 0,o3 (.bin .eql (.tmp 11) (.const (.int .u32 0))) 12 1]
def ycyu:LO:=[nl' 6 0,mc 0 7 1]
def yddg:LO:=[o3 (.alloc 38 1 [.a (.slice none 0 0)]) 8 0]
def yczo:LO:=[mv' 1 13 0]
def ycuj:LO:=[bc .eql 13 1 15 0,mv' 15 14 1]
def ydvd:LO:=[mv' 2 16 0,cl' 129 [16] 17 1]
def yeae:LO:=[mv' 18 9 0]
def ydqt:LO:=[ld' 1 8 19 0,mv' 9 20 0,o3 (.bin .shl (.const (.int .u32 1)) (.tmp 20)) 21 2,o3 (.bslice 77 1 1 [.i .u32 0] [(0,1,(.tmp 21))]) 22 6,o3 (.app 77 1 4 (.tmp 19) (.tmp 22)) 23 15,sto 1 8 23 31]
def ydux:LO:=[ld' 1 8 24 0,mv' 24 6 1,mc 0 7 3]
def ycej:LO:=[bc .eql 13 4 26 0,mv' 26 25 1]
def ydmg:LO:=[mv' 2 27 0,o3 (.bslice 77 1 1 [.i .u32 0] [(0,1,(.tmp 27))]) 28 1,mv' 28 6 3,mc 0 7 7]
def yccn:LO:=[mv' 2 29 0,cl' 113 [29] 30 1,bc .gtr 30 10 31 3]
def ydka:LO:=[nl' 6 0,mc 3 7 1]
def ycjr:LO:=[mv' 2 32 0,o3 (.un .neg (.tmp 32)) 33 1,mv' 2 34 0,bn' .and 33 34 35 7,mv' 35 10 15]
def yblw:LO:=[mv' 10 36 0,o3 (.bin .neq (.tmp 36) (.const (.int .u32 0))) 37 1]
def ycfw:LO:=[mv' 0 43 0,mv' 1 44 0,mv' 2 45 0,mv' 10 46 0,cl' 171 [43,44,45,46] 47 15]
def yceg:LO:=[ld' 1 8 48 0,mv' 10 49 0,o3 (.bslice 77 1 1 [.i .u32 0] [(0,1,(.tmp 49))]) 50 2,o3 (.app 77 1 4 (.tmp 48) (.tmp 50)) 51 7,sto 1 8 51 15]
def ybml:LO:=[mv' 10 38 0,mv' 2 39 0,o3 (.wsub (.tmp 38) (.tmp 39)) 40 3,mv' 2 41 0,bn' .and 40 41 42 15,mv' 42 10 31]
def ybzu:LO:=[ld' 1 8 52 0,mv' 52 6 1,mc 0 7 3]
def c128:SC:=(sr ycbr <| .seq (sr ycha <| cn 12 (sr ycyu <| .ret) .skip) (sr yddg <| .seq (sr yczo <| .block 0 (sr ycuj <| cn 14 (.seq (sr ydvd <| .block 1 (.range (.tmp 17) [18] (.reg false yeae) (.block 2 (.reg true ydqt)))) (sr ydux <| .ret)) (sr ycej <| cn 25 (sr ydmg <| .ret) .skip))) (.seq (sr yccn <| cn 31 (sr ydka <| .ret) .skip) (.seq (sr ycjr <| .block 3 (.loop (.seq (sr yblw <| cn 37 .skip (.exit 3)) (.seq (.block 4 (sr ycfw <| cn 47 (.reg false yceg) .skip)) (.reg false ybml))))) (sr ybzu <| .ret)))))
theorem ydjw:Fn 128 c128 [.t 6,.t 7]:=fn_0 Tryz.func128
def ydos:LO:=[bx' 41 0 2 0,mc 0 4 0]
def ydrs:LO:=[la' 2 2 5 0,cl' 136 [5] 6 1,o3 (.un .not (.tmp 6)) 7 3]
def yedl:LO:=[mc 13 4 0]
def ydxd:LO:=[mv' 1 8 0,ln' 8 9 1,fa' 0 1 2 10 0,ld' 1 10 11 4,ln' 11 12 12,bn' .neq 9 12 13 31]
def yedv:LO:=[mc 7 4 0]
def ydup:LO:=[mc 0 4 0]
def c73:SC:=(sr ydos <| .seq (sr ydrs <| cn 7 (sr yedl <| .ret) .skip) (.seq (sr ydxd <| cn 13 (sr yedv <| .ret) .skip) (sr ydup <| .ret)))
theorem ydwq:Fn 73 c73 [.t 4]:=fn_0 Tryz.func73
def ydyy:LO:=[bx' 41 0 2 0,mb false 4 0,mc 0 5 2]
def yecf:LO:=[la' 2 2 11 0,mv' 1 12 0,cl' 73 [11,12] 13 3,mv' 13 6 7]
def ydsu:LO:=[mv' 6 14 0,bc .neq 14 0 15 1]
def yefm:LO:=[mv' 6 16 0,mb false 4 0,mv' 16 5 3]
def ydty:LO:=[fa' 1 1 2 17 0,ld' 1 17 18 1,ln' 18 19 3,mc 0 20 0]
def ycmd:LO:=[bn' .lss 20 19 21 0]
def ydln:LO:=[mv' 20 22 0,ix' 1 18 20 23 0,ld' 1 23 24 2,mv' 22 7 7,mv' 24 8 15]
def ydmn:LO:=[mv' 1 25 0,mv' 7 26 0,ix' 1 25 26 27 3,ld' 1 27 28 7,o3 (.un .not (.tmp 28)) 29 15]
def yeay:LO:=[mv' 8 30 0,ln' 30 31 1,mc 0 32 0]
def ydxx:LO:=[bn' .lss 32 31 33 0]
def ydsx:LO:=[ix' 2 30 32 34 0,la' 2 34 35 1,o3 (.alloc 103 1 [.i .u32 0,.i .i64 0]) 10 0,sto 2 10 35 7]
def yeag:LO:=[mv' 1 36 0,fa' 1 1 10 37 0,ld' 1 37 38 2,ix' 1 36 38 39 7,ld' 1 39 40 15,o3 (.un .not (.tmp 40)) 41 31]
def ydwh:LO:=[mb false 4 0,mc 0 5 1]
def ydsb:LO:=[bc .add 32 1 42 0,mv' 42 32 1]
def ybys:LO:=[bc .add 20 1 43 0,mv' 43 20 1]
def ycuq:LO:=[mb true 4 0,mc 0 5 1]
def c18:SC:=(sr ydyy <| .seq (sr yecf <| sr ydsu <| cn 15 (sr yefm <| .ret) .skip) (.seq (sr ydty <| .block 0 (.loop (sr ycmd <| .seq (cn 21 .skip (.exit 0)) (.seq (.block 1 (sr ydln <| .seq (sr ydmn <| cn 29 (.exit 1) .skip) (sr yeay <| .block 2 (.loop (sr ydxx <| .seq (cn 33 .skip (.exit 2)) (.seq (.block 3 (sr ydsx <| sr yeag <| cn 41 (sr ydwh <| .ret) .skip)) (.reg false ydsb))))))) (.reg false ybys))))) (sr ycuq <| .ret)))
theorem yecg:Fn 18 c18 [.t 4,.t 5]:=fn_0 Tryz.func18
def ycsh:LO:=[bx' 41 0 1 0,nl' 2 0]
def ycwz:LO:=[fa' 1 1 1 8 0,ld' 1 8 9 1,ln' 9 10 3,o3 (.mk 22 1 24 [.a (.slice none 0 0)] (.tmp 10) (.tmp 10)) 11 7,mv' 11 3 15]
def ycyr:LO:=[fa' 1 1 1 12 0,ld' 1 12 13 1,ln' 13 14 3,mc 0 15 0]
def ycge:LO:=[bn' .lss 15 14 16 0]
def ycyi:LO:=[mv' 15 17 0,ix' 1 13 15 18 0,ld' 1 18 19 2,mv' 17 4 7,mv' 19 5 15]
def ydbc:LO:=[mv' 5 20 0,ln' 20 21 1,mc 0 22 0]
def ybon:LO:=[bn' .lss 22 21 23 0]
def ycez:LO:=[ix' 2 20 22 24 0,la' 2 24 25 1,o3 (.alloc 103 1 [.i .u32 0,.i .i64 0]) 7 0,sto 2 7 25 7]
def ybxj:LO:=[mv' 3 26 0,fa' 1 1 7 27 0,ld' 1 27 28 2,mv' 3 29 0,fa' 1 1 7 30 0,ld' 1 30 31 16,ix' 1 29 31 32 56,ld' 1 32 33 120,mv' 4 34 0,o3 (.bslice 3 1 1 [.i .i64 0] [(0,1,(.tmp 34))]) 35 256,o3 (.app 3 1 8 (.tmp 33) (.tmp 35)) 36 1016,ix' 1 26 28 37 2047,sto 1 37 36 4095]
def ycfm:LO:=[bc .add 22 1 38 0,mv' 38 22 1]
def ybdc:LO:=[bc .add 15 1 39 0,mv' 39 15 1]
def ycfh:LO:=[mv' 3 40 0,mv' 40 2 1]
def c179:SC:=(sr ycsh <| sr ycwz <| .seq (sr ycyr <| .block 0 (.loop (sr ycge <| .seq (cn 16 .skip (.exit 0)) (.seq (.block 1 (sr ycyi <| sr ydbc <| .block 2 (.loop (sr ybon <| .seq (cn 23 .skip (.exit 2)) (.seq (.block 3 (sr ycez <| .reg true ybxj)) (.reg false ycfm)))))) (.reg false ybdc))))) (sr ycfh <| .ret))
theorem ydjc:Fn 179 c179 [.t 2]:=fn_0 Tryz.func179
def ydcm:LO:=[bx' 41 0 2 0,nl' 4 0]
def ycxu:LO:=[nl' 5 0]
def ycyn:LO:=[mv' 1 13 0,ln' 13 14 1,mc 0 15 0]
def ybpu:LO:=[bn' .lss 15 14 16 0]
def ychc:LO:=[mv' 15 17 0,ix' 1 13 15 18 0,ld' 1 18 19 2,mv' 17 6 7,mv' 19 7 15]
def ycho:LO:=[mv' 7 20 0]
def ychu:LO:=[mv' 5 21 0,mv' 6 22 0,o3 (.bslice 3 1 1 [.i .i64 0] [(0,1,(.tmp 22))]) 23 2,o3 (.app 3 1 8 (.tmp 21) (.tmp 23)) 24 7,mv' 24 5 15]
def ybyx:LO:=[bc .add 15 1 25 0,mv' 25 15 1]
def yczr:LO:=[la' 2 2 26 0,cl' 179 [26] 27 1,mv' 27 8 3]
def ydai:LO:=[mv' 1 28 0,ln' 28 29 1,o3 (.mk 3 1 8 [.i .i64 0] (.tmp 29) (.tmp 29)) 30 3,mv' 30 9 7]
def ycdi:LO:=[mc 0 10 0]
def ybnr:LO:=[mv' 10 31 0,mv' 5 32 0,ln' 32 33 2,bn' .lss 31 33 34 7]
def ycjm:LO:=[mv' 8 37 0,mv' 5 38 0,mv' 10 39 0,ix' 1 38 39 40 6,ld' 1 40 41 14,ix' 1 37 41 42 31,ld' 1 42 43 63,ln' 43 44 127,mc 0 45 0]
def yyd:LO:=[bn' .lss 45 44 46 0]
def ybcc:LO:=[ix' 1 43 45 47 0,ld' 1 47 48 1,mv' 48 12 3]
def ybdr:LO:=[mv' 9 49 0,mv' 12 50 0,ix' 1 49 50 51 3,ld' 1 51 52 7,bc .add 52 1 53 15,ix' 1 49 50 54 31,sto 1 54 53 63]
def ybeo:LO:=[mv' 1 55 0,mv' 12 56 0,ix' 1 55 56 57 3,ld' 1 57 58 7,o3 (.un .not (.tmp 58)) 59 15,mv' 59 60 31,gt (.mv (.tmp 9)) 61 60 63,gt (.mv (.tmp 12)) 62 60 63,gt (.idx 1 (.tmp 61) (.tmp 62)) 63 60 255,gt (.load false 1 (.tmp 63)) 64 60 511,gt (.faddr 1 1 (.tmp 2)) 65 60 63,gt (.load false 1 (.tmp 65)) 66 60 1087,gt (.mv (.tmp 12)) 67 60 63,gt (.idx 1 (.tmp 66) (.tmp 67)) 68 60 7231,gt (.load false 1 (.tmp 68)) 69 60 15423,gt (.len (.tmp 69)) 70 60 31807,gt (.bin .eql (.tmp 64) (.tmp 70)) 71 60 65535,o3 (.pick (.tmp 60) (.tmp 71) (.const (.bool false))) 72 131071]
def ycbq:LO:=[mv' 5 73 0,mv' 12 74 0,o3 (.bslice 3 1 1 [.i .i64 0] [(0,1,(.tmp 74))]) 75 2,o3 (.app 3 1 8 (.tmp 73) (.tmp 75)) 76 7,mv' 76 5 15]
def ybcu:LO:=[bc .add 45 1 77 0,mv' 77 45 1]
def ycjp:LO:=[mv' 10 35 0,bc .add 35 1 36 1,mv' 36 10 3]
def ycgl:LO:=[mv' 5 78 0,mv' 78 4 1]
def c135:SC:=(sr ydcm <| sr ycxu <| .seq (sr ycyn <| .block 0 (.loop (sr ybpu <| .seq (cn 16 .skip (.exit 0)) (.seq (.block 1 (sr ychc <| sr ycho <| cn 20 (.reg false ychu) .skip)) (.reg false ybyx))))) (sr yczr <| sr ydai <| .seq (sr ycdi <| .block 2 (.loop (.seq (sr ybnr <| cn 34 .skip (.exit 2)) (.seq (.block 3 (sr ycjm <| .block 4 (.loop (sr yyd <| .seq (cn 46 .skip (.exit 4)) (.seq (.block 5 (sr ybcc <| sr ybdr <| .seq (.reg true ybeo) (cn 72 (.reg false ycbq) .skip))) (.reg false ybcu)))))) (.reg false ycjp))))) (sr ycgl <| .ret)))
theorem ydic:Fn 135 c135 [.t 4]:=fn_0 Tryz.func135
def ydvg:LO:=[bx' 41 0 2 0,nl' 4 0,mc 0 5 2]
def ydze:LO:=[la' 2 2 10 0,mv' 1 11 0,cl' 73 [10,11] 12 3,mv' 12 6 7]
def yeaf:LO:=[mv' 6 13 0,bc .neq 13 0 14 1]
def yedr:LO:=[mv' 6 15 0,nl' 4 0,mv' 15 5 3]
def ydpb:LO:=[mv' 1 16 0,ln' 16 17 1,o3 (.mk 4 1 1 [.b false] (.tmp 17) (.tmp 17)) 18 3,mv' 18 7 7]
def ydss:LO:=[la' 2 2 19 0,mv' 1 20 0,cl' 135 [19,20] 21 3,ln' 21 22 7,mc 0 23 0]
def ydmf:LO:=[bn' .lss 23 22 24 0]
def ydxz:LO:=[ix' 1 21 23 25 0,ld' 1 25 26 1,mv' 26 9 3]
def ydxn:LO:=[mv' 7 27 0,mv' 9 28 0,ix' 1 27 28 29 3,o0 (.store 1 (.tmp 29) (.const (.bool true))) 7]
def ydzv:LO:=[bc .add 23 1 30 0,mv' 30 23 1]
def ydby:LO:=[mv' 7 31 0,mv' 31 4 1,mc 0 5 3]
def c72:SC:=(sr ydvg <| .seq (sr ydze <| sr yeaf <| cn 14 (sr yedr <| .ret) .skip) (sr ydpb <| .seq (sr ydss <| .block 0 (.loop (sr ydmf <| .seq (cn 24 .skip (.exit 0)) (.seq (.block 1 (sr ydxz <| .reg false ydxn)) (.reg false ydzv))))) (sr ydby <| .ret)))
theorem ydil:FnM 72 c72 [.t 4,.t 5]:=fn_m Tryz.func72
def ydxf:LO:=[bx' 41 0 2 0,nl' 4 0,mc 0 5 2]
def ydzs:LO:=[la' 2 2 10 0,mv' 1 11 0,cl' 72 [10,11] 12 3,mv' 12 9 7,xt' 9 0 13 15,xt' 9 1 14 15,mv' 13 6 31,mv' 14 7 127]
def ydvt:LO:=[mv' 7 15 0,bc .neq 15 0 16 1]
def yefl:LO:=[mv' 7 17 0,nl' 4 0,mv' 17 5 3]
def ydqr:LO:=[mv' 6 18 0,ln' 18 19 1,mc 0 20 0]
def ydiz:LO:=[bn' .lss 20 19 21 0]
def ydyd:LO:=[mv' 20 22 0,mv' 22 8 1]
def ydqg:LO:=[mv' 6 23 0,mv' 8 24 0,mv' 6 25 0,mv' 8 26 0,ix' 1 25 26 27 12,ld' 1 27 28 28,o3 (.un .not (.tmp 28)) 29 60,ix' 1 23 24 30 127,sto 1 30 29 255]
def ydpr:LO:=[bc .add 20 1 31 0,mv' 31 20 1]
def ydxp:LO:=[mv' 6 32 0,mv' 32 4 1,mc 0 5 3]
def c17:SC:=(sr ydxf <| sr ydzs <| .seq (sr ydvt <| cn 16 (sr yefl <| .ret) .skip) (.seq (sr ydqr <| .block 0 (.loop (sr ydiz <| .seq (cn 21 .skip (.exit 0)) (.seq (.block 1 (sr ydyd <| .reg false ydqg)) (.reg false ydpr))))) (sr ydxp <| .ret)))
theorem ydlq:FnU 17 c17 [.t 4,.t 5]:=fn_u Tryz.func17
def ydwt:LO:=[bx' 41 0 2 0,nl' 4 0,mc 0 5 2]
def yede:LO:=[la' 2 2 8 0,mv' 1 9 0,cl' 73 [8,9] 10 3,mv' 10 6 7]
def yeam:LO:=[mv' 6 11 0,bc .neq 11 0 12 1]
def yefh:LO:=[mv' 6 13 0,nl' 4 0,mv' 13 5 3]
def ydvf:LO:=[la' 2 2 14 0,mv' 1 15 0,cl' 135 [14,15] 16 3,mv' 16 7 7]
def yecb:LO:=[mv' 7 17 0,ln' 17 18 1,mv' 1 19 0,ln' 19 20 4,bn' .lss 18 20 21 15]
def yeea:LO:=[nl' 4 0,mc 14 5 1]
def ydre:LO:=[mv' 7 22 0,mv' 22 4 1,mc 0 5 3]
def c74:SC:=(sr ydwt <| .seq (sr yede <| sr yeam <| cn 12 (sr yefh <| .ret) .skip) (sr ydvf <| .seq (sr yecb <| cn 21 (sr yeea <| .ret) .skip) (sr ydre <| .ret)))
theorem yecs:Fn 74 c74 [.t 4,.t 5]:=fn_0 Tryz.func74
def yebl:LO:=[bx' 41 0 3 0,nl' 6 0,mc 0 7 2]
def ydoy:LO:=[la' 2 3 16 0,mv' 1 17 0,cl' 74 [16,17] 18 3,mv' 18 15 7,xt' 15 0 19 15,xt' 15 1 20 15,mv' 19 8 31,mv' 20 9 127]
def ydqs:LO:=[mv' 9 21 0,bc .neq 21 0 22 1]
def yeeq:LO:=[mv' 9 23 0,nl' 6 0,mv' 23 7 3]
def ydxi:LO:=[mv' 1 24 0,ln' 24 25 1,o3 (.mk 3 1 8 [.i .i64 0] (.tmp 25) (.tmp 25)) 26 3,mv' 26 10 7]
def ydtt:LO:=[mv' 8 27 0,ln' 27 28 1,mc 0 29 0]
def ycpl:LO:=[bn' .lss 29 28 30 0]
def ydin:LO:=[ix' 1 27 29 31 0,ld' 1 31 32 1,mv' 32 12 3]
def ydoa:LO:=[mv' 1 33 0,mv' 12 34 0,ix' 1 33 34 35 3,ld' 1 35 36 7]
def ydod:LO:=[fa' 1 1 3 37 0,ld' 1 37 38 1,mv' 12 39 0,ix' 1 38 39 40 7,ld' 1 40 41 15,ln' 41 42 31,mc 0 43 0]
def ycep:LO:=[bn' .lss 43 42 44 0]
def ycxb:LO:=[ix' 2 41 43 45 0,la' 2 45 46 1,o3 (.alloc 103 1 [.i .u32 0,.i .i64 0]) 14 0,sto 2 14 46 7]
def yctf:LO:=[mv' 10 47 0,mv' 12 48 0,mv' 10 49 0,mv' 12 50 0,ix' 1 49 50 51 12,ld' 1 51 52 28,mv' 2 53 0,la' 2 14 54 0,o3 (.call (.tmp 53) [(.tmp 54)]) 55 192,mv' 10 56 0,fa' 1 1 14 57 0,ld' 1 57 58 1024,ix' 1 56 58 59 3584,ld' 1 59 60 7680,bn' .add 55 60 61 16320,o3 (.mm true (.tmp 52) (.tmp 61)) 62 32764,ix' 1 47 48 63 65535,sto 1 63 62 131071]
def yctw:LO:=[bc .add 43 1 64 0,mv' 64 43 1]
def ycaw:LO:=[bc .add 29 1 65 0,mv' 65 29 1]
def yctm:LO:=[mv' 10 66 0,mv' 66 6 1,mc 0 7 3]
def c77:SC:=(sr yebl <| sr ydoy <| .seq (sr ydqs <| cn 22 (sr yeeq <| .ret) .skip) (sr ydxi <| .seq (sr ydtt <| .block 0 (.loop (sr ycpl <| .seq (cn 30 .skip (.exit 0)) (.seq (.block 1 (sr ydin <| .seq (sr ydoa <| cn 36 (.exit 1) .skip) (sr ydod <| .block 2 (.loop (sr ycep <| .seq (cn 44 .skip (.exit 2)) (.seq (.block 3 (sr ycxb <| .reg true yctf)) (.reg false yctw))))))) (.reg false ycaw))))) (sr yctm <| .ret)))
theorem ydvu:Fn 77 c77 [.t 6,.t 7]:=fn_0 Tryz.func77
def ydqn:LO:=[bx' 103 0 1 0,mc 0 2 0]
def ydob:LO:=[fa' 0 1 1 3 0,ld' 1 3 4 1,cl' 113 [4] 5 3,mv' 5 2 7]
def c78:SC:=(sr ydqn <| sr ydob <| .ret)
theorem ydpt:Fn 78 c78 [.t 2]:=fn_0 Tryz.func78
def ydvl:LO:=[bx' 41 0 2 0,nl' 4 0,mc 0 5 2]
def yebk:LO:=[la' 2 2 6 0,mv' 1 7 0,o3 (.call (.func 77) [(.tmp 6),(.tmp 7),(.func 78)]) 8 3,xt' 8 0 9 7,xt' 8 1 10 7,mv' 9 4 31,mv' 10 5 63]
def c20:SC:=(sr ydvl <| sr yebk <| .ret)
theorem ydwg:Fn 20 c20 [.t 4,.t 5]:=fn_0 Tryz.func20
def ydhm:LO:=[bx' 41 0 3 0,bx' 109 1 4 0,bx' 103 2 5 0,o3 (.alloc 109 1 [.i .i64 0,.i .u32 0]) 6 0,mb false 7 0]
def ydmx:LO:=[fa' 1 1 4 9 0,ld' 1 9 10 1,fa' 0 1 5 11 0,ld' 1 11 12 4,bn' .andNot 10 12 13 15,fa' 0 1 3 14 0,ld' 1 14 15 32,fa' 1 1 5 16 0,ld' 1 16 17 128,ix' 1 15 17 18 480,ld' 1 18 19 992,bn' .and 13 19 20 2047,mv' 20 8 4095]
def ydnd:LO:=[mv' 8 21 0,o3 (.bin .eql (.tmp 21) (.const (.int .u32 0))) 22 1]
def ydyn:LO:=[fa' 1 1 5 23 0,ld' 1 23 24 1,fa' 0 1 3 25 0,ld' 1 25 26 4,fa' 1 1 5 27 0,ld' 1 27 28 16,ix' 1 26 28 29 60,ld' 1 29 30 124,o3 (.build [.i .i64 0,.i .u32 0] [(0,1,(.tmp 24)),(1,1,(.tmp 30))]) 31 255,sto 2 6 31 511,mb true 7 1023]
def ydpf:LO:=[fa' 1 1 5 32 0,ld' 1 32 33 1,mv' 8 34 0,o3 (.build [.i .i64 0,.i .u32 0] [(0,1,(.tmp 33)),(1,1,(.tmp 34))]) 35 7,sto 2 6 35 15,mb false 7 31]
def c76:SC:=(sr ydhm <| .seq (.reg true ydmx) (.seq (sr ydnd <| cn 22 (.seq (.reg true ydyn) .ret) .skip) (sr ydpf <| .ret)))
theorem ydsh:Fn 76 c76 [.c 6 true 2,.t 7]:=fn_0 Tryz.func76
def ydpg:LO:=[bx' 41 0 2 0,bx' 45 1 3 0,nl' 4 0,mc 0 5 4]
def ydry:LO:=[o3 (.mkmap 0) 18 0,o3 (.alloc 166 1 [.a (.map none)]) 6 0,sto 1 6 18 3]
def ydqy:LO:=[o3 (.alloc 167 1 [.a (.slice none 0 0)]) 7 0]
def ydue:LO:=[o3 (.mkfn 137 [] [(.tmp 3),(.tmp 6),(.tmp 7)]) 19 0,mv' 19 8 1]
def yedf:LO:=[fa' 0 1 2 20 0,ld' 1 20 21 1,ln' 21 22 3,mc 0 23 0]
def ydnc:LO:=[bn' .lss 23 22 24 0]
def ydqw:LO:=[mv' 23 25 0,ix' 1 21 23 26 0,ld' 1 26 27 2,mv' 25 9 7,mv' 27 10 15]
def ydpj:LO:=[mv' 8 28 0,mv' 9 29 0,mv' 10 30 0,o3 (.build [.i .i64 0,.i .u32 0] [(0,1,(.tmp 29)),(1,1,(.tmp 30))]) 31 6,o3 (.call (.tmp 28) [(.tmp 31)]) 32 15]
def ydzg:LO:=[bc .add 23 1 33 0,mv' 33 23 1]
def ydzr:LO:=[ld' 1 3 34 0,ln' 34 35 1,o3 (.mk 38 1 24 [.a (.slice none 0 0)] (.tmp 35) (.tmp 35)) 36 3,mv' 36 11 7]
def ydfq:LO:=[mc 0 12 0]
def ybov:LO:=[mv' 12 37 0,ld' 1 7 38 0,ln' 38 39 2,bn' .lss 37 39 40 7]
def ycft:LO:=[ld' 1 7 43 0,ln' 43 44 1,bc .gtr 44 262144 45 3]
def yeah:LO:=[nl' 4 0,mc 3 5 1]
def ycjb:LO:=[ld' 1 7 46 0,mv' 12 47 0,ix' 2 46 47 48 3,la' 2 48 49 7,o3 (.alloc 109 1 [.i .i64 0,.i .u32 0]) 13 0,sto 2 13 49 31]
def ycbd:LO:=[mv' 11 50 0,fa' 0 1 13 51 0,ld' 1 51 52 2,mv' 11 53 0,fa' 0 1 13 54 0,ld' 1 54 55 16,ix' 1 53 55 56 56,ld' 1 56 57 120,fa' 1 1 13 58 0,ld' 1 58 59 256,o3 (.bslice 77 1 1 [.i .u32 0] [(0,1,(.tmp 59))]) 60 768,o3 (.app 77 1 4 (.tmp 57) (.tmp 60)) 61 2040,ix' 1 50 52 62 4095,sto 1 62 61 8191]
def yccb:LO:=[fa' 1 1 2 63 0,ld' 1 63 64 1,fa' 0 1 13 65 0,ld' 1 65 66 4,ix' 1 64 66 67 15,ld' 1 67 68 31,ln' 68 69 63,mc 0 70 0]
def ybgc:LO:=[bn' .lss 70 69 71 0]
def ycas:LO:=[ix' 2 68 70 72 0,la' 2 72 73 1,o3 (.alloc 103 1 [.i .u32 0,.i .i64 0]) 15 0,sto 2 15 73 7]
def ycic:LO:=[la' 2 2 75 0,la' 2 13 76 0,la' 2 15 77 0,cl' 76 [75,76,77] 78 7,mv' 78 74 15,xt' 74 0 79 31,xt' 74 1 80 31,o3 (.alloc 109 1 [.i .i64 0,.i .u32 0]) 16 0,sto 2 16 79 191,mv' 80 17 511]
def ycdt:LO:=[mv' 8 81 0,la' 2 16 82 0,o3 (.call (.tmp 81) [(.tmp 82)]) 83 3]
def ycie:LO:=[bc .add 70 1 84 0,mv' 84 70 1]
def ybxs:LO:=[mv' 12 41 0,bc .add 41 1 42 1,mv' 42 12 3]
def ycwo:LO:=[mv' 11 85 0,mv' 85 4 1,mc 0 5 3]
def c75:SC:=(sr ydpg <| sr ydry <| sr ydqy <| sr ydue <| .seq (sr yedf <| .block 0 (.loop (sr ydnc <| .seq (cn 24 .skip (.exit 0)) (.seq (.block 1 (sr ydqw <| .reg false ydpj)) (.reg false ydzg))))) (sr ydzr <| .seq (sr ydfq <| .block 2 (.loop (.seq (sr ybov <| cn 40 .skip (.exit 2)) (.seq (.block 3 (.seq (sr ycft <| cn 45 (sr yeah <| .ret) .skip) (sr ycjb <| .seq (.reg true ycbd) (sr yccb <| .block 4 (.loop (sr ybgc <| .seq (cn 71 .skip (.exit 4)) (.seq (.block 5 (sr ycas <| sr ycic <| .reg false ycdt)) (.reg false ycie)))))))) (.reg false ybxs))))) (sr ycwo <| .ret)))
theorem ydll:FnU 75 c75 [.t 4,.t 5]:=fn_u Tryz.func75
def ybpp:LO:=[bx' 109 0 4 0]
def ybqt:LO:=[ld' 1 1 5 0,fa' 0 1 4 6 0,ld' 1 6 7 2,ix' 1 5 7 8 7,ld' 1 8 9 15,o3 (.un .not (.tmp 9)) 10 31,mv' 10 11 63,gt (.load false 1 (.tmp 2)) 12 11 127,gt (.load true 2 (.tmp 4)) 13 11 127,gt (.mget 0 (.tmp 12) (.tmp 13)) 14 11 511,gt (.un .not (.tmp 14)) 15 11 1023,o3 (.pick (.tmp 11) (.tmp 15) (.const (.bool false))) 16 2047]
def ydap:LO:=[ld' 1 2 17 0,la' 2 4 18 0,o0 (.mset 0 (.tmp 17) (.tmp 18) (.const (.bool true))) 3]
def ycty:LO:=[ld' 1 3 19 0,la' 2 4 20 0,o3 (.bslice 109 2 1 [.i .i64 0,.i .u32 0] [(0,2,(.tmp 20))]) 21 2,o3 (.app 109 2 16 (.tmp 19) (.tmp 21)) 22 7,sto 1 3 22 15]
def c137:SC:=(sr ybpp <| sr ybqt <| cn 16 (sr ydap <| .reg false ycty) .skip)
theorem ycpw:FnM 137 c137 []:=fn_m Tryz.func137
def yedg:LO:=[bx' 41 0 2 0,nl' 4 0,mc 0 5 2]
def ydve:LO:=[la' 2 2 24 0,mv' 1 25 0,cl' 74 [24,25] 26 3,mv' 26 23 7,xt' 23 0 27 15,xt' 23 1 28 15,mv' 27 6 31,mv' 28 7 127]
def yeas:LO:=[mv' 7 29 0,bc .neq 29 0 30 1]
def yeet:LO:=[mv' 7 31 0,nl' 4 0,mv' 31 5 3]
def ydqo:LO:=[la' 2 2 33 0,mv' 1 34 0,cl' 75 [33,34] 35 3,mv' 35 32 7,xt' 32 0 36 15,xt' 32 1 37 15,mv' 36 8 31,mv' 37 7 127]
def ydqj:LO:=[mv' 7 38 0,bc .neq 38 0 39 1]
def yeek:LO:=[mv' 7 40 0,nl' 4 0,mv' 40 5 3]
def ydxl:LO:=[o3 (.mkmap 1) 41 0,mv' 41 9 1]
def ydsq:LO:=[mv' 6 42 0,ln' 42 43 1,mc 0 44 0]
def ydfy:LO:=[bn' .lss 44 43 45 0]
def ycxx:LO:=[ix' 1 42 44 46 0,ld' 1 46 47 1,mv' 47 11 3]
def ycym:LO:=[mv' 8 48 0,mv' 11 49 0,ix' 1 48 49 50 3,ld' 1 50 51 7,ln' 51 52 15,mc 0 53 0]
def ychx:LO:=[bn' .lss 53 52 54 0]
def yczh:LO:=[ix' 1 51 53 55 0,ld' 1 55 56 1,mv' 56 13 3]
def ycti:LO:=[mv' 11 57 0,mv' 13 58 0,o3 (.build [.i .i64 0,.i .u32 0] [(0,1,(.tmp 57)),(1,1,(.tmp 58))]) 59 3,o3 (.alloc 109 1 [.i .i64 0,.i .u32 0]) 14 0,sto 2 14 59 15]
def ycxv:LO:=[mc 1 15 0]
def yczm:LO:=[fa' 1 1 2 60 0,ld' 1 60 61 1,mv' 11 62 0,ix' 1 61 62 63 7,ld' 1 63 64 15,ln' 64 65 31,mc 0 66 0]
def ybij:LO:=[bn' .lss 66 65 67 0]
def ybsm:LO:=[ix' 2 64 66 68 0,la' 2 68 69 1,o3 (.alloc 103 1 [.i .u32 0,.i .i64 0]) 17 0,sto 2 17 69 7]
def ybpo:LO:=[mv' 1 70 0,fa' 1 1 17 71 0,ld' 1 71 72 2,ix' 1 70 72 73 7,ld' 1 73 74 15]
def yccz:LO:=[la' 2 2 76 0,la' 2 14 77 0,la' 2 17 78 0,cl' 76 [76,77,78] 79 7,mv' 79 75 15,xt' 75 0 80 31,xt' 75 1 81 31,o3 (.alloc 109 1 [.i .i64 0,.i .u32 0]) 18 0,sto 2 18 80 191,mv' 81 19 511]
def ybzm:LO:=[mv' 19 82 0]
def yctu:LO:=[mv' 15 83 0,mv' 9 84 0,la' 2 18 85 0,o3 (.mget 1 (.tmp 84) (.tmp 85)) 86 6,o3 (.bin .add (ci' 1) (.tmp 86)) 87 14,o3 (.mm true (.tmp 83) (.tmp 87)) 88 31,mv' 88 15 63]
def ydah:LO:=[mv' 15 89 0,mv' 9 90 0,la' 2 18 91 0,o3 (.mget 1 (.tmp 90) (.tmp 91)) 92 6,o3 (.mm true (.tmp 89) (.tmp 92)) 93 15,mv' 93 15 31]
def ybqq:LO:=[bc .add 66 1 94 0,mv' 94 66 1]
def ycxl:LO:=[mv' 9 95 0,la' 2 14 96 0,mv' 15 97 0,o0 (.mset 1 (.tmp 95) (.tmp 96) (.tmp 97)) 7]
def ycwq:LO:=[bc .add 53 1 98 0,mv' 98 53 1]
def ycrj:LO:=[bc .add 44 1 99 0,mv' 99 44 1]
def ycuf:LO:=[mv' 1 100 0,ln' 100 101 1,o3 (.mk 3 1 8 [.i .i64 0] (.tmp 101) (.tmp 101)) 102 3,mv' 102 20 7]
def ydfd:LO:=[fa' 0 1 2 103 0,ld' 1 103 104 1,ln' 104 105 3,mc 0 106 0]
def ybpq:LO:=[bn' .lss 106 105 107 0]
def ycjl:LO:=[mv' 106 108 0,ix' 1 104 106 109 0,ld' 1 109 110 2,mv' 108 21 7,mv' 110 22 15]
def ybzs:LO:=[mv' 1 111 0,mv' 21 112 0,ix' 1 111 112 113 3,ld' 1 113 114 7,o3 (.un .not (.tmp 114)) 115 15]
def yctk:LO:=[mv' 20 116 0,mv' 21 117 0,mv' 9 118 0,mv' 21 119 0,mv' 22 120 0,o3 (.build [.i .i64 0,.i .u32 0] [(0,1,(.tmp 119)),(1,1,(.tmp 120))]) 121 24,o3 (.mget 1 (.tmp 118) (.tmp 121)) 122 60,ix' 1 116 117 123 127,sto 1 123 122 255]
def ycfn:LO:=[bc .add 106 1 124 0,mv' 124 106 1]
def ydea:LO:=[mv' 20 125 0,mv' 125 4 1,mc 0 5 3]
def c19:SC:=(sr yedg <| sr ydve <| .seq (sr yeas <| cn 30 (sr yeet <| .ret) .skip) (sr ydqo <| .seq (sr ydqj <| cn 39 (sr yeek <| .ret) .skip) (sr ydxl <| .seq (sr ydsq <| .block 0 (.loop (sr ydfy <| .seq (cn 45 .skip (.exit 0)) (.seq (.block 1 (sr ycxx <| sr ycym <| .block 2 (.loop (sr ychx <| .seq (cn 54 .skip (.exit 2)) (.seq (.block 3 (sr yczh <| sr ycti <| sr ycxv <| .seq (sr yczm <| .block 4 (.loop (sr ybij <| .seq (cn 67 .skip (.exit 4)) (.seq (.block 5 (sr ybsm <| .seq (sr ybpo <| cn 74 (.exit 5) .skip) (sr yccz <| sr ybzm <| cn 82 (.reg false yctu) (.reg false ydah)))) (.reg false ybqq))))) (.reg false ycxl))) (.reg false ycwq)))))) (.reg false ycrj))))) (sr ycuf <| .seq (sr ydfd <| .block 6 (.loop (sr ybpq <| .seq (cn 107 .skip (.exit 6)) (.seq (.block 7 (sr ycjl <| sr ybzs <| cn 115 (.reg false yctk) .skip)) (.reg false ycfn))))) (sr ydea <| .ret)))))
theorem ydtu:Fn 19 c19 [.t 4,.t 5]:=fn_0 Tryz.func19
def ydqz:LO:=[bx' 92 0 1 0,o3 (.mv (.const (.nilFunc))) 2 0]
def yeat:LO:=[o3 (.mkfn 134 [] [(.tmp 1)]) 3 0,mv' 3 2 1]
def c68:SC:=(sr ydqz <| sr yeat <| .ret)
theorem ydom:Fn 68 c68 [.t 2]:=fn_0 Tryz.func68
end Sh
end
section
def szP(b:Int×Int):Nat:=(b.2-b.1+1).toNat
def ybs:List (Int×Int)->Nat
 |[]=>1
 |b::a=>szP b*ybs a
def ybm:List (List (Int×Int))->Nat
 |[]=>1
 |r::a=>ybs r*ybm a
def unR:List (Int×Int)->Nat->List Int×Nat
 |[],k=>([],k)
 |b::a,k=>((b.1+(((unR a k).2%szP b:Nat):Int))::(unR a k).1,(unR a k).2/szP b)
def unT:List (List (Int×Int))->Nat->Conf×Nat
 |[],k=>([],k)
 |r::a,k=>((unR r (unT a k).2).1::(unT a k).1,(unR r (unT a k).2).2)
def rkR:List (Int×Int)->List Int->Int
 |b::a,x::c=>(x-b.1)*ybs a+rkR a c
 |_,_=>0
def rkT:List (List (Int×Int))->Conf->Int
 |r::a,c::b=>rkR r c*ybm a+rkT a b
 |_,_=>0
def inR:List (Int×Int)->List Int->Prop
 |[],[]=>True
 |b::a,x::c=>(b.1<=x/\x<=b.2)/\inR a c
 |_,_=>False
def inT:List (List (Int×Int))->Conf->Prop
 |[],[]=>True
 |r::b,c::a=>inR r c/\inT b a
 |_,_=>False
def bdR(bs:List (Int×Int)):Prop:=∀b∈bs,b.1<=b.2
def bdT(rs:List (List (Int×Int))):Prop:=∀r∈rs,bdR r
theorem ypz{b:Int×Int}(h:b.1<=b.2):0<szP b/\(szP b:Int)=b.2-b.1+1:=by unfold szP;omega
theorem ymy:∀{bs:List (Int×Int)},bdR bs->0<ybs bs
 |[],_=>by decide
 |b::bs,h=>zCV (ypz (h b zK)).1 (ymy fun x a=>h x (zL _ a))
theorem yqv:∀{rs:List (List (Int×Int))},bdT rs->0<ybm rs
 |[],_=>by decide
 |r::rs,h=>zCV (ymy (h r zK)) (yqv fun x a=>h x (zL _ a))
theorem ybkj:∀(bs:List (Int×Int)) (k:Nat),(unR bs k).2=k/ybs bs
 |[],k=>by simp[unR,ybs]
 | b::bs,k=>by
   show(unR bs k).2/szP b=k/(szP b*ybs bs);rw[ybkj bs k,zBO,zX]
theorem ycbk:∀(rs:List (List (Int×Int))) (k:Nat),(unT rs k).2=k/ybm rs
 |[],k=>by simp[unT,ybm]
 | r::rs,k=>by
   show(unR r (unT rs k).2).2=k/(ybs r*ybm rs);rw[ybkj,ycbk rs k,zBO,zX]
theorem ycvg:∀(bs:List (Int×Int)) (k:Nat),rkR bs (unR bs k).1=((k%ybs bs:Nat):Int)
 |[],k=>by simp[rkR,ybs,zCW]
 | b::bs,k=>by
   show(b.1+(((unR bs k).2%szP b:Nat):Int)-b.1)*(ybs bs:Int)+rkR bs (unR bs k).1=((k%(szP b*ybs bs):Nat):Int);rw[ycvg bs k,ybkj,zX (szP b),zCX,zX (ybs bs) (k/ybs bs%szP b),zAS,zU];rw[show b.1+((k/ybs bs%szP b:Nat):Int)-b.1=((k/ybs bs%szP b:Nat):Int)by omega]
   omega
theorem ydeh:∀{bs:List (Int×Int)}(k:Nat),bdR bs->inR bs (unR bs k).1
 |[],_,_=>trivial
 | b::bs,k,h=>by
   have a:=ypz (h b zK);have d:=zDD (unR bs k).2 a.1;exact⟨⟨by omega,by omega⟩,ydeh k fun x c=>h x (zL _ c)⟩
theorem ybba:∀{rs:List (List (Int×Int))}(k:Nat),bdT rs->inT rs (unT rs k).1
 |[],_,_=>trivial
 |r::rs,k,h=>⟨ydeh _ (h r zK),ybba k fun x a=>h x (zL _ a)⟩
theorem ybsf:∀(rs:List (List (Int×Int))) (k:Nat),rkT rs (unT rs k).1=((k%ybm rs:Nat):Int)
 |[],k=>by simp[rkT,ybm,zCW]
 | r::rs,k=>by
   show rkR r (unR r (unT rs k).2).1*(ybm rs:Int)+rkT rs (unT rs k).1=((k%(ybs r*ybm rs):Nat):Int);rw[ycvg,ybsf rs k,ycbk,zX (ybs r),zCX,zX (ybm rs) (k/ybm rs%ybs r),zAS,zU];omega
theorem ycuz:∀{bs:List (Int×Int)}{xs:List Int},inR bs xs->0<=rkR bs xs/\rkR bs xs<ybs bs/\∀m:Nat,unR bs ((rkR bs xs).toNat+m*ybs bs)=(xs,m)
 |[],[],_=>⟨by simp[rkR],by simp[rkR,ybs],fun m=>by simp[rkR,unR,ybs]⟩
 |[],_::_,h=>h.elim
 |_::_,[],h=>h.elim
 | b :: bs,x::xs,⟨⟨p,q⟩,j⟩=>by
   obtain⟨s,t,l⟩:=ycuz j;obtain⟨o,u⟩:=ypz (show b.1<=b.2 by omega)
   obtain⟨d,c⟩:∃d:Nat,x-b.1=d:=⟨(x-b.1).toNat,by omega⟩
   obtain⟨r,f⟩:∃r:Nat,rkR bs xs=r:=⟨(rkR bs xs).toNat,by omega⟩
   have a:d+1<=szP b:=by omega
   have e:rkR (b::bs) (x::xs)=((d*ybs bs+r:Nat):Int):=by
    show(x-b.1)*(ybs bs:Int)+rkR bs xs=_;rw[c,f,zAS,zU]
   have k:d*ybs bs+r<szP b*ybs bs:=by
    have:=zBS (ybs bs) a;rw[zBV]at this;omega
   rw[e];refine⟨by omega,by show((d*ybs bs+r:Nat):Int)<((szP b*ybs bs:Nat):Int);omega,fun m=>?_⟩
   have n:=l (d+m*szP b)
   have g:((d*ybs bs+r:Nat):Int).toNat+m*(szP b*ybs bs)=(rkR bs xs).toNat+(d+m*szP b)*ybs bs:=by
    rw[f,zAF,zAF,zCY,zBF];omega
   have i:unR bs (((d*ybs bs+r:Nat):Int).toNat+m*ybs (b::bs))=(xs,d+m*szP b):=by
    rw[<-n,<-g];rfl
   show((b.1+(((unR bs _).2%szP b:Nat):Int))::(unR bs _).1,(unR bs _).2/szP b)=_;rw[i];simp only;rw[Nat.add_mul_mod_self_right,zAG (by omega),Nat.add_mul_div_right _ _ o,Nat.div_eq_of_lt (by omega),<-c]
   simp only[zS,Prod.mk.injEq,List.cons.injEq,and_true];omega
theorem ybaq:∀{rs:List (List (Int×Int))}{c:Conf},inT rs c->0<=rkT rs c/\rkT rs c<ybm rs/\∀m:Nat,unT rs ((rkT rs c).toNat+m*ybm rs)=(c,m)
 |[],[],_=>⟨by simp[rkT],by simp[rkT,ybm],fun m=>by simp[rkT,unT,ybm]⟩
 |[],_::_,h=>h.elim
 |_::_,[],h=>h.elim
 | b :: a,x::f,⟨o,p⟩=>by
   obtain⟨v,w,s⟩:=ybaq p;obtain⟨y,z,u⟩:=ycuz o;obtain⟨d,i⟩:∃d:Nat,rkR b x=d:=⟨(rkR b x).toNat,by omega⟩
   obtain⟨r,j⟩:∃r:Nat,rkT a f=r:=⟨(rkT a f).toNat,by omega⟩
   have g:d+1<=ybs b:=by omega
   have e:rkT (b::a) (x::f)=((d*ybm a+r:Nat):Int):=by
    show rkR b x*(ybm a:Int)+rkT a f=_;rw[i,j,zAS,zU]
   have q:d*ybm a+r<ybs b*ybm a:=by
    have:=zBS (ybm a) g;rw[zBV]at this;omega
   rw[e];refine⟨by omega,by show((d*ybm a+r:Nat):Int)<((ybs b*ybm a:Nat):Int);omega,fun m=>?_⟩
   have t:=s (d+m*ybs b)
   have l:((d*ybm a+r:Nat):Int).toNat+m*(ybs b*ybm a)=(rkT a f).toNat+(d+m*ybs b)*ybm a:=by
    rw[j,zAF,zAF,zCY,zBF];omega
   have n:unT a (((d*ybm a+r:Nat):Int).toNat+m*ybm (b::a))=(f,d+m*ybs b):=by
    rw[<-t,<-l];rfl
   have k:=u m;rw[i,zAF]at k;show((unR b (unT a _).2).1::(unT a _).1,(unR b (unT a _).2).2)=_;rw[n];simp only;rw[k]
theorem ybrd{rs:List (List (Int×Int))}{c:Conf}(h:inT rs c):(unT rs (rkT rs c).toNat).1=c:=by
 have:=(ybaq h).2.2 0;rw[zCN,zBW]at this;rw[this]
theorem ydku{rs:List (List (Int×Int))}{c d:Conf}(a:inT rs c)(b:inT rs d)(e:rkT rs c=rkT rs d):c=d:=by
 rw[<-ybrd a,e,ybrd b]
end
section
def advR:List (Int×Int)->List Int->List Int×Bool
 |b::a,x::c=>if (advR a c).2 then(x::(advR a c).1,true)else if x<b.2 then((x+1)::(advR a c).1,true)else(b.1::(advR a c).1,false)
 |_,_=>([],false)
def advT:List (List (Int×Int))->Conf->Conf×Bool
 |r::b,c::a=>if (advT b a).2 then(c::(advT b a).1,true)else((advR r c).1::(advT b a).1,(advR r c).2)
 |_,_=>([],false)
theorem ycgn:∀{bs:List (Int×Int)}{xs:List Int},inR bs xs->inR bs (advR bs xs).1/\((advR bs xs).2=true->rkR bs (advR bs xs).1=rkR bs xs+1)/\((advR bs xs).2=false->rkR bs (advR bs xs).1=0/\rkR bs xs+1=ybs bs)
 |[],[],_=>⟨trivial,(fun h=>by cases h),fun _=>⟨rfl,rfl⟩⟩
 |[],_::_,h=>h.elim
 |_::_,[],h=>h.elim
 | b :: bs,x::xs,⟨⟨g,i⟩,j⟩=>by
   obtain⟨a,k,l⟩:=ycgn j;obtain⟨o,m⟩:=ypz (show b.1<=b.2 by omega)
   unfold advR;cases d:(advR bs xs).2 with
   | true =>
     have e:=k d;simp only[if_true];refine⟨⟨⟨g,i⟩,a⟩,fun _=>?_,fun h=>by cases h⟩
     show(x-b.1)*(ybs bs:Int)+rkR bs (advR bs xs).1=(x-b.1)*(ybs bs:Int)+rkR bs xs+1;rw[e];omega
   | false =>
     obtain⟨c,n⟩:=l d;simp only[zBB,if_false]
     by_cases f:x<b.2
     .rw[if_pos f];refine⟨⟨⟨by omega,by omega⟩,a⟩,fun _=>?_,fun h=>by cases h⟩
      show(x+1-b.1)*(ybs bs:Int)+rkR bs (advR bs xs).1=(x-b.1)*(ybs bs:Int)+rkR bs xs+1;rw[c,show x+1-b.1=(x-b.1)+1 by omega,zAL]
      omega
     .rw[if_neg f];refine⟨⟨⟨by omega,by omega⟩,a⟩,(fun h=>by cases h),fun _=>⟨?_,?_⟩⟩
      .show(b.1-b.1)*(ybs bs:Int)+rkR bs (advR bs xs).1=0;rw[c,zCO];simp
      .show(x-b.1)*(ybs bs:Int)+rkR bs xs+1=((szP b*ybs bs:Nat):Int);rw[zU,m,show b.2-b.1+1=(x-b.1)+1 by omega,zAL]
       omega
theorem ychn:∀{rs:List (List (Int×Int))}{c:Conf},inT rs c->inT rs (advT rs c).1/\((advT rs c).2=true->rkT rs (advT rs c).1=rkT rs c+1)/\((advT rs c).2=false->rkT rs (advT rs c).1=0/\rkT rs c+1=ybm rs)
 |[],[],_=>⟨trivial,(fun h=>by cases h),fun _=>⟨rfl,rfl⟩⟩
 |[],_::_,h=>h.elim
 |_::_,[],h=>h.elim
 | b :: a,x::d,⟨g,l⟩=>by
   obtain⟨j,m,n⟩:=ychn l;obtain⟨o,p,k⟩:=ycgn g;unfold advT;cases i:(advT a d).2 with
   | true =>
     have e:=m i;simp only[if_true];refine⟨⟨g,j⟩,fun _=>?_,fun h=>by cases h⟩
     show rkR b x*(ybm a:Int)+rkT a (advT a d).1=rkR b x*(ybm a:Int)+rkT a d+1;rw[e];omega
   | false =>
     obtain⟨f,q⟩:=n i;simp only[zBB,if_false];refine⟨⟨o,j⟩,fun h=>?_,fun h=>⟨?_,?_⟩⟩
     .show rkR b (advR b x).1*(ybm a:Int)+rkT a (advT a d).1=rkR b x*(ybm a:Int)+rkT a d+1;rw[f,p h,zAL];omega
     .show rkR b (advR b x).1*(ybm a:Int)+rkT a (advT a d).1=0;rw[f,(k h).1];simp
     .show rkR b x*(ybm a:Int)+rkT a d+1=((ybs b*ybm a:Nat):Int);rw[zU,<-(k h).2,zAL];omega
theorem ydjo{rs:List (List (Int×Int))}{k:Nat}(a:bdT rs)(hk:k+1<ybm rs):(advT rs (unT rs k).1).1=(unT rs (k+1)).1:=by
 have g:=ybba k a;obtain⟨b,c,d⟩:=ychn g;have e:=ybsf rs k;rw[zAG (by omega)]at e
 have h:(advT rs (unT rs k).1).2=true:=by
  cases f:(advT rs (unT rs k).1).2 with
  |true=>rfl
  |false=>have:=(d f).2;omega
 refine ydku b (ybba _ a) ?_;rw[c h,e,ybsf,zAG hk];omega
def yqe(rs:List (List (Int×Int))):Conf:=rs.map (·.map (·.1))
theorem ybit:∀{bs:List (Int×Int)},bdR bs->inR bs (bs.map (·.1))/\rkR bs (bs.map (·.1))=0
 |[],_=>⟨trivial,rfl⟩
 | b::bs,h=>by
   obtain⟨c,d⟩:=ybit (bs:=bs) fun x a=>h x (zL _ a);refine⟨⟨⟨Int.le_refl _,h b zK⟩,c⟩,?_⟩;show(b.1-b.1)*(ybs bs:Int)+rkR bs (bs.map (·.1))=0;rw[d,zCO];simp
theorem ybgb:∀{rs:List (List (Int×Int))},bdT rs->inT rs (yqe rs)/\rkT rs (yqe rs)=0
 |[],_=>⟨trivial,rfl⟩
 | r::rs,h=>by
   obtain⟨b,c⟩:=ybgb (rs:=rs) fun x a=>h x (zL _ a);obtain⟨d,e⟩:=ybit (h r zK);refine⟨⟨d,b⟩,?_⟩;show rkR r (r.map (·.1))*(ybm rs:Int)+rkT rs (yqe rs)=0;rw[c,e];simp
theorem ycaz{rs:List (List (Int×Int))}(h:bdT rs):(unT rs 0).1=yqe rs:=by
 obtain⟨a,b⟩:=ybgb h;have:=ybrd a;rw[b]at this;exact this
def plR:List (Int×Int)->Nat->List Int×Nat
 |[],p=>([],p)
 |b::a,p=>(((plR a p).2:Int)::(plR a p).1,(plR a p).2*szP b)
def plT:List (List (Int×Int))->Nat->List (List Int)×Nat
 |[],p=>([],p)
 |r::a,p=>((plR r (plT a p).2).1::(plT a p).1,(plR r (plT a p).2).2)
theorem ysz:∀(bs:List (Int×Int)) (p:Nat),(plR bs p).2=p*ybs bs
 |[],p=>(zCB p).symm
 | b::bs,p=>by
   show(plR bs p).2*szP b=p*(szP b*ybs bs);rw[ysz bs p,zBF,zX (szP b)]
theorem ybdu:∀(rs:List (List (Int×Int))) (p:Nat),(plT rs p).2=p*ybm rs
 |[],p=>(zCB p).symm
 | r::rs,p=>by
   show(plR r (plT rs p).2).2=p*(ybs r*ybm rs);rw[ysz,ybdu rs p,zBF,zX (ybs r)]
theorem yblj:∀(bs:List (Int×Int)) (p:Nat),(plR bs p).1.length=bs.length
 |[],_=>rfl
 |b::bs,p=>by show(plR bs p).1.length+1=_;rw[yblj bs p];rfl
theorem ybch:∀(rs:List (List (Int×Int))) (p:Nat),(plT rs p).1.length=rs.length
 |[],_=>rfl
 |r::rs,p=>by show(plT rs p).1.length+1=_;rw[ybch rs p];rfl
def grR:List Int->List Int->List Int->Int
 |y::c,x::b,q::a=>(y-x)*q+grR c b a
 |_,_,_=>0
def grT:Conf->Conf->List (List Int)->Int
 |d::b,c::a,q::e=>grR d c q+grT b a e
 |_,_,_=>0
theorem ydcd:∀{bs:List (Int×Int)}{xs ys:List Int}(p:Nat),inR bs xs->inR bs ys->grR ys xs (plR bs p).1=(rkR bs ys-rkR bs xs)*(p:Int)
 |[],[],[],p,_,_=>by simp[grR,rkR]
 |[],_::_,_,_,h,_=>h.elim
 |[],[],_::_,_,_,h=>h.elim
 |_::_,[],_,_,h,_=>h.elim
 |_::_,_::_,[],_,_,h=>h.elim
 | b::bs,x::xs,y::ys,p,h,a=>by
   show(y-x)*((plR bs p).2:Int)+grR ys xs (plR bs p).1=((y-b.1)*(ybs bs:Int)+rkR bs ys-((x-b.1)*(ybs bs:Int)+rkR bs xs))*(p:Int);rw[ydcd p h.2 a.2,ysz,zU,show((y-b.1)*(ybs bs:Int)+rkR bs ys-((x-b.1)*(ybs bs:Int)+rkR bs xs))=(y-x)*(ybs bs:Int)+(rkR bs ys-rkR bs xs)by simp only[zCZ];omega,zAL,zCP (p:Int),zCJ]
theorem ydfk:∀{rs:List (List (Int×Int))}{c d:Conf}(p:Nat),inT rs c->inT rs d->grT d c (plT rs p).1=(rkT rs d-rkT rs c)*(p:Int)
 |[],[],[],p,_,_=>by simp[grT,rkT]
 |[],_::_,_,_,h,_=>h.elim
 |[],[],_::_,_,_,h=>h.elim
 |_::_,[],_,_,h,_=>h.elim
 |_::_,_::_,[],_,_,h=>h.elim
 | b::a,x::e,y::f,p,h,g=>by
   show grR y x (plR b (plT a p).2).1+grT f e (plT a p).1=(rkR b y*(ybm a:Int)+rkT a f-(rkR b x*(ybm a:Int)+rkT a e))*(p:Int);rw[ydcd _ h.1 g.1,ydfk p h.2 g.2,ybdu,zU,show(rkR b y*(ybm a:Int)+rkT a f-(rkR b x*(ybm a:Int)+rkT a e))=(rkR b y-rkR b x)*(ybm a:Int)+(rkT a f-rkT a e)by rw[zCZ];omega,zAL,zCP (p:Int),zCJ]
def sumI(f:Nat->Int):Nat->Int
 |0=>0
 |n+1=>sumI f n+f n
theorem yni(f:Nat->Int):∀n,sumI f (n+1)=f 0+sumI (fun i=>f (i+1)) n
 |0=>by simp[sumI]
 | n+1=>by
   show sumI f (n+1)+f (n+1)=f 0+(sumI (fun i=>f (i+1)) n+f (n+1));rw[yni f n];omega
theorem ybbu{f g:Nat->Int}:∀{n:Nat},(∀i,i<n->f i=g i)->sumI f n=sumI g n
 |0,_=>rfl
 | n+1,h=>by
   show sumI f n+f n=sumI g n+g n;rw[ybbu fun i a=>h i (by omega),h n (by omega)]
theorem ycbp:∀{ys xs a:List Int},ys.length=xs.length->a.length=xs.length->grR ys xs a=sumI (fun i=>(ys.getD i 0-xs.getD i 0)*a.getD i 0) xs.length
 |[],[],[],_,_=>rfl
 | y::ys,x::xs,q::a,b,c=>by
   show(y-x)*q+grR ys xs a=sumI _ (xs.length+1);rw[yni,ycbp (by simpa using b) (by simpa using c)]
   rfl
theorem ycgd:∀{d c:Conf}{a:List (List Int)},d.length=c.length->a.length=c.length->grT d c a=sumI (fun i=>grR (d.getD i []) (c.getD i []) (a.getD i [])) c.length
 |[],[],[],_,_=>rfl
 | y::g,x::b,q::a,e,f=>by
   show grR y x q+grT g b a=sumI _ (b.length+1);rw[yni,ycgd (by simpa using e) (by simpa using f)]
   rfl
end
section
structure Loop(S:Sys)(V:Conf->Prop)(c:Nat->Conf)(s:Nat->Nat)(m:Nat):Prop where
 pos:0<m
 per:∀i,c (i+m)=c i
 val:∀i,V (c i)
 ne:∀i,s i≠0
 sub:∀i,subB (s i) (S.en (c i))
 nx:∀i,c (i+1)=S.mv (c i) (s i)
theorem switch{p:Nat->Prop}{a:Nat}:∀d,¬p a->p (a+d)->∃j,¬p j/\p (j+1)
 |0,b,e=>absurd e b
 | d+1,b,e=>by
   by_cases q:p (a+d)
   .exact switch d b q
   .exact⟨a+d,q,e⟩
theorem exists_least{p:Nat->Prop}(h:∃x,p x):∃x,p x/\∀y,p y->x<=y:=by
 obtain⟨x,d⟩:=h
 induction x using Nat.strongRecOn with
 | ind x e =>
   by_cases q:∃y,p y/\y<x
   .obtain⟨y,b,a⟩:=q;exact e y a b
   .exact⟨x,d,fun y b=>Nat.le_of_not_lt fun a=>q ⟨y,b,a⟩⟩
section
variable {S:Sys}{V:Conf->Prop}{c:Nat->Conf}{s:Nat->Nat}{m:Nat}
end
theorem ycnq {n:Nat}(f F:Nat->Nat->Int) {m:Nat}(hm:0<m) (C:∀i v,f (i+m) v=f i v) (l:∀t v,v<n->0<=f t v) (row:∀t v,v<n->f (t+1) v=F t v\/f (t+1) v=f t v)
 (O:∀t o v,v<n->(∀u,u<n->(f t u<F t v->f o u=f t u)/\(F t v<=f t u->F t v<=f o u))->F o v=F t v):∀v,v<n->∀t,f (t+1) v=f t v:=by
 classical
 have pers:∀v i k,f (i+k*m) v=f i v:=fun v i k=>by
  induction k with
  |zero=>rw[zCN];rfl
  |succ k M=>rw[zBV,<-zCK,C,M]
 have later:∀i t,∃j,t<=j/\∀v,f j v=f i v:=fun i t=>⟨i+t*m,zCQ (Nat.le_mul_of_pos_right t hm) (Nat.le_add_left _ _),fun v=>pers v i t⟩;intro v1 D t1;refine zF fun J=>?_
 let I:Nat->Prop:=fun v=>v<n/\∃t,f (t+1) v≠f t v
 let P:Nat->Prop:=fun x=>∃v,I v/\∃i,f i v=(x:Int)
 have Q:∃x,P x:=⟨(f 0 v1).toNat,v1,⟨D,t1,J⟩,0,by have:=l 0 v1 D;omega⟩
 obtain⟨z,⟨v,⟨L,t0,K⟩,i,N⟩,hz⟩:=exists_least Q
 have g:∀u,I u->∀t,((z:Nat):Int)<=f t u:=fun u r t=>by
  have h0:=l t u r.1;have:=hz (f t u).toNat ⟨u,r,t,by omega⟩
  omega
 obtain⟨x,hx⟩:∃x:Int,(z:Int)=x:=⟨_,rfl⟩;rw[hx]at N g
 have E:∀u,u<n->¬I u->∀t o,f t u=f o u:=fun u r hn=>by
  have all:∀t,f t u=f 0 u:=fun t=>by
   induction t with
   |zero=>rfl
   | succ t M =>
     rw[<-M];exact zF fun q=>hn ⟨r,t,q⟩
  exact fun t o=>(all t).trans (all o).symm
 have B:∃a,f a v≠x:=by
  by_cases q:f t0 v=x
  .exact⟨t0+1,fun e=>K (e.trans q.symm)⟩
  .exact⟨t0,q⟩
 obtain⟨a,T⟩:=B;obtain⟨b,U,W⟩:=later i a;obtain⟨j,y,h⟩:=switch (p:=fun t=>f t v=x) (a:=a) (b-a) T (by show f (a+(b-a)) v=x;rw[show a+(b-a)=b by omega,W];exact N)
 have w:F j v=x:=by
  rcases row j v L with e|e
  .rw[<-e];exact h
  .rw[e]at h;exact absurd h y
 have R:∀t,F t v=x:=fun t=>by
  rw[O j t v L fun u r=>?_]
  .exact w
  .rw[w]
   by_cases q:I u
   .exact⟨fun Z=>absurd (g u q j) (by omega),fun _=>g u q t⟩
   .have e:=E u r q t j;exact⟨fun _=>e,fun Y=>by omega⟩
 obtain⟨d,X,G⟩:=later j (j+1);obtain⟨k,H,A⟩:=switch (p:=fun t=>¬f t v=x) (a:=j+1) (d-(j+1)) (fun q=>q h) (by show ¬f (j+1+(d-(j+1))) v=x;rw[show j+1+(d-(j+1))=d by omega,G];exact y)
 rcases row k v L with e|e
 .exact A (by rw[e];exact R k)
 .exact A (by rw[e];exact zF H)
theorem Tgt.still {S:Sys}{V:Conf->Prop}{T:Conf->Nat->List Int}(h:Tgt S V T) (f:List Int->Int) (e:∀c v,V c->v<S.n->0<=f (c.getD v []))
 (k:∀c g v,V c->V g->v<S.n->(∀u,u<S.n->(f (c.getD u [])<f (T c v)->f (g.getD u [])=f (c.getD u []))/\(f (T c v)<=f (c.getD u [])->f (T c v)<=f (g.getD u [])))->f (T g v)=f (T c v))
 {c:Nat->Conf}{s:Nat->Nat}{m:Nat}(a:Loop S V c s m):∀v,v<S.n->∀t,f ((c (t+1)).getD v [])=f ((c t).getD v []) :=
 ycnq (fun t v=>f ((c t).getD v [])) (fun t v=>f (T (c t) v)) a.pos (fun i v=>by rw[a.per]) (fun t v b=>e _ _ (a.val t) b) (fun t v b=>by
  show f ((c (t+1)).getD v [])=_\/f ((c (t+1)).getD v [])=_;rw[a.nx t];cases j:(s t).testBit v with
  |true=>exact .inl (by rw[h.move _ _ _ (a.val t) b j (a.sub t)])
  |false=>exact .inr (by rw[h.stay _ _ _ (a.val t) b j])) fun t l v b d=>k _ _ v (a.val t) (a.val l) b d
theorem Tgt.no_loop {S:Sys}{V:Conf->Prop}{T:Conf->Nat->List Int}(h:Tgt S V T) (o:∀c,S.en c<2^S.n) (f:List Int->Int) (j:∀c v,V c->v<S.n->0<=f (c.getD v []))
 (z:∀c g v,V c->V g->v<S.n->(∀u,u<S.n->(f (c.getD u [])<f (T c v)->f (g.getD u [])=f (c.getD u []))/\(f (T c v)<=f (c.getD u [])->f (T c v)<=f (g.getD u [])))->f (T g v)=f (T c v))
 (y:∀c g v,V c->V g->v<S.n->(∀u,u<S.n->f (g.getD u [])=f (c.getD u []))->T g v=T c v)
 {c:Nat->Conf}{s:Nat->Nat}{m:Nat}(a:Loop S V c s m):False:=by
 have r:=h.still f j z a
 have all:∀u,u<S.n->∀t,f ((c t).getD u [])=f ((c 0).getD u []):=fun u w t=>by
  induction t with
  |zero=>rfl
  |succ t x=>rw[r u w t,x]
 have A:∀v,v<S.n->∀t,T (c t) v=T (c 0) v:=fun v l t=>y _ _ _ (a.val 0) (a.val t) l fun u w=>all u w t
 obtain⟨v,l⟩:∃v,(s 0).testBit v=true:=zF fun q=>a.ne 0 ((ylo _).2 fun i=>by
  cases k:(s 0).testBit i with
  |false=>rfl
  |true=>exact absurd ⟨i,k⟩ q)
 have d:=a.sub 0 v l
 have b:v<S.n:=by
  rcases zAT v S.n with q|q
  .exact q
  .rw[zBP (zBX (o _) (zBT (by omega) q))]at d;cases d
 have p:(c 0).getD v []≠T (c 0) v:=fun e=>by
  rw[(h.en _ _ (a.val 0) b).2 e]at d;cases d
 have after:∀t,(c (t+1)).getD v []=T (c 0) v:=fun t=>by
  induction t with
  |zero=>rw[a.nx 0];exact h.move _ _ _ (a.val 0) b l (a.sub 0)
  | succ t x =>
    rw[a.nx (t+1)];cases k:(s (t+1)).testBit v with
    |true=>rw[h.move _ _ _ (a.val _) b k (a.sub _)];exact A v b _
    |false=>rw[h.stay _ _ _ (a.val _) b k];exact x
 have B:=a.pos;refine p ?_;have e:=after (m-1);rw[show m-1+1=0+m by omega,a.per 0]at e
 exact e
end
section
structure ByRoundsC(S:Sys)(V:Conf->Prop)(D:Nat->Prop)(P:Nat->Nat->Conf->Prop):Prop where
 valid:∀c s,V c->s≠0->subB s (S.en c)->D s->V (S.mv c s)
 stay:∀c s v r r',r<=r'->r'<=r+1->V c->v<S.n->s.testBit v=false->subB s (S.en c)->D s->(∀u,u<S.n->P r u c)->P r' v c->P r' v (S.mv c s)
 move:∀c s v r,V c->v<S.n->s.testBit v=true->subB s (S.en c)->D s->(∀u,u<S.n->P r u c)->P (r+1) v (S.mv c s)
 rest:∀c v r,V c->v<S.n->(S.en c).testBit v=false->(∀u,u<S.n->P r u c)->P (r+1) v c
 less:∀r v c,P (r+1) v c->P r v c
structure RInvC(S:Sys)(V:Conf->Prop)(P:Nat->Nat->Conf->Prop)(c:Conf)(k:Cnt):Prop where
 valid:V c
 all:∀v,v<S.n->P k.rounds v c
 done:∀v,v<S.n->k.pend.testBit v=false->P (k.rounds+1) v c
 begun:k.begun<=k.rounds+1
section
variable {S:Sys}{V:Conf->Prop}{D:Nat->Prop}{P:Nat->Nat->Conf->Prop}
end
end
section
theorem ymw{i:Type}[DecidableEq i]:∀{l1 l2:List i},l1.Nodup->(∀x∈l1,x∈l2)->l1.length<=l2.length
 |[],_,_,_=>zM _
 | a::t,l2,b,f=>by
   have b:=List.nodup_cons.1 b;have d:=f a zK;have:=ymw (l1:=t) (l2:=l2.erase a) b.2 fun y h=>(zAR fun e=>b.1 (by rw[<-e];exact h)).2 (f y (zL _ h))
   rw[zAJ d]at this;have:=List.length_pos_of_mem d;simp only[zBJ];omega
def kcEx:Ex:=.agg 21 (.bin 35 (eQ 0) (eVar 0))
def ycab(nm c r:ByteArray):ProgT:=⟨nm,[⟨c,1,0,0,1,0⟩],[⟨r,kcEx,[(0,.agg 27 (eQ 0))]⟩]⟩
def ycla(c:Conf)(v:Nat):Int:=(c.getD v []).getD 0 0
def yedp(g:Gr)(c:Conf)(v:Nat):Prop:=∃u,adj g v u/\ycla c u=ycla c v
structure KcC(g:Gr)(c:Conf):Prop where
 len:c.length=g.ids.length
 row:∀v,v<g.ids.length->(c.getD v []).length=1/\(0<=ycla c v/\ycla c v<=g.ids.length)
section
variable {nm nc nr:ByteArray}{g:Gr}{c:Conf}{u v s:Nat}
def kcR(g:Gr)(r v:Nat)(c:Conf):Prop:=1<=r->¬yedp g c v
structure KcJ(nm nc nr:ByteArray)(g:Gr)(c:Conf)(k:Cnt):Prop where
 inv:RInvC (ymq (ycab nm nc nr) g) (fun c=>ydo (ycab nm nc nr) g c=true) (kcR g) c k
 moves:k.moves+popP (ybt (ycab nm nc nr) g c)<=g.ids.length
end
end
section
theorem ydtf{N:Nat}{f:Nat->Nat}(h:∀i,f i<N):∃i m,0<m/\f (i+m)=f i:=by
 refine zF fun g=>?_;have d:∀i j,i<j->f i≠f j:=fun i j k e=>g ⟨i,j-i,by omega,by rw[show i+(j-i)=j by omega,e]⟩
 have l:((zG (N+1)).map f).Nodup:=by
  unfold List.Nodup;rw[zBG];exact List.pairwise_lt_range.imp fun {a b} c=>d a b c
 have:=ymw (l2:=zG N) l fun x n=>by
  obtain⟨i,_,rfl⟩:=List.mem_map.1 n;exact List.mem_range.2 (h i)
 simp at this;omega
structure Back(N:Nat)(arcs:Nat->List (Nat×Nat))(f:Nat->Nat)(m:Nat):Prop where
 pos:0<m
 per:∀i,f (i+m)=f i
 lt:∀i,f i<N
 arc:∀i,∃a∈arcs (f i),a.2=f (i+1)
theorem ycqz{m t:Nat}(b:0<m):((t+1)%m=t%m+1)\/(t%m+1=m/\(t+1)%m=0):=by
 have c:=zDD t b;rcases zAT (t%m+1) m with h|h
 .left
  rw[Nat.add_mod];rcases zAT 1 m with a|a
  .rw[zAG a,zAG h]
  .omega
 .right
  refine⟨by omega,?_⟩
  have e:t+1=m*(t/m)+m:=by
   have:=Nat.div_add_mod t m;omega
  rw[e,Nat.mul_add_mod,Nat.mod_self]
theorem ydjr {N:Nat}{b:Nat->List (Nat×Nat)}{set:Nat->Bool}{L:List Nat}(j:∀k,k<N->set k=true->k∈L)
 (o:∀k,k<N->set k=false->b k≠[]->(∀a∈b k,a.2∈L)->k∈L) (u:∀k,k<N->∀a∈b k,a.2<N) (s:∀k,k<N->set k=false->b k≠[])
 (d:∀f m,Back N b f m->False):∀k,k<N->k∈L:=by
 classical
 intro C z;refine zF fun q=>?_
 have step:∀k:Nat,∃v,(k<N/\¬k∈L)->(v<N/\¬v∈L)/\∃a∈b k,a.2=v:=fun k=>by
  by_cases hk:k<N/\¬k∈L
  .have n:set k=false:=by
    cases n:set k with
    |false=>rfl
    |true=>exact absurd (j k hk.1 n) hk.2
   obtain⟨a,c,r⟩:∃a∈b k,¬a.2∈L:=zF fun A =>
    hk.2 (o k hk.1 n (s k hk.1 n) fun a c=>zF fun r=>A ⟨a,c,r⟩)
   exact⟨a.2,fun _=>⟨⟨u k hk.1 a c,r⟩,a,c,rfl⟩⟩
  .exact⟨0,fun h=>absurd h hk⟩
 let l:Nat->Nat:=fun k=>(step k).choose
 have g:∀k,(k<N/\¬k∈L)->(l k<N/\¬l k∈L)/\∃a∈b k,a.2=l k:=fun k=>(step k).choose_spec
 let f:Nat->Nat:=fun i=>Nat.rec C (fun _ k=>l k) i
 have f1:∀i,f (i+1)=l (f i):=fun i=>rfl
 have p:∀i,f i<N/\¬f i∈L:=fun i=>by
  induction i with
  |zero=>exact⟨z,q⟩
  |succ i B=>rw[f1];exact(g _ B).1
 obtain⟨i,m,w,e⟩:=ydtf fun i=>(p i).1;refine d (fun t=>f (i+t%m)) m ⟨w,fun t=>by simp,fun t=>(p _).1,fun t=>?_⟩
 obtain⟨a,c,x⟩:=(g _ (p (i+t%m))).2;refine⟨a,c,x.trans ?_⟩;rw[<-f1];rcases ycqz (t:=t) w with h|⟨h,y⟩
 .rw[h];rfl
 .rw[y,show i+t%m+1=i+m by omega,e];rfl
theorem ydmr{N:Nat}{L:List Nat}(h:∀k,k<N->k∈L):N<=L.length:=by
 have:=ymw (l1:=zG N) (l2:=L) zCD fun x a=>h x (List.mem_range.1 a)
 simpa using this
def yuq(l:List (Nat×Nat))(A:List Nat):Nat:=l.countP fun a=>A.contains a.2
theorem ycag{l:List (Nat×Nat)}{A:List Nat}:yuq l A=l.length↔∀a∈l,a.2∈A:=by
 unfold yuq;rw[List.countP_eq_length];simp
theorem ycch(l:List (Nat×Nat)):yuq l []=0:=by
 unfold yuq;rw[List.countP_eq_zero];simp
theorem ybwl{l:List (Nat×Nat)}{A:List Nat}{x:Nat}(d:x∉A):yuq l (A++[x])=yuq l A+l.countP fun a=>a.2==x:=by
 unfold yuq
 induction l with
 |nil=>rfl
 | cons a l e =>
   rw[zBK,zBK,zBK,e]
   by_cases b:a.2=x
   .have:A.contains a.2=false:=by rw[b];simpa using d
    have c:(A++[x]).contains a.2=true:=by simp[b]
    rw[this,c];simp[b];omega
   .have c:(A++[x]).contains a.2=A.contains a.2:=by
     simp[b]
    rw[c];simp[b];omega
end
section
theorem yjj{a:Type}{l:List a}{k:Nat}{d:a}(h:k<l.length):l.getD k d=l[k]:=by simp[zAC,h]
structure Spc where
 N:Nat
 en:Nat->Nat
 arcs:Nat->List (Nat×Nat)
def yblb(l:List (Nat×Nat))(i:Nat):Nat:=if i=0 then 0 else(l.getD (i-1) (0,0)).1
def sumA(S:Spc):Nat->Nat
 |0=>0
 |k+1=>sumA S k+(S.arcs k).length
structure Spc.ok(S:Spc):Prop where
 pos:0<S.N
 le:S.N<=32768
 lt:∀k,k<S.N->S.en k<2^24
 ne:∀k,k<S.N->(S.en k=0↔(S.arcs k).length=0)
 sub:∀k,k<S.N->∀i,i<(S.arcs k).length->((S.arcs k).getD i (0,0)).1<2^24/\difB ((S.arcs k).getD i (0,0)).1 (S.en k)=0
 asc:∀k,k<S.N->∀i,i<(S.arcs k).length->yblb (S.arcs k) i<((S.arcs k).getD i (0,0)).1
 to:∀k,k<S.N->∀i,i<(S.arcs k).length->((S.arcs k).getD i (0,0)).2<S.N
 tot:sumA S S.N<=262144
theorem ync(S:Spc):∀{n k:Nat},k<=n->sumA S k<=sumA S n
 |0,k,h=>by rw[Nat.le_zero.1 h];exact zAK _
 | n + 1,k,h=>by
   rcases zAT k (n+1)with q|q
   .have:=ync S (n:=n) (k:=k) (by omega)
    show _<=sumA S n+_;omega
   .rw[show k=n+1 by omega];exact zAK _
theorem Spc.ok.len{S:Spc}(h:S.ok){k:Nat}(hk:k<S.N):(S.arcs k).length<=262144:=by
 have a:=ync S (n:=S.N) (k:=k+1) (by omega)
 have b:=h.tot;have:sumA S (k+1)=sumA S k+(S.arcs k).length:=rfl;omega
theorem Spc.ok.mem{S:Spc}(h:S.ok){k:Nat}(hk:k<S.N){a:Nat×Nat}(c:a∈S.arcs k):a.2<S.N:=by
 obtain⟨i,b,rfl⟩:=List.getElem_of_mem c;have:=h.to k hk i b
 rwa [yjj b]at this
def ygr(S:Spc)(k i:Nat):List (Nat×Nat):=(zG k).flatMap (fun q=>(S.arcs q).map fun a=>(q,a.2))++((S.arcs k).take i).map fun a=>(k,a.2)
def ygy(S:Spc)(k i j:Nat):List Nat:=((ygr S k i).filter fun p=>p.2==j).map (·.1)
theorem yty(S:Spc)(k:Nat):ygr S k (S.arcs k).length=ygr S (k+1) 0:=by
 unfold ygr;rw[zY,zAU,List.flatMap_append];simp
theorem ybbm(S:Spc)(k j:Nat):ygy S k (S.arcs k).length j=ygy S (k+1) 0 j:=by unfold ygy;rw[yty]
theorem ybbo(S:Spc)(j:Nat):ygy S 0 0 j=[]:=rfl
theorem ybjn(S:Spc){k i:Nat}(a:i<(S.arcs k).length):ygr S k (i+1)=ygr S k i++[(k,((S.arcs k).getD i (0,0)).2)]:=by
 unfold ygr;rw[zAM a,zBM,<-List.append_assoc,yjj a];rfl
theorem ybwb(S:Spc){k i:Nat}(a:i<(S.arcs k).length)(j:Nat):ygy S k (i+1) j=if j=((S.arcs k).getD i (0,0)).2 then ygy S k i j++[k]else ygy S k i j:=by
 unfold ygy;rw[ybjn S a,zO,zBM]
 by_cases q:j=((S.arcs k).getD i (0,0)).2
 .rw[if_pos q];have:((k,((S.arcs k).getD i (0,0)).2).2==j)=true:=by rw[q];exact beq_self_eq_true _
  rw[zAN,this];rfl
 .rw[if_neg q];have:((k,((S.arcs k).getD i (0,0)).2).2==j)=false:=by rw[beq_eq_false_iff_ne];exact Ne.symm q
  rw[zAN,this];simp
theorem ypi(S:Spc):∀k,(ygr S k 0).length=sumA S k
 |0=>rfl
 | k+1=>by
   rw[<-yty];have a:=ypi S k;unfold ygr at a ⊢;simp only[zAX,zBY,zAD]at a;rw[zI,a,zY,zAI];rfl
theorem yxu{S:Spc}(h:S.ok){k i:Nat}(hk:k<=S.N)(f:k<S.N->i<=(S.arcs k).length)(b:k=S.N->i=0)(j:Nat):(ygy S k i j).length<=262144:=by
 have c:(ygr S k i).length<=262144:=by
  rcases zAT k S.N with q|q
  .have d:=ync S (n:=S.N) (k:=k+1) (by omega)
   have e:=h.tot;have a:=ypi S k;unfold ygr at a ⊢;simp only[zAX,zBY,zAD]at a;rw[zI,a,zAI,List.length_take];have:sumA S (k+1)=sumA S k+(S.arcs k).length:=rfl;omega
  .rw[b (by omega),ypi,show k=S.N by omega];exact h.tot
 unfold ygy;rw[zAI];exact zCQ (zAO _ _) c
theorem ycof{S:Spc}{k i j:Nat}(hk:k<S.N\/i=0/\k<=S.N):∀x∈ygy S k i j,x<S.N:=fun x d=>by
 unfold ygy at d;obtain⟨p,b,rfl⟩:=List.mem_map.1 d;have b:=(List.mem_filter.1 b).1;unfold ygr at b;rcases List.mem_append.1 b with q|q
 .obtain⟨y,e,q⟩:=List.mem_flatMap.1 q;obtain⟨a,_,rfl⟩:=List.mem_map.1 q;have:=List.mem_range.1 e;show y<S.N;omega
 .obtain⟨a,c,rfl⟩:=List.mem_map.1 q;rcases hk with h|⟨h,_⟩
  .exact h
  .rw[h]at c;simp at c
def srcS(S:Spc)(j:Nat):List Nat:=ygy S S.N 0 j
theorem ybjj{S:Spc}{k:Nat}(j:Nat):∀n,(ygy S n 0 j).count k=if k<n then(S.arcs k).countP (fun a=>a.2==j)else 0
 |0=>by simp[ybbo]
 | n + 1=>by
   have d:=ybjj (S:=S) (k:=k) j n
   have e:ygy S (n+1) 0 j=ygy S n 0 j++((S.arcs n).filter fun a=>a.2==j).map fun _=>n:=by
    rw[<-ybbm];unfold ygy ygr;simp only[zY,zAX,zBY,zAD,zO,zBM,List.filter_map,List.map_map];rfl
   rw[e,zBZ,d]
   by_cases q:k=n
   .subst q;rw[if_neg (by omega),if_pos (by omega),List.map_const',List.count_replicate_self,<-List.countP_eq_length_filter]
    omega
   .rw[List.count_eq_zero.2 (fun c=>q (by obtain⟨_,_,rfl⟩:=List.mem_map.1 c;rfl))]
    by_cases b:k<n
    .rw[if_pos b,if_pos (by omega)];omega
    .rw[if_neg b,if_neg (by omega)]
structure OrdI(S:Spc)(lg:Nat->Bool)(L:List Nat)(i j:Nat)(E:Nat->Nat):Prop where
 nd:L.Nodup
 lt:∀x∈L,x<S.N
 set:∀k,k<S.N->lg k=true->k∈L
 hi:i<=L.length
 cnt:∀k,k<S.N->E k=yuq (S.arcs k) (L.take i)+(if i<L.length then((srcS S (L.getD i 0)).take j).count k else 0)
 inn:∀k,k<S.N->lg k=false->(k∈L↔0<(S.arcs k).length/\E k=(S.arcs k).length)
section
variable {S:Spc}{lg:Nat->Bool}{L:List Nat}{i j:Nat}{E:Nat->Nat}
theorem OrdI.start(c:L.Nodup)(b:∀x∈L,x<S.N)(a:∀k,k<S.N->(k∈L↔lg k=true)):OrdI S lg L 0 0 fun _=>0 :=
 ⟨c,b,fun k hk h=>(a k hk).2 h,zM _,fun k hk=>by rw[zAX,ycch];simp,fun k hk h=>⟨fun d=>(by rw[(a k hk).1 d]at h;cases h),fun q=>by omega⟩⟩
theorem ygu{b:Type}{l:List b}{i:Nat}(d:b)(a:i<l.length):l.take (i+1)=l.take i++[l.getD i d]:=by
 rw[zAM a,yjj a]
theorem OrdI.cnt_le(h:OrdI S lg L i j E)(a:i<L.length){k:Nat}(hk:k<S.N):yuq (S.arcs k) (L.take i)+(srcS S (L.getD i 0)).count k=yuq (S.arcs k) (L.take (i+1)):=by
 rw[ygu 0 a,ybwl]
 .unfold srcS;rw[ybjj,if_pos hk]
 .intro c;have:=h.nd;rw[<-List.take_append_drop (i+1) L,ygu 0 a]at this;have b:=(List.nodup_append.1 (List.nodup_append.1 this).1).2.2;exact b _ c _ (List.mem_singleton.2 rfl) rfl
theorem ycqa(l:List (Nat×Nat))(A:List Nat):yuq l A<=l.length:=List.countP_le_length
theorem ymf{l:List Nat}{j:Nat}(a:j<l.length)(k:Nat):(l.take (j+1)).count k=(l.take j).count k+if l.getD j 0=k then 1 else 0:=by
 rw[ygu 0 a,zBZ,List.count_singleton];simp
theorem OrdI.step(h:OrdI S lg L i j E)(g:i<L.length)(p:j<(srcS S (L.getD i 0)).length){k:Nat}(hk:(srcS S (L.getD i 0)).getD j 0=k)(hkN:k<S.N) :
 E k<(S.arcs k).length/\(let s:=fun q=>if q=k then E k+1 else E q
 OrdI S lg (if lg k=false/\E k+1=(S.arcs k).length then L++[k]else L) i (j+1) s):=by
 have m:E k<(S.arcs k).length:=by
  have l:=h.cnt k hkN;rw[if_pos g]at l;have A:=h.cnt_le g hkN;have B:=ycqa (S.arcs k) (L.take (i+1));have v:=ymf p k;rw[if_pos hk]at v;have C:((srcS S (L.getD i 0)).take (j+1)).count k<=(srcS S (L.getD i 0)).count k:=(List.take_sublist _ _).count_le _;omega
 refine⟨m,?_⟩
 have f:∀q,q<S.N->(if q=k then E k+1 else E q)=yuq (S.arcs q) (L.take i)+((srcS S (L.getD i 0)).take (j+1)).count q:=fun q z=>by
  have l:=h.cnt q z;rw[if_pos g]at l;rw[ymf p q,hk]
  by_cases e:q=k
  .subst e;rw[if_pos rfl,if_pos rfl];omega
  .rw[if_neg e,if_neg (Ne.symm e)];omega
 by_cases q:lg k=false/\E k+1=(S.arcs k).length
 .simp only[if_pos q]
  have o:k∉L:=fun n=>by
   have:=((h.inn k hkN q.1).1 n).2;omega
  refine⟨?_,fun x c=>?_,fun x c d=>List.mem_append_left _ (h.set x c d),by rw[zI];have:=h.hi;omega,fun x c=>?_,fun x c d=>?_⟩
  .exact List.nodup_append.2 ⟨h.nd,List.pairwise_singleton _ _,fun a w b y=>by rw[List.mem_singleton.1 y];rintro rfl;exact o w⟩
  .rcases List.mem_append.1 c with r|r
   .exact h.lt x r
   .rw[List.mem_singleton.1 r];exact hkN
  .have t:(L++[k]).take i=L.take i:=List.take_append_of_le_length h.hi
   have u:(L++[k]).getD i 0=L.getD i 0:=by
    simp only[zAC,zQ g]
   have d:i<(L++[k]).length:=by rw[zI];omega
   rw[t,u,if_pos d];exact f x c
  .by_cases e:x=k
   .subst e;rw[if_pos rfl];exact⟨fun _=>⟨by omega,q.2⟩,fun _=>List.mem_append_right _ (List.mem_singleton.2 rfl)⟩
   .rw[if_neg e];refine Iff.trans ?_ (h.inn x c d);rw[List.mem_append,List.mem_singleton];exact⟨fun r=>r.resolve_right e,.inl⟩
 .simp only[if_neg q];refine⟨h.nd,h.lt,h.set,h.hi,fun x c=>by rw[if_pos g];exact f x c,fun x c d=>?_⟩
  by_cases e:x=k
  .subst e;rw[if_pos rfl];exact⟨fun n=>absurd ((h.inn x c d).1 n).2 (by omega),fun r=>absurd ⟨d,r.2⟩ q⟩
  .rw[if_neg e];exact h.inn x c d
theorem OrdI.next(h:OrdI S lg L i j E)(a:i<L.length)(c:j=(srcS S (L.getD i 0)).length):OrdI S lg L (i+1) 0 E :=
 ⟨h.nd,h.lt,h.set,a,fun k hk=>by
   have b:=h.cnt k hk;rw[if_pos a,c,zY]at b;rw[b,h.cnt_le a hk];simp,h.inn⟩
theorem OrdI.all(h:OrdI S lg L L.length j E)(d:∀k,k<S.N->∀a∈S.arcs k,a.2<S.N)(c:∀k,k<S.N->lg k=false->S.arcs k≠[])(b:∀f m,Back S.N S.arcs f m->False):∀k,k<S.N->k∈L:=by
 refine ydjr h.set (fun k hk l n g=>(h.inn k hk l).2 ⟨List.length_pos_iff.2 n,?_⟩) d c b;have e:=h.cnt k hk;rw[if_neg (by omega),zY]at e
 rw[e,ycag.2 g];rfl
theorem OrdI.len(h:OrdI S lg L i j E):L.length<=S.N:=by
 have:=ymw (l2:=zG S.N) h.nd fun x a=>List.mem_range.2 (h.lt x a)
 simpa using this
end
end
section
namespace Sh
open Ev Go.RowKit
def ybl(l:List (Nat×Nat)):SV:=.sl 2 l.length (fun i=>[.i .u32 ((l.getD i (0,0)).1:Nat),.i .i64 ((l.getD i (0,0)).2:Nat)])
def spcC(S:Spc):List SV:=[.sl 1 S.N (fun k=>[.i .u32 (S.en k:Nat)]),.sl 1 S.N (fun k=>[ybl (S.arcs k)])]
def ybb(n:Nat)(f:Nat->Bool):SV:=.sl 1 n (fun k=>[.b (f k)])
theorem dec_lt{a b:Nat}(h:a<b):decide ((a:Int)<(b:Int))=true:=by simp;omega
theorem ybwq{e n:Nat}{l:List (Nat×Nat)}(C:e<2^24)(c:e=0↔l.length=0)(A:l.length<=262144)(g:∀i,i<l.length->(l.getD i (0,0)).1<2^24/\difB (l.getD i (0,0)).1 e=0)(d:∀i,i<l.length->yblb l i<(l.getD i (0,0)).1)(s:∀i,i<l.length->(l.getD i (0,0)).2<n) :
 Returns zH 180 [.i .u32 (e:Nat),ybl l,.i .i64 (n:Nat)] (.b true):=by
 refine Returns.of (ydjm _ _ ?_);obtain⟨m,x⟩:∃m,l.length=m:=⟨_,rfl⟩;have B:e>>>24=0:=by rw[Nat.shiftRight_eq_div_pow];omega
 have f0:((((e>>>24:Nat):Int))!=0)=false:=by rw[B];rfl
 have f1:(((e:Int)!=0)!=decide ((m:Int)>0))=false:=by
  rw[x]at c
  by_cases q:e=0
  .have:=c.1 q;subst q;subst this;rfl
  .have D:m≠0:=fun r=>q (c.2 r);have y:((e:Int)!=0)=true:=by rw[bne_iff_ne];omega
   have z:decide ((m:Int)>0)=true:=by simp;omega
   rw[y,z];rfl
 simp only[c180,ydat,ycvw,ycxi,ydfa,ybl,x,ycgi,f0,f1,go_sem,Int.reduceToNat,zA,zB];refine⟨by decide,?_⟩
 refine ybf (σ:=Nat) (fun k=>⟨[(23,.i .i64 k),(22,.i .i64 m),(21,.sl 2 m (fun i=>[.i .u32 ((l.getD i (0,0)).1:Nat),.i .i64 ((l.getD i (0,0)).2:Nat)])),(0,.i .u32 (e:Nat)),(2,.i .i64 (n:Nat)),(7,.i .u32 (yblb l k:Nat))],[]⟩)
  (fun k=>k<=m) (fun k=>m-k) 0 (zM _) ?_ ?_
 .refine yw ?_;simp only[yblb,wk,go_sem,zA]
 .intro k hk
  by_cases j:k<m
  .obtain⟨u,h⟩:=g k (by omega)
   have v:=d k (by omega)
   have w:=s k (by omega)
   have o:yblb l (k+1)=(l.getD k (0,0)).1:=rfl;obtain⟨⟨a,t⟩,f⟩:∃p,l.getD k (0,0)=p:=⟨_,rfl⟩;rw[f]at u h v w o;simp only at u h v w o;have d1:=dec_lt j;have d2:decide ((a:Int)<=(yblb l k:Int))=false:=by simp;omega
   have d3:=u32_andNot (a:=a) (b:=e) (by omega) (by omega)
   rw[h]at d3;simp only[IntKind.bits]at d3;have d4:decide ((t:Int)<0)=false:=by simp
   have d5:decide ((t:Int)>=(n:Int))=false:=by simp;omega
   have d6:((((0:Nat):Int))!=0)=false:=rfl;simp only[ycgw,ycvl,ycra,ycsy,ycuy,ybzy,yblv,f,d1,d2,d3,d4,d5,d6,splice,go_sem,zA,zB,zD,zC];refine⟨⟨by omega,by omega⟩,ikw (by omega) (by omega),?_⟩
   refine ybz (k+1) ?_;refine yw ?_;simp only[o,wk,go_sem,zA];omega
  .obtain rfl:k=m:=by omega
   simp only[ycgw,yblv,zJ,yyr,go_sem,zA]
def spcO(S:Spc):Fam:=.one (some ⟨41,true,2,1,fun _=>spcC S⟩)
theorem ybvp{S:Spc}(h:S.ok):Returns zH 136 [.ag (spcC S)] (.b true):=by
 refine Returns.of (ydgj _ _ ?_);have g:=h.pos;have d:=h.le;have f1:decide ((S.N:Int)<1)=false:=by simp;omega
 have f2:decide ((S.N:Int)>32768)=false:=by simp;omega
 have f3:((S.N:Int)!=(S.N:Int))=false:=by simp
 simp only[c136,ydbe,yddz,ycrm,ycsf,yctz,spcC,ybl,f1,f2,f3,go_sem,zA,zB,zD,zC];refine ybf (σ:=Nat) (fun k=>⟨[(23,.i .i64 k),(22,.i .i64 (S.N:Nat)),(3,.i .i64 (S.N:Nat)),(4,.i .i64 (sumA S k:Nat)),(1,.pt (1,0) 0 0)],[(1,spcO S)]⟩) (fun k=>k<=S.N) (fun k=>S.N-k) 0 (zM _) ?_ ?_
 .refine yw ?_;simp only[spcO,spcC,ybl,sumA,wk,go_sem,zA,zC]
 .intro k hk
  by_cases a:k<S.N
  .have c:=ybwq (h.lt k a) (h.ne k a) (h.len a) (h.sub k a) (h.asc k a) (h.to k a);simp only[ybl]at c;have d1:=dec_lt a;have e:((sumA S k:Nat):Int)+((S.arcs k).length:Nat)=((sumA S (k+1):Nat):Int):=by show _=((sumA S k+(S.arcs k).length:Nat):Int);omega
   have f:=ync S (n:=S.N) (k:=k+1) (by omega)
   have j:=h.tot;have d2:decide (((sumA S (k+1):Nat):Int)>262144)=false:=by simp;omega
   simp only[ycfo,ycts,ydau,ydbn,ycem,spcO,spcC,ybl,d1,d2,e,clash,go_sem,zA,zB,zD];refine⟨by omega,ikw (by omega) (by omega),by omega,by omega,c.use ?_⟩
   simp only[ybk,clash,go_sem,zA,zB]
   try refine⟨by decide,?_⟩
   refine⟨ikw (by omega) (by omega),?_⟩
   refine ybz (k+1) ?_;refine yw ?_;simp only[wk,go_sem,zA,zC];omega
  .obtain rfl:k=S.N:=by omega
   simp only[ycfo,ybyi,zJ,yyr,go_sem,zA]
theorem ysu{S:Spc}(h:S.ok)(lg:Nat->Bool):Returns zH 73 [.ag (spcC S),ybb S.N lg] (.i .i64 0):=by
 refine Returns.of (ydwq _ _ ?_);have a:=ybvp h;have f3:((S.N:Int)!=(S.N:Int))=false:=by simp
 simp only[spcC,ybl]at a;simp only[c73,ydos,ydrs,spcC,ybl,ybb,clash,go_sem,zA,zB,zC];refine a.use ?_;simp only[ybk,ydxd,ydup,clash,f3,go_sem,zA,zB,zD];exact Sim.refl _
theorem ybtt{S:Spc}(h:S.ok){lg:Nat->Bool}(f:∀k,k<S.N->lg k=true->(S.arcs k).length=0):Returns zH 18 [.ag (spcC S),ybb S.N lg] (.tp [.b true,.i .i64 0]):=by
 refine Returns.of (yecg _ _ ?_);have d:=ysu h lg;have g:=h.le;simp only[spcC,ybl,ybb]at d;simp only[c18,ydyy,yecf,spcC,ybl,ybb,clash,go_sem,zA,zB,zC];refine d.use ?_;simp only[ybk,ydsu,ydty,clash,zAH,go_sem,zA,zB];refine ybf (σ:=Nat) (fun k=>⟨[(20,.i .i64 k),(19,.i .i64 (S.N:Nat)),(18,.sl 1 S.N fun k=>[ybl (S.arcs k)]),(1,ybb S.N lg)],[]⟩) (fun k=>k<=S.N) (fun k=>S.N-k) 0 (zM _) ?_ ?_
 .refine yw ?_;simp only[ybl,ybb,wk,go_sem,zA]
 .intro k hk
  by_cases a:k<S.N
  .have d1:=dec_lt a;cases c:lg k with
   | false =>
     simp only[ycmd,ydln,ydmn,ybys,ybl,ybb,d1,c,clash,go_sem,zA,zB];refine⟨⟨by omega,by omega⟩,⟨by omega,by omega⟩,ikw (by omega) (by omega),?_⟩
     refine ybz (k+1) ?_;refine yw ?_;simp only[wk,go_sem,zA];omega
   | true =>
     have e:=f k a c;simp only[ycmd,ydln,ydmn,yeay,ybl,ybb,d1,c,clash,e,go_sem,zA,zB];refine⟨⟨by omega,by omega⟩,⟨by omega,by omega⟩,?_⟩
     refine ybf (σ:=Unit) (fun _=>⟨[(32,.i .i64 0),(31,.i .i64 0),(20,.i .i64 k),(19,.i .i64 (S.N:Nat)),(18,.sl 1 S.N fun k=>[ybl (S.arcs k)]),(1,ybb S.N lg)],[]⟩) (fun _=>True) (fun _=>0) () trivial ?_ ?_
     .refine yw ?_;simp only[ybl,ybb,wk,go_sem,zA]
     .intro _ _;simp only[ydxx,ybys,ybl,ybb,zJ,clash,go_sem,zA,zB];refine⟨ikw (by omega) (by omega),?_⟩
      refine ybz (k+1) ?_;refine yw ?_;simp only[wk,go_sem,zA];omega
  .obtain rfl:k=S.N:=by omega
   simp only[ycmd,ycuq,zJ,go_sem,zA,zB];exact Sim.refl _
end Sh
end
section
namespace Sh
open Ev Go.RowKit
def ycm(l:List Nat):SV:=.sl 1 l.length (fun i=>[.i .i64 ((l.getD i 0:Nat):Int)])
def rowC(F:Nat)(f:Nat->List Nat)(j:Nat):SV:=if (f j).length=0 then .a (.slice none 0 0)else .os (F,j) 0 (f j).length true
def rowB(e:Nat)(k:IntKind)(l:List Nat):Option OB:=if l.length=0 then none else some ⟨e,false,1,l.length,fun i=>[.i k ((l.getD i 0:Nat):Int)]⟩
def yim(e:Nat)(k:IntKind)(f:Nat->List Nat):Fam:=.many fun j=>rowB e k (f j)
theorem yla{F e j:Nat}{k:IntKind}{f:Nat->List Nat}{O:Own}(ρ:List (Nat×(Nat->Nm))){X:SV}(c:X=if (f j).length=0 then .a (.slice none 0 0)else .os (rid ρ (F,j)) 0 (f j).length true)(b:lookO O (F,j)=rowB e k (f j)) :
 (Sim X (ren (rid ρ) 5 (rowC F f j))/\cln (lv [] O) 5 (rowC F f j)=true)/\one1 (rowC F f j)=true:=by
 subst c;unfold rowC
 by_cases q:(f j).length=0
 .simp only[if_pos q];exact⟨⟨Sim.refl _,rfl⟩,rfl⟩
 .simp only[if_neg q];refine⟨⟨Sim.refl _,?_⟩,rfl⟩;show(live O (F,j) && !(zDE F []))=true;unfold live;rw[b];unfold rowB;rw[if_neg q];rfl
theorem yee{e:Nat}{k:IntKind}{l:List Nat}{b:OB}{h:Nm->Nm}{f j:Own}(m:mapE e=false)(a:rowB e k l=some b){c:OB}(d:(c.e=e/\c.bx=false/\c.z=1/\c.n=l.length)/\∀i,i<l.length->c.g i=[.i k ((l.getD i 0:Nat):Int)]) :
 (c.e=b.e/\c.bx=b.bx/\c.z=b.z/\c.n=b.n)/\(mapE b.e=true->∀i,c.g i=b.g i)/\∀i,i<b.n->telL h [] [] f j (c.g i) (b.g i):=by
 unfold rowB at a;split at a
 .cases a
 .cases a
  refine⟨d.1,fun q=>?_,fun i o=>?_⟩
  .have q:mapE e=true:=q;rw[m]at q;cases q
  .rw[d.2 i o];exact⟨.inl ⟨(yii _ _ _).2 trivial,by rw[yeh];exact Sim.refl _,rfl⟩,rfl,trivial⟩
theorem yff{e:Nat}{k:IntKind}{l:List Nat}{b:OB}(a:rowB e k l=some b):(b.e=e/\b.bx=false/\b.z=1/\b.n=l.length)/\∀i,i<l.length->b.g i=[.i k ((l.getD i 0:Nat):Int)]:=by
 unfold rowB at a;split at a
 .cases a
 .cases a;exact⟨⟨rfl,rfl,rfl,rfl⟩,fun _ _=>rfl⟩
theorem ybqj{e:Nat}{k:IntKind}{l:List Nat}{x:Nat}(h:l.length=0){g:Nat->List SV}(a:g 0=[.i k (x:Int)]):((⟨e,false,1,1,g⟩:OB).e=e/\(⟨e,false,1,1,g⟩:OB).bx=false/\(⟨e,false,1,1,g⟩:OB).z=1/\(⟨e,false,1,1,g⟩:OB).n=(l++[x]).length)/\∀i,i<(l++[x]).length->(⟨e,false,1,1,g⟩:OB).g i=[.i k (((l++[x]).getD i 0:Nat):Int)]:=by
 obtain rfl:l=[]:=zAW h;refine⟨⟨rfl,rfl,rfl,rfl⟩,fun i b=>?_⟩;obtain rfl:i=0:=by simp at b;omega
 exact a
theorem ybgt{e n:Nat}{k:IntKind}{l:List Nat}{x:Nat}{g g':Nat->List SV}(d:n=l.length)(b:∀i,i<l.length->g i=[.i k ((l.getD i 0:Nat):Int)])(a:g' 0=[.i k (x:Int)]) :
 ((⟨e,false,1,n+1,fun i=>if i<n then g i else g' (i-n)⟩:OB).e=e/\(⟨e,false,1,n+1,fun i=>if i<n then g i else g' (i-n)⟩:OB).bx=false/\(⟨e,false,1,n+1,fun i=>if i<n then g i else g' (i-n)⟩:OB).z=1/\(⟨e,false,1,n+1,fun i=>if i<n then g i else g' (i-n)⟩:OB).n=(l++[x]).length) /\
   ∀i,i<(l++[x]).length->(⟨e,false,1,n+1,fun i=>if i<n then g i else g' (i-n)⟩:OB).g i=[.i k (((l++[x]).getD i 0:Nat):Int)]:=by
 subst d;refine⟨⟨rfl,rfl,rfl,by rw[zI];rfl⟩,fun i c=>?_⟩
 show(if i<l.length then g i else g' (i-l.length))=_
 by_cases q:i<l.length
 .rw[if_pos q,b i q];simp[zAC,zQ q]
 .have:i=l.length:=by simp at c;omega
  subst this;rw[if_neg q,zAQ,a];simp[zAC]
theorem yqk{F e j:Nat}{k:IntKind}{f:Nat->List Nat}{b O:Own}(ρ:List (Nat×(Nat->Nm))){X:List SV}(i:X=[if (f j).length=0 then .a (.slice none 0 0)else .os (rid ρ (F,j)) 0 (f j).length true])(h:lookO O (F,j)=rowB e k (f j)):telL (rid ρ) [] [] b O X [rowC F f j]:=by
 subst i;obtain⟨⟨c,d⟩,g⟩:=yla (X:=if (f j).length=0 then .a (.slice none 0 0)else .os (rid ρ (F,j)) 0 (f j).length true) ρ rfl h
 exact⟨.inl ⟨(yii _ _ _).2 trivial,by rw[yeh];exact c,d⟩,g,trivial⟩
theorem ybew{a b c d t i:Nat}(f:c≠a)(g:c≠b):((c,d):Nm)=(if i=t then((a,0):Nm)else(b,i))->False:=fun e=>by
 split at e
 .exact f (congrArg Prod.fst e)
 .exact g (congrArg Prod.fst e)
theorem yts{a b c d t i:Nat}(f:c≠a)(g:c≠b):(if i=t then((a,0):Nm)else(b,i))=((c,d):Nm)->False:=fun e=>ybew f g e.symm
theorem ybaz{a b t i j:Nat}(h:a≠b)(e:(if i=t then((a,0):Nm)else(b,i))=if j=t then((a,0):Nm)else(b,j)):i=j:=by
 by_cases c:i=t<;>by_cases d:j=t
 .omega
 .rw[if_pos c,if_neg d]at e;exact absurd (congrArg Prod.fst e) h
 .rw[if_neg c,if_pos d]at e;exact absurd (congrArg Prod.fst e).symm h
 .rw[if_neg c,if_neg d]at e;exact congrArg Prod.snd e
theorem ybmm{S:Spc}(h:S.ok):Returns zH 179 [.ag (spcC S)] (.sl 1 S.N fun j=>[ycm (srcS S j)]):=by
 refine Returns.of (ydjc _ _ ?_);have G:=h.le;simp only[c179,ycsh,ycwz,ycyr,spcC,ybl,clash,go_sem,zA,zB,zC,↓reduceIte,reduceCtorEq];refine⟨by omega,?_⟩
 let o:Nat->Nat->Own:=fun k i=>[(1,spcO S),(11,.one (some ⟨22,false,1,S.N,fun j=>[rowC 60 (ygy S k i) j]⟩)),(60,yim 3 .i64 (ygy S k i))]
 refine ybf (σ:=Nat) (fun k=>⟨[(15,.i .i64 k),(14,.i .i64 (S.N:Nat)),(13,.sl 1 S.N fun k=>[ybl (S.arcs k)]),(1,.pt (1,0) 0 0),(3,.os (11,0) 0 S.N true)],o k 0⟩) (fun k=>k<=S.N) (fun k=>S.N-k) 0 (zM _) ?_ ?_
 .refine yw ?_;simp only[o,spcO,spcC,ybl,rowC,yim,rowB,ybbo,wk,go_sem,zA,zC,↓reduceIte,reduceCtorEq]
 .intro k hk
  by_cases s:k<S.N
  .have d1 := dec_lt s;have D:=h.len s;simp only[ycge,ycyi,ydbc,o,ybl,d1,clash,go_sem,zA,zB,↓reduceIte,reduceCtorEq];refine⟨⟨by omega,by omega⟩,?_⟩
   refine ybf (σ:=Nat) (fun i=>⟨[(22,.i .i64 i),(21,.i .i64 ((S.arcs k).length:Nat)),(20,ybl (S.arcs k)),(4,.i .i64 k),(15,.i .i64 k),(14,.i .i64 (S.N:Nat)),(13,.sl 1 S.N fun k=>[ybl (S.arcs k)]),(1,.pt (1,0) 0 0),(3,.os (11,0) 0 S.N true)],o k i⟩)
    (fun i=>i<=(S.arcs k).length) (fun i=>(S.arcs k).length-i) 0 (zM _) ?_ ?_
   .refine yw ?_;simp only[o,spcO,spcC,ybl,yim,wk,go_sem,zA,zC,↓reduceIte,reduceCtorEq];exact⟨fun _ _ _ _ e=>e,fun i _=>yla [] rfl rfl,fun i b c=>⟨b,c,yee rfl c (yff c)⟩⟩
   .intro i A
    by_cases m:i<(S.arcs k).length
    .have z:=h.to k s i m;obtain⟨⟨a,t⟩,n⟩:∃p,(S.arcs k).getD i (0,0)=p:=⟨_,rfl⟩;rw[n]at z;simp only at z;have d2:=dec_lt m;have l:=ybwb S m;rw[n]at l;simp only at l;have x:=yxu h (k:=k) (i:=i) (by omega) (by omega) (by omega) t
     obtain⟨f,w⟩:∃f,ygy S k i=f:=⟨_,rfl⟩;obtain⟨u,r⟩:∃f,ygy S k (i+1)=f:=⟨_,rfl⟩;rw[w]at l x;rw[r]at l;have d:∀j,¬j=t->u j=f j:=fun j E=>by rw[l,if_neg E]
     have g:u t=f t++[k]:=by rw[l,if_pos rfl]
     by_cases q:(f t).length=0
     .simp only[ybon,ycez,ybxj,ycfm,ybdc,o,spcO,spcC,ybl,d2,n,w,rowC,yim,rowB,q,clash,go_sem,zA,zB,zD,zC,zBD,↓reduceIte,reduceCtorEq]
      repeat refine ybd ?_
      refine ybz (i+1) ?_;refine yca [(60,fun j=>if j=t then(36,0)else(60,j))] [] [] ?_
      simp only[r,wk,go_sem,zA,zC,↓reduceIte,reduceCtorEq];refine⟨⟨fun i _=>ybew (by decide) (by decide),fun i _=>ybew (by decide) (by decide),fun i _=>yts (by decide) (by decide),fun i _=>yts (by decide) (by decide),fun i _ j _=>ybaz (by decide)⟩,by omega,fun i A=>?_,fun i b c=>?_⟩
      .refine yqk (F:=60) (e:=3) (k:=.i64) (f:=u) [(60,fun j=>if j=t then(36,0)else(60,j))] ?_ rfl
       by_cases e:i=t
       .subst e;have v:(u i).length=1:=by rw[g,zI,q];rfl
        simp only[v,go_sem,↓reduceIte,reduceCtorEq]
       .simp only[d i e,e,go_sem,↓reduceIte]
      .by_cases e:i=t
       .subst e;rw[g]at c;simp only[go_sem,zA,↓reduceIte];exact yee (e:=3) (k:=.i64) rfl c (ybqj q rfl)
       .rw[d i e]at c;simp only[e,go_sem,zA,↓reduceIte];exact⟨_,c,yee (e:=3) (k:=.i64) rfl c (yff (e:=3) (k:=.i64) c)⟩
     .have I:0<(f t).length:=by omega
      simp only[ybon,ycez,ybxj,ycfm,ybdc,o,spcO,spcC,ybl,d2,n,w,rowC,yim,rowB,q,clash,go_sem,zA,zB,zD,zC,↓reduceIte,reduceCtorEq]
      repeat refine ybd ?_
      refine ybz (i+1) ?_;refine yca [(60,fun j=>if j=t then(36,0)else(60,j))] [] [] ?_
      simp only[r,wk,go_sem,zA,zC,↓reduceIte,reduceCtorEq];refine⟨⟨fun i _=>ybew (by decide) (by decide),fun i _=>ybew (by decide) (by decide),fun i _=>yts (by decide) (by decide),fun i _=>yts (by decide) (by decide),fun i _ j _=>ybaz (by decide)⟩,by omega,fun i A=>?_,fun i b c=>?_⟩
      .refine yqk (F:=60) (e:=3) (k:=.i64) (f:=u) [(60,fun j=>if j=t then(36,0)else(60,j))] ?_ rfl
       by_cases e:i=t
       .subst e;have v:(u i).length=(f i).length+1:=by rw[g,zI];rfl
        have C:¬(f i).length+1=0:=by omega
        simp only[v,C,go_sem,↓reduceIte]
       .simp only[d i e,e,go_sem,↓reduceIte]
      .by_cases e:i=t
       .subst e;rw[g]at c;simp only[go_sem,zA,↓reduceIte];exact yee (e:=3) (k:=.i64) rfl c (ybgt (g':=fun i=>zAZ 1 (zBA (i*1) [.i .i64 (k:Int)])) rfl (fun _ _=>rfl) rfl)
       .rw[d i e]at c;simp only[e,go_sem,zA,↓reduceIte];exact⟨_,c,yee (e:=3) (k:=.i64) rfl c (yff (e:=3) (k:=.i64) c)⟩
    .obtain rfl:i=(S.arcs k).length:=by omega
     have y:ygy S k (S.arcs k).length=ygy S (k+1) 0:=funext fun j=>ybbm S k j;simp only[ybon,ybdc,o,spcO,spcC,ybl,zJ,clash,y,go_sem,zA,zB,↓reduceIte,reduceCtorEq];refine⟨ikw (by omega) (by omega),?_⟩
     refine ybz (k+1) ?_;refine yw ?_;simp only[yim,wk,go_sem,zA,zC,↓reduceIte,reduceCtorEq];exact⟨fun _ _ _ _ e=>e,by omega,fun i _=>yla [] rfl rfl,fun i b c=>⟨b,c,yee rfl c (yff c)⟩⟩
  .obtain rfl:k=S.N:=by omega
   simp only[ycge,ycfh,o,spcO,zJ,go_sem,zA,zB,↓reduceIte,reduceCtorEq];have B:∀q,q<S.N->(ygy S S.N 0 q).length<=262144:=fun q _=>yxu h (k:=S.N) (i:=0) (by omega) (by omega) (by omega) q
   refine⟨fun q H=>?_,yec fun q H=>?_⟩
   .unfold rowC
    by_cases e:(ygy S S.N 0 q).length=0
    .simp only[e,go_sem,↓reduceIte]
    .simp only[e,yim,rowB,go_sem,zA,↓reduceIte]
   .unfold rowC
    by_cases e:(ygy S S.N 0 q).length=0
    .simp only[e,SimL,ycm,srcS,go_sem,↓reduceIte];exact yblp
    .simp only[e,yim,rowB,SimL,ycm,srcS,go_sem,zA,↓reduceIte];exact Sim.refl _
end Sh
end
section
namespace Sh
open Ev Go.RowKit
theorem Ct.fnd{P:Program}{g:FuncId}{args:List SV}{f:Type}{R:SV->f->Prop}{V:f->SV}{Q:SV->Prop}(h:Ct P g args fun r=>∃x,R r x)(n:∀r x,R r x->Sim r (V x))(l:∀r x,R r x->Q (V x)):Ct P g args Q:=fun G m p i j k=>by
 obtain⟨v,o,r,a,b,c,⟨x,d⟩,e⟩:=h G m p i j k;exact⟨v,o,V x,a,b,c,l r x d,n r x d _ _ _ e⟩
def natO(L:List Nat):Fam:=.one (some ⟨3,false,1,L.length,fun i=>[.i .i64 ((L.getD i 0:Nat):Int)]⟩)
theorem ybos(L:List Nat)(x:Nat){i:Nat}(a:i<L.length+1):(if i<L.length then[SV.i .i64 ((L.getD i 0:Nat):Int)]else zAZ 1 (zBA ((i-L.length)*1) [SV.i .i64 (x:Int)]))=[SV.i .i64 (((L++[x]).getD i 0:Nat):Int)]:=by
 by_cases q:i<L.length
 .rw[if_pos q];simp[zAC,zQ q]
 .obtain rfl:i=L.length:=by omega
  rw[if_neg q,zAQ];simp[zAC]
structure OrdL(S:Spc)(lg:Nat->Bool)(L:List Nat):Prop where
 lt:∀x∈L,x<S.N
 len:L.length=S.N
 all:∀k,k<S.N->k∈L
structure _root_.Go.Proofs.YthclbjjgfcgbgaaGreatDoor.Spc.free(S:Spc)(lg:Nat->Bool):Prop where
 ne:∀k,k<S.N->lg k=false->S.arcs k≠[]
 cyc:∀f m,Back S.N S.arcs f m->False
def yog(lg:Nat->Bool)(k:Nat):List Nat:=(zG k).filter lg
theorem ycef(lg:Nat->Bool)(k:Nat):yog lg (k+1)=yog lg k++if lg k=true then[k]else[]:=by
 unfold yog;rw[zAU,zO];congr 1;cases h:lg k<;>simp[h]
theorem ybsi(lg:Nat->Bool)(k:Nat):(yog lg k).length<=k:=by
 have:=zAO lg (zG k);unfold yog
 simpa using this
theorem ycle{lg:Nat->Bool}{n k:Nat}(hk:k<n):k∈yog lg n↔lg k=true:=by
 unfold yog;rw[zAV,zAY];exact⟨fun h=>h.2,fun h=>⟨hk,h⟩⟩
theorem ydkh(lg:Nat->Bool)(n:Nat):(yog lg n).Nodup:=List.Pairwise.filter _ zCD
theorem ydkw(lg:Nat->Bool)(n:Nat):∀x∈yog lg n,x<n:=fun x h=>List.mem_range.1 (List.mem_filter.1 h).1
theorem yfw{h:Nm->Nm}{a:List Nat}{b O:Own}{X:List SV}{k:IntKind}{x:Int}(e:X=[.i k x]):telL h a [] b O X [.i k x]:=by
 subst e;exact⟨.inl ⟨(yii _ _ _).2 trivial,by rw[yeh];exact Sim.refl _,rfl⟩,rfl,trivial⟩
set_option maxHeartbeats 1000000 in
theorem ybqa{S:Spc}(h:S.ok){lg:Nat->Bool}(F:S.free lg):Ct zH 135 [.ag (spcC S),ybb S.N lg] fun r=>∃L,Sim r (ycm L)/\OrdL S lg L:=by
 refine ydic _ _ ?_;have M:=h.le;have D:=ybmm h;simp only[spcC,ybl,ycm]at D;simp only[c135,ydcm,ycxu,ycyn,spcC,ybl,ybb,clash,go_sem,zA,zB,zC];refine ybf (σ:=Nat) (fun k=>⟨[(15,.i .i64 k),(14,.i .i64 (S.N:Nat)),(13,ybb S.N lg),(1,ybb S.N lg),(2,.pt (2,0) 0 0),(5,.os (70,0) 0 (yog lg k).length true)],[(2,spcO S),(70,natO (yog lg k))]⟩) (fun k=>k<=S.N) (fun k=>S.N-k) 0 (zM _) ?_ ?_
 .refine yca [] [70] [] ?_;simp only[spcO,spcC,ybl,ybb,natO,show yog lg 0=[]from rfl,wk,go_sem,zA,zC,zN]
  exact⟨(70,0),rfl,rfl,rfl⟩
 .intro k hk
  by_cases b:k<S.N
  .have d1:=dec_lt b;have s:=ybsi lg k;have f:=ycef lg k;obtain⟨L,w⟩:∃L,yog lg k=L:=⟨_,rfl⟩;obtain⟨P,p⟩:∃L,yog lg (k+1)=L:=⟨_,rfl⟩;rw[w]at s;rw[w,p]at f;cases l:lg k with
   | true =>
     rw[l,if_pos rfl]at f;simp only[ybpu,ychc,ycho,ychu,ybyx,ybb,natO,w,d1,l,clash,go_sem,zA,zB,zD,zC]
     repeat refine ybd ?_
     refine ybz (k+1) ?_;refine yca [(70,fun i=>(24,i))] [] [] ?_;simp only[spcO,spcC,ybl,p,f,zI,wk,go_sem,zA,zC];exact⟨by omega,fun i m=>yfw (ybos L k m)⟩
   | false =>
     rw[l,if_neg (by decide),zAD]at f
     simp only[ybpu,ychc,ycho,ychu,ybyx,ybb,natO,w,d1,l,clash,go_sem,zA,zB]
     repeat refine ybd ?_
     refine ybz (k+1) ?_;refine yw ?_;simp only[spcO,spcC,ybl,p,f,wk,go_sem,zA,zC];omega
  .obtain rfl:k=S.N:=by omega
   simp only[ybpu,yczr,natO,spcO,spcC,ybl,ybb,zJ,go_sem,zA,zB];have v:OrdI S lg (yog lg S.N) 0 0 fun _=>0:=OrdI.start (ydkh _ _) (ydkw _ _) fun k hk=>ycle hk;have s:=ybsi lg S.N
   generalize yog lg S.N=L0 at v s
   refine D.use ?_;simp only[ybk,ydai,ycdi,clash,go_sem,zA,zB,zC]
   repeat refine ybd ?_
   refine ybf (σ:=Nat×List Nat×(Nat->Nat)) (fun x=>⟨[(10,.i .i64 x.1),(5,.os (70,0) 0 x.2.1.length true),(9,.os (30,0) 0 S.N true),(8,.sl 1 S.N fun j=>[ycm (srcS S j)]),(1,ybb S.N lg),(2,.pt (2,0) 0 0)],
    [(2,spcO S),(70,natO x.2.1),(30,.one (some ⟨3,false,1,S.N,fun k=>[.i .i64 (x.2.2 k:Nat)]⟩))]⟩) (fun x=>OrdI S lg x.2.1 x.1 0 x.2.2) (fun x=>S.N+1-x.1) (0,L0,fun _=>0) v ?_ ?_
   .refine yw ?_;simp only[spcO,spcC,ybl,ybb,natO,ycm,wk,go_sem,zA,zC]
   .rintro⟨i,L,E⟩ e;simp only at e ⊢;have u:=e.len;have J:=e.hi
    by_cases b:i<L.length
    .have d1 := dec_lt b;obtain⟨x,g⟩:∃x,L.getD i 0=x:=⟨_,rfl⟩;have O:x<S.N:=by rw[<-g,getD_at b];exact e.lt _ (zZ _)
     have B:=yxu h (k:=S.N) (i:=0) (by omega) (by omega) (by omega) x
     change (srcS S x).length<=262144 at B
     simp only[ybnr,ycjp,ycjm,natO,ycm,ybb,d1,g,clash,go_sem,zA,zB]
     repeat refine ybd ?_
     refine ybf (σ:=Nat×List Nat×(Nat->Nat)) (fun y=>⟨[(45,.i .i64 y.1),(44,.i .i64 ((srcS S x).length:Nat)),(43,ycm (srcS S x)),(10,.i .i64 i),(5,.os (70,0) 0 y.2.1.length true),(9,.os (30,0) 0 S.N true),(8,.sl 1 S.N fun j=>[ycm (srcS S j)]),(1,ybb S.N lg),(2,.pt (2,0) 0 0)],
      [(2,spcO S),(70,natO y.2.1),(30,.one (some ⟨3,false,1,S.N,fun k=>[.i .i64 (y.2.2 k:Nat)]⟩))]⟩) (fun y=>OrdI S lg y.2.1 i y.1 y.2.2/\i<y.2.1.length/\y.2.1.getD i 0=x/\y.1<=(srcS S x).length) (fun y=>(srcS S x).length-y.1) (0,L,E) ⟨e,b,g,zM _⟩ ?_ ?_
     .refine yw ?_;simp only[spcO,spcC,ybl,ybb,natO,ycm,wk,go_sem,zA,zC]
     .rintro⟨j,L,E⟩ ⟨e,b,g,K⟩;simp only at e b g K ⊢;have u:=e.len
      by_cases c:j<(srcS S x).length
      .have d2:=dec_lt c;obtain⟨k,hk⟩:∃k,(srcS S x).getD j 0=k:=⟨_,rfl⟩;have hkN:k<S.N:=by rw[<-hk,getD_at c];exact ycof (.inr ⟨rfl,zAK _⟩) _ (zZ _)
       have I:=h.len hkN;obtain⟨G,d⟩:=e.step b (by rw[g];exact c) (by rw[g];exact hk) hkN
       simp only at d;obtain⟨z,t⟩:∃z,(fun q=>if q=k then E k+1 else E q)=z:=⟨_,rfl⟩
       have o:∀(i:Nat),i<S.N->(if i=k then[SV.i .i64 ((E k:Int)+1)]else[SV.i .i64 (E i:Int)])=[SV.i .i64 (z i:Int)]:=fun i _=>by
        rw[<-t]
        by_cases q:i=k
        .simp only[if_pos q];rfl
        .simp only[if_neg q]
       rw[t]at d;cases l:lg k with
       | true =>
         rw[l,if_neg (fun q=>by cases q.1)]at d
         simp only[yyd,ybcc,ybdr,ybeo,ybcu,natO,ycm,ybb,spcO,spcC,ybl,d2,hk,l,clash,go_sem,zA,zB]
         repeat refine ybd ?_
         refine yj (j+1,L,_) ⟨d,b,g,c⟩ (by show _-(j+1)<_-j;omega) ?_
         refine yw ?_;simp only[wk,go_sem,zA,zC];exact⟨by omega,fun i m=>yfw (o i m)⟩
       | false =>
         by_cases C:E k+1=(S.arcs k).length
         .rw[if_pos ⟨l,C⟩]at d;have d3:(((E k:Int)+1)==((S.arcs k).length:Int))=true:=by rw[beq_iff_eq];omega
          simp only[yyd,ybcc,ybdr,ybeo,ycbq,ybcu,natO,ycm,ybb,spcO,spcC,ybl,d2,d3,hk,l,clash,go_sem,zA,zB,zD,zC]
          repeat refine ybd ?_
          refine yj (j+1,L++[k],_) ⟨d,by show i<(L++[k]).length;rw[zI];omega,by show(L++[k]).getD i 0=x;rw[<-g];simp only[zAC,zQ b],c⟩ (by show _-(j+1)<_-j;omega) ?_
          refine yca [(70,fun i=>(76,i))] [] [] ?_;simp only[zI,wk,go_sem,zA,zC];exact⟨by omega,fun i m=>yfw (ybos L k m),fun i m=>yfw (o i m)⟩
         .rw[if_neg (fun q=>C q.2)]at d;have d3:(((E k:Int)+1)==((S.arcs k).length:Int))=false:=by rw[beq_eq_false_iff_ne];omega
          simp only[yyd,ybcc,ybdr,ybeo,ybcu,natO,ycm,ybb,spcO,spcC,ybl,d2,d3,hk,l,clash,go_sem,zA,zB]
          repeat refine ybd ?_
          refine yj (j+1,L,_) ⟨d,b,g,c⟩ (by show _-(j+1)<_-j;omega) ?_
          refine yw ?_;simp only[wk,go_sem,zA,zC];exact⟨by omega,fun i m=>yfw (o i m)⟩
      .obtain rfl:j=(srcS S x).length:=by omega
       have A:=e.next b (by rw[g])
       simp only[yyd,natO,ycm,ybb,spcO,spcC,ybl,zJ,clash,go_sem,zA,zB]
       repeat refine ybd ?_
       refine yj (i+1,L,E) A (by show S.N+1-(i+1)<S.N+1-i;omega) ?_
       refine yw ?_;simp only[wk,go_sem,zA,zC];omega
    .obtain rfl:i=L.length:=by omega
     have n:=e.all (fun k hk a H=>h.mem hk H) F.ne F.cyc;simp only[ybnr,ycgl,natO,zJ,go_sem,zA,zB];exact⟨L,Sim.refl _,e.lt,Nat.le_antisymm u (ydmr n),n⟩
def allO(n:Nat)(b:Bool):Fam:=.one (some ⟨4,false,1,n,fun _=>[.b b]⟩)
theorem ybyd{h:Nm->Nm}{a:List Nat}{c O:Own}{X:List SV}{x:Bool}(e:X=[.b x]):telL h a [] c O X [.b x]:=by
 subst e;exact⟨.inl ⟨(yii _ _ _).2 trivial,by rw[yeh];exact Sim.refl _,rfl⟩,rfl,trivial⟩
set_option maxHeartbeats 1000000 in
theorem ybhm{S:Spc}(h:S.ok){lg:Nat->Bool}(p:S.free lg):Cm zH 72 [] [] [.ag (spcC S),ybb S.N lg] fun r o=>r = .tp [.os (1,0) 0 S.N true,.i .i64 0]/\o=[(1,allO S.N true)]:=by
 refine ydil [] [] _ _ _ ?_;have s:=h.le;have g:=ysu h lg;have j:=ybqa h p;simp only[spcC,ybl,ybb]at g j;simp only[c72,ydvg,ydze,spcC,ybl,ybb,clash,go_sem,zA,zB,zC];refine g.use ?_;simp only[ybk,yeaf,ydpb,ydss,clash,zAH,go_sem,zA,zB,zC]
 repeat refine ybd ?_
 refine j.fnd (V:=ycm) (fun r L h=>h.1) fun r L n=>?_;obtain⟨-,d,m,c⟩:=n;simp only[ycm,go_sem]
 let mk:Nat->Nat->Bool:=fun i k=>decide (k∈L.take i)
 refine ybf (σ:=Nat) (fun i=>⟨[(23,.i .i64 i),(22,.i .i64 (L.length:Nat)),(21,ycm L),(7,.os (18,0) 0 S.N true)],[(18,.one (some ⟨4,false,1,S.N,fun k=>[.b (mk i k)]⟩))]⟩) (fun i=>i<=L.length) (fun i=>L.length-i) 0 (zM _) ?_ ?_
 .refine yw ?_;simp only[ycm,mk,wk,go_sem,zA,zC]
 .intro i l
  by_cases a:i<L.length
  .have d1:=dec_lt a;obtain⟨k,hk⟩:∃k,L.getD i 0=k:=⟨_,rfl⟩;have hkN:k<S.N:=by rw[<-hk,getD_at a];exact d _ (zZ _)
   have f:∀q,mk (i+1) q=if q=k then true else mk i q:=fun q=>by
    show decide (q∈L.take (i+1))=if q=k then true else decide (q∈L.take i)
    rw[ygu 0 a,hk]
    by_cases e:q=k
    .simp[e]
    .simp[e]
   simp only[ydmf,ydxz,ydxn,ydzv,ycm,d1,hk,clash,go_sem,zA,zB]
   repeat refine ybd ?_
   refine ybz (i+1) ?_;refine yw ?_;simp only[f,wk,go_sem,zA,zC];refine⟨by omega,fun q _=>ybyd ?_⟩
   by_cases e:q=k
   .rw[if_pos e,if_pos e]
   .rw[if_neg e,if_neg e]
  .obtain rfl:i=L.length:=by omega
   simp only[ydmf,ydby,ycm,zJ,yhi,go_sem,zA,zB];refine⟨.tp [.os (1,0) 0 S.N true,.i .i64 0],[(1,allO S.N true)],?_,?_,rfl,rfl⟩
   .refine ybi [(1,fun i=>(18,i))] [] [] ?_;simp only[allO,mk,zY,wk,go_sem,zC];exact fun i l=>c i l
   .simp only[allO,ycl,yfj,wk,go_sem]
set_option maxHeartbeats 1000000 in
theorem ycln{S:Spc}(h:S.ok){lg:Nat->Bool}(d:S.free lg):Returns zH 17 [.ag (spcC S),ybb S.N lg] (.tp [ybb S.N fun _=>false,.i .i64 0]):=by
 refine Returns.of (ydlq [72] _ _ ?_);have f:=h.le;have c:=ybhm h d;simp only[spcC,ybl,ybb]at c;simp only[c17,ydxf,ydzs,spcC,ybl,ybb,clash,go_sem,zA,zB,zC,↓reduceIte,reduceCtorEq];refine yeu c [] 50 [] [] ?_ ?_
 .simp only[go_sem,to1,okN,ycl,yfj,yek,ydx,wk,go_sem,zB,↓reduceIte,reduceCtorEq]
 rintro r j ⟨rfl,rfl⟩;simp only[allO,yoy,ymm,nuF,nu,difN,yek,ydx,Fam.ren,OB.ren,dim,yih,ybyn,yrh,yjw,go_sem,zA,zB,↓reduceIte,reduceCtorEq];simp only[ydvt,ydqr,clash,zAH,go_sem,zA,zB,↓reduceIte];refine ybf (σ:=Nat) (fun i=>⟨[(20,.i .i64 i),(19,.i .i64 (S.N:Nat)),(6,.os (51,0) 0 S.N true)],[(51,.one (some ⟨4,false,1,S.N,fun k=>[.b (!decide (k<i))]⟩))]⟩) (fun i=>i<=S.N) (fun i=>S.N-i) 0 (zM _) ?_ ?_
 .refine yw ?_;simp only[go_sem,wk,go_sem,zA,zC,↓reduceIte,reduceCtorEq];exact fun i _=>by simp
 .intro i g
  by_cases a:i<S.N
  .have d1:=dec_lt a;simp only[ydiz,ydyd,ydqg,ydpr,d1,clash,go_sem,zA,zB,↓reduceIte,reduceCtorEq]
   repeat refine ybd ?_
   refine ybz (i+1) ?_;refine yw ?_;simp only[go_sem,wk,go_sem,zA,zC,↓reduceIte,reduceCtorEq];refine⟨by omega,fun q _=>ybyd ?_⟩
   by_cases e:q=i
   .subst e;rw[if_pos rfl];simp
   .rw[if_neg e];congr 2;rw[show decide (q<i)=decide (q<i+1)from decide_eq_decide.2 (by omega)]
  .obtain rfl:i=S.N:=by omega
   simp only[ydiz,ydxp,zJ,go_sem,zA,zB,↓reduceIte,reduceCtorEq];exact ybbp ⟨ybre fun k hk=>by rw[decide_eq_true hk];rfl,Sim.refl _,trivial⟩
end Sh
end
section
namespace Sh
open Ev Go.RowKit
set_option maxHeartbeats 1000000 in
theorem ybff{S:Spc}(h:S.ok){lg:Nat->Bool}(d:S.free lg):Ct zH 74 [.ag (spcC S),ybb S.N lg] fun r=>∃L,Sim r (.tp [ycm L,.i .i64 0])/\OrdL S lg L:=by
 refine yecs _ _ ?_;have e:=h.le;have b:=ysu h lg;have c:=ybqa h d;simp only[spcC,ybl,ybb]at b c;simp only[c74,ydwt,yede,spcC,ybl,ybb,clash,go_sem,zA,zB,zC];refine b.use ?_;simp only[ybk,yeam,ydvf,yecb,clash,zAH,go_sem,zA,zB];refine c.fnd (V:=ycm) (fun r L h=>h.1) fun r L a=>?_;obtain⟨-,a⟩:=a;simp only[ydre,clash,ycm,a.len,zJ,go_sem,zA,zB];exact⟨L,by rw[a.len];exact Sim.refl _,a⟩
theorem ybte{s t:Nat}(b:s<2^32):Returns zH 78 [.ag [.i .u32 (s:Nat),.i .i64 (t:Nat)]] (.i .i64 (popP s:Nat)):=by
 refine Returns.of (ydpt _ _ ?_);have a:=ybrm b;simp only[c78,ydqn,ydob,clash,go_sem,zA,zB,zD,zC];refine a.use ?_;simp only[ybk,clash,go_sem,zA,zB];exact Sim.refl _
structure MvB(S:Spc)(lg:Nat->Bool)(B:Nat->Nat->Prop):Prop where
 zero:∀k,k<S.N->B k 0
 arc:∀k,k<S.N->lg k=false->∀i,i<(S.arcs k).length->∀x,B ((S.arcs k).getD i (0,0)).2 x->B k (popP ((S.arcs k).getD i (0,0)).1+x)
set_option maxHeartbeats 2000000 in
theorem ybkf{S:Spc}(h:S.ok){lg:Nat->Bool}(M:S.free lg){B:Nat->Nat->Prop}(I:MvB S lg B) :
 Ct zH 77 [.ag (spcC S),ybb S.N lg,.fn 78 [] []] fun r=>∃f:Nat->Nat,Sim r (.tp [.sl 1 S.N fun k=>[.i .i64 (f k:Nat)],.i .i64 0])/\(∀k,k<S.N->B k (f k))/\∀k,k<S.N->f k<=1000000:=by
 refine ydvu _ _ ?_;have W:=h.le;have J:=ybff h M;simp only[spcC,ybl,ybb]at J;simp only[c77,yebl,ydoy,spcC,ybl,ybb,clash,go_sem,zA,zB,zC];refine J.fnd (V:=fun L=>.tp [ycm L,.i .i64 0]) (fun r L h=>h.1) fun r L P=>?_;obtain⟨-,G,O,K⟩:=P;simp only[ybk,ydqs,ydxi,ydtt,clash,ycm,zAH,go_sem,zA,zB,zC]
 repeat refine ybd ?_
 refine ybf (σ:=Nat×(Nat->Nat)) (fun x=>⟨[(29,.i .i64 x.1),(28,.i .i64 (L.length:Nat)),(27,ycm L),(10,.os (26,0) 0 S.N true),(1,ybb S.N lg),(2,.fn 78 [] []),(3,.pt (3,0) 0 0)],
  [(3,spcO S),(26,.one (some ⟨3,false,1,S.N,fun k=>[.i .i64 (x.2 k:Nat)]⟩))]⟩) (fun x=>x.1<=L.length/\(∀k,k<S.N->B k (x.2 k))/\∀k,x.2 k<=24*x.1) (fun x=>L.length-x.1) (0,fun _=>0) ⟨zM _,I.zero,fun _=>zM _⟩ ?_ ?_
 .refine yw ?_;simp only[ycm,ybb,spcO,spcC,ybl,wk,go_sem,zA,zC]
 .rintro⟨i,f⟩ ⟨F,b,c⟩;simp only at F b c ⊢
  by_cases g:i<L.length
  .have d1 := dec_lt g;obtain⟨k,hk⟩:∃k,L.getD i 0=k:=⟨_,rfl⟩;have hkN:k<S.N:=by rw[<-hk,getD_at g];exact G _ (zZ _)
   have R:=h.len hkN;cases H:lg k with
   | true =>
     simp only[ycpl,ydin,ydoa,ycaw,ycm,ybb,d1,hk,H,clash,go_sem,zA,zB]
     repeat refine ybd ?_
     refine yj (i+1,f) ⟨g,b,fun q=>by have:=c q;show f q<=24*(i+1);omega⟩ (by show _-(i+1)<_-i;omega) ?_
     refine yw ?_;simp only[spcO,spcC,ybl,wk,go_sem,zA,zC];omega
   | false =>
     simp only[ycpl,ydin,ydoa,ydod,ycm,ybb,spcO,spcC,ybl,d1,hk,H,clash,go_sem,zA,zB]
     repeat refine ybd ?_
     refine ybf (σ:=Nat×(Nat->Nat)) (fun y=>⟨[(43,.i .i64 y.1),(42,.i .i64 ((S.arcs k).length:Nat)),(41,ybl (S.arcs k)),(12,.i .i64 k),(29,.i .i64 i),(28,.i .i64 (L.length:Nat)),(27,ycm L),(10,.os (26,0) 0 S.N true),(1,ybb S.N lg),(2,.fn 78 [] []),(3,.pt (3,0) 0 0)],
      [(3,spcO S),(26,.one (some ⟨3,false,1,S.N,fun k=>[.i .i64 (y.2 k:Nat)]⟩))]⟩) (fun y=>y.1<=(S.arcs k).length/\(∀k,k<S.N->B k (y.2 k))/\(∀q,q≠k->y.2 q<=24*i)/\y.2 k<=24*(i+1)) (fun y=>(S.arcs k).length-y.1) (0,f) ⟨zM _,b,fun q _=>c q,by have:=c k;show f k<=24*(i+1);omega⟩ ?_ ?_
     .refine yw ?_;simp only[ycm,ybb,spcO,spcC,ybl,wk,go_sem,zA,zC]
     .rintro⟨j,f⟩ ⟨U,b,c,C⟩;simp only at U b c C ⊢
      by_cases d:j<(S.arcs k).length
      .have d2:=dec_lt d;have w:=h.to k hkN j d;have m:=(h.sub k hkN j d).1;have l:=I.arc k hkN H j d;have u:((S.arcs k).getD j (0,0)).2≠k:=fun e=>M.cyc (fun _=>k) 1 ⟨by omega,fun _=>rfl,fun _=>hkN,fun _=>⟨_,by rw[getD_at d];exact zZ _,e⟩⟩
       obtain⟨⟨a,t⟩,z⟩:∃p,(S.arcs k).getD j (0,0)=p:=⟨_,rfl⟩;rw[z]at w m l u;simp only at w m l u;have Q:=ybte (s:=a) (t:=t) (by omega)
       have X:=ydmm a m;have T:=c t u;obtain⟨n,A⟩:∃n:Nat->Nat,(fun q=>if q=k then max (f k) (popP a+f t)else f q)=n:=⟨_,rfl⟩
       have o:n k=max (f k) (popP a+f t):=by rw[<-A];simp
       have v:∀q,q≠k->n q=f q:=fun q e=>by rw[<-A];simp[e]
       have E:∀(i:Nat),i<S.N->(if i=k then[SV.i .i64 (max (f k:Int) ((popP a:Int)+(f t:Int)))]else[SV.i .i64 (f i:Int)])=[SV.i .i64 (n i:Int)]:=fun i _=>by
        by_cases q:i=k
        .subst q;rw[if_pos rfl,o];congr 2;omega
        .rw[if_neg q,v i q]
       simp only[ycep,ycxb,yctf,yctw,ycm,ybb,spcO,spcC,ybl,d2,z,clash,go_sem,zA,zB,zC]
       repeat refine ybd ?_
       refine Q.use ?_;simp only[ybk,clash,go_sem,zA,zB]
       repeat refine ybd ?_
       refine yj (j+1,n) ⟨d,fun q D=>?_,fun q e=>by show n q<=_;rw[v q e];exact c q e,by show n k<=_;rw[o];omega⟩ (by show _-(j+1)<_-j;omega) ?_
       .show B q (n q)
        by_cases e:q=k
        .subst e;rw[o];rcases Nat.le_total (f q) (popP a+f t)with r|r
         .rw[Nat.max_eq_right r];exact l _ (b t w)
         .rw[Nat.max_eq_left r];exact b q D
        .rw[v q e];exact b q D
       refine yw ?_;simp only[wk,go_sem,zA,zC];exact⟨by omega,fun i F=>yfw (E i F)⟩
      .obtain rfl:j=(S.arcs k).length:=by omega
       simp only[ycep,ycaw,ycm,ybb,spcO,spcC,ybl,zJ,clash,go_sem,zA,zB]
       repeat refine ybd ?_
       refine yj (i+1,f) ⟨g,b,fun q=>?_⟩ (by show _-(i+1)<_-i;omega) ?_
       .show f q<=24*(i+1)
        by_cases e:q=k
        .rw[e];exact C
        .have:=c q e;omega
       refine yw ?_;simp only[wk,go_sem,zA,zC];omega
  .obtain rfl:i=L.length:=by omega
   simp only[ycpl,yctm,ycm,zJ,go_sem,zA,zB];exact⟨f,Sim.refl _,b,fun k _=>by have:=c k;omega⟩
theorem ycov{S:Spc}(h:S.ok){lg:Nat->Bool}(a:S.free lg){B:Nat->Nat->Prop}(c:MvB S lg B) :
 Ct zH 20 [.ag (spcC S),ybb S.N lg] fun r=>∃f:Nat->Nat,Sim r (.tp [.sl 1 S.N fun k=>[.i .i64 (f k:Nat)],.i .i64 0])/\(∀k,k<S.N->B k (f k))/\∀k,k<S.N->f k<=1000000:=by
 refine ydwg _ _ ?_;have b:=ybkf h a c;simp only[spcC,ybl,ybb]at b;simp only[c20,ydvl,yebk,spcC,ybl,ybb,clash,go_sem,zA,zB,zC];refine b.fnd (V:=fun f:Nat->Nat=>.tp [.sl 1 S.N fun k=>[.i .i64 (f k:Nat)],.i .i64 0]) (fun r f h=>h.1) fun r f a=>?_;simp only[ybk,clash,go_sem,zA,zB];exact⟨f,Sim.refl _,a.2⟩
end Sh
end
section
def ycb(s:Nat):List Nat:=(zG 32).filter s.testBit
theorem ybfv{p q:Nat->Bool}{n t:Nat}(j:t<n)(g:p t=true)(c:∀i,i<t->p i=false)(b:∀i,q i=(p i && !decide (i=t))):(zG n).filter p=t::(zG n).filter q:=by
 obtain⟨d,rfl⟩:∃d,n=t+(d+1):=⟨n-t-1,by omega⟩
 rw[List.range_add,zO,zO,List.range_succ_eq_map];have e:(zG t).filter p=[]:=List.filter_eq_nil_iff.2 fun x a=>by rw[c x (List.mem_range.1 a)];simp
 have f:(zG t).filter q=[]:=List.filter_eq_nil_iff.2 fun x a=>by rw[b,c x (List.mem_range.1 a)];simp
 rw[e,f,List.map_cons,zBN,zBN,zBW,List.filter_cons_of_pos g,List.filter_cons_of_neg (by rw[b];simp)]
 congr 1;refine List.filter_congr fun x a=>?_;obtain⟨y,h,rfl⟩:=List.mem_map.1 a;obtain⟨z,_,rfl⟩:=List.mem_map.1 h;rw[b];have:decide (t+z.succ=t)=false:=decide_eq_false (by omega)
 rw[this];simp
theorem ycqu{x:Nat}(l:x≠0)(h:x<2^32):zAP 32 x<32/\x.testBit (zAP 32 x)=true/\(∀i,i<zAP 32 x->x.testBit i=false)/\∀i,(x&&&(x-1)).testBit i=(x.testBit i && !decide (i=zAP 32 x)):=by
 obtain⟨m,c,hk⟩:=Lib.ctzFrom_spec 32 x (by omega) h
 have e:zAP 32 x=zDA 32 x:=by simp[zAP,l]
 rw[e];obtain⟨k,b⟩:∃k,zDA 32 x=k:=⟨_,rfl⟩;rw[b]at c hk ⊢;have p:0<2^k:=Nat.two_pow_pos k
 have a:∀j,x.testBit j=if j<k then false else(2*m+1).testBit (j-k):=fun j=>by
  have:=zBC (2*m+1) p j;rw[zBW,<-c]at this;rw[this];simp
 have g:x-1=2^k*(2*m)+(2^k-1):=by
  have:2^k*(2*m+1)=2^k*(2*m)+2^k:=by rw[Nat.mul_add,zCB]
  omega
 have f:∀j,(x-1).testBit j=if j<k then(2^k-1).testBit j else(2*m).testBit (j-k):=fun j=>by
  rw[g];exact zBC (2*m) (show 2^k-1<2^k by omega) j
 refine⟨hk,by rw[a,if_neg (by omega),zAQ];simp,fun i n=>by rw[a,if_pos n],fun i=>?_⟩
 rw[Nat.testBit_and,a,f]
 by_cases q:i<k
 .rw[if_pos q];simp
 .rw[if_neg q,if_neg q]
  by_cases d:i=k
  .subst d;simp
  .obtain⟨j,o⟩:∃j,i-k=j+1:=⟨i-k-1,by omega⟩
   rw[o,zCE,zCE,show(2*m+1)/2=m by omega,show 2*m/2=m by omega]
   simp[d]
theorem yse:ycb 0=[]:=List.filter_eq_nil_iff.2 fun x _=>by simp
theorem ysd{x:Nat}(a:x≠0)(h:x<2^32):ycb x=zAP 32 x::ycb (x&&&(x-1)):=by
 obtain⟨b,c,d,e⟩:=ycqu a h;exact ybfv b c d e
def yeb(s:Nat):Nat->Nat
 |0=>s
 |k+1=>yeb s k&&&(yeb s k-1)
theorem ypw{s:Nat}(h:s<2^32):∀k,yeb s k<2^32
 |0=>h
 |k+1=>Nat.lt_of_le_of_lt Nat.and_le_left (ypw h k)
theorem ysb{s:Nat}(h:s<2^32):∀k,ycb (yeb s k)=(ycb s).drop k
 |0=>by simp[yeb]
 | k + 1=>by
   have a:=ysb h k;show ycb (yeb s k&&&(yeb s k-1))=_
   by_cases b:yeb s k=0
   .rw[b,yse]at a;rw[b,Nat.zero_and,yse,<-zCH,<-a];rfl
   .rw[ysd b (ypw h k)]at a;rw[<-zCH,<-a];rfl
theorem rest_end{s k:Nat}(h:s<2^32)(hk:k<=(ycb s).length):yeb s k=0↔k=(ycb s).length:=by
 have a:=ysb h k;constructor
 .intro e;rw[e,yse]at a;have:=congrArg zCA a;rw[List.length_drop,zBL]at this;omega
 .intro e;rw[e,List.drop_length]at a;refine zF fun q=>?_;rw[<-e]at a;rw[ysd q (ypw h k)]at a;cases a
theorem ydfx{s k:Nat}(h:s<2^32)(hk:k<(ycb s).length):yeb s k≠0/\zAP 32 (yeb s k)=(ycb s).getD k 0:=by
 have a:yeb s k≠0:=fun e=>by have:=(rest_end h (Nat.le_of_lt hk)).1 e;omega
 refine⟨a,?_⟩;have b:=ysb h k;rw[ysd a (ypw h k),List.drop_eq_getElem_cons hk]at b;have:=(List.cons.inj b).1;rw[this,zBE,List.getElem?_eq_getElem hk];rfl
theorem yccm{s v:Nat}:v∈ycb s↔v<32/\s.testBit v=true:=by
 unfold ycb;rw[zAV,zAY]
end
section
open Go.RowKit
theorem ydto(x a:Nat)(g:x<4294967296)(f:x≠0)(c:x&&&(4294967296-x)=a) :
 bits BinOp.and IntKind.u32 (x:Int) (-(x:Int)%4294967296)*125613361%4294967296/134217728=((a*125613361%4294967296/134217728:Nat):Int):=by
 have d:-(x:Int)%4294967296=((4294967296-x:Nat):Int):=by omega
 have e:bits BinOp.and IntKind.u32 (x:Int) ((4294967296-x:Nat):Int)=((x&&&(4294967296-x):Nat):Int):=u32_and (a:=x) (b:=4294967296-x) (by omega) (by omega)
 rw[d,e,c];omega
set_option maxHeartbeats 1000000 in
theorem ydjj (x k idx:Nat) (w:World) (b:((x:Int)==0)=false) (key:bits BinOp.and IntKind.u32 (x:Int) (-(x:Int)%4294967296)*125613361%4294967296/134217728=(idx:Int))
 (d:idx<32) (hk:k<32) (a:w.cell? ⟨0,idx,none⟩=some (.int .u8 k)) :
 Calls zH 173 #[.int .u32 x] w fun e c=>e = .returned (.int .i64 k)/\c=w:=by
 go_enter zCR,zCL
 go_wp2_with (simp only[key])
 go_ret
 exact⟨rfl,rfl⟩
theorem ydlb(w:World):Calls zH 173 #[.int .u32 0] w fun e a=>e = .returned (.int .i64 32)/\a=w:=by
 go_enter zCR,zCL
 go_wp2
 go_ret
 exact⟨rfl,rfl⟩
theorem ydpn{w:World}{x:Nat}(k:x<2^32)(f:∃e h,w.heap[0]?=some (.cells Ev.ybiz.toArray e h)) :
 Calls zH 173 #[.int .u32 x] w fun e m=>e = .returned (.int .i64 (zAP 32 x))/\m=w:=by
 by_cases a:x=0
 .subst a;exact ydlb w
 .obtain⟨b,hk⟩:=Lib.lowest_bit 32 x a k;obtain⟨i,c⟩:=Lib.deBruijn32_at _ hk;obtain⟨e,h,f⟩:=f;refine ydjj x _ _ w (by simp;omega) (ydto x _ k a b) i hk ?_
  have d:∀j,j<32->([0,1,28,2,29,14,24,3,30,22,20,15,25,17,4,8,31,27,13,23,21,19,16,7,26,12,18,6,11,5,10,9]:List Int)[j]?=some ((Lib.deBruijn32tab.getD j 0:Nat):Int):=by decide +kernel
  have g:∀j,j<32->Ev.ybiz[j]?=some (.int .u8 (Lib.deBruijn32tab.getD j 0:Nat)):=fun j l=>by
   unfold Ev.ybiz;rw[List.getElem?_map,d j l];rfl
  rw[World.cell?,f];have:=g _ i;rw[c]at this
  simpa using this
namespace Sh
open Ev
end Sh
end
section
namespace Ev
open Go Go.RowKit
theorem ybsa(v:Value):(T.sets .leaf 0 [v]).get 0=some v:=ycjt (l:=[v]) (j:=0) (by simp)
noncomputable def ybab(x:Nat):ABlk:=.cells (T.sets .leaf 0 [.int .u32 x]) 1 77 0
def setAt(b x:Nat)(m:Mem):Prop:=∃c,m.b.get b=some (.cells c 1 77 0)/\c.get 0=some (.int .u32 x)
section
variable {φ:Phi}{M:AM}{w:World}{m:Mem}{b x y:Nat}
theorem ybeg(h:setAt b x m)(q:Rel φ M w)(r:Sub m M):∃l a,φ b=some l/\l.sz=0/\l.base+1<=l.size/\l.ob=none/\w.heap[l.blk]?=some (.cells a 77 (0,0))/\a.size=l.size/\a[l.base]?=some (.int .u32 x):=by
 obtain⟨c,o,p⟩:=h;obtain⟨l,a,A,B,d,f,g,i,j,k,n⟩:=q.cellsAt (r _ _ o);obtain⟨u,v,z⟩:=i (by decide)
 subst u v;obtain⟨C,s,t⟩:=n 0 _ (by omega) p
 have e:=t.eq_simple rfl;subst e;exact⟨l,a.toArray,d,f,g,z,j,by simpa using k,by simpa using s⟩
theorem ydiv(h:setAt b x m)(i:Rel φ M w)(p:Sub m M){l:Loc}(k:φ b=some l) :
 Rel φ (upd M b (some (ybab y))) (w.setCell ⟨l.blk,l.base,none⟩ (.int .u32 y))/\WG φ M w φ (upd M b (some (ybab y))) (w.setCell ⟨l.blk,l.base,none⟩ (.int .u32 y)):=by
 obtain⟨B,a,e,r,s,f,g,t,z⟩:=ybeg h i p;rw[k]at e;cases e
 obtain⟨c,u,_⟩:=h;rw[setCell_eq_setRow w l.blk l.base a _ _ _ g];refine i.setRow (p _ _ u) k ⟨r,s,(a.setIfInBounds l.base (.int .u32 y)).toList,77,(0,0),⟨fun _=>⟨rfl,rfl,f⟩,fun o n=>(by rw[f]at n;cases n)⟩,?_,by simpa using t,fun j v A q=>?_⟩
 .rw[Array.toArray_toList];exact setRow_heap w _ _ _ _ _ g
 .obtain rfl:j=0:=by omega
  rw[ybsa]at q;cases q
  refine⟨.int .u32 y,?_,.simple rfl⟩;have d:l.base<a.size:=by omega
  simp[d]
end
noncomputable def ytr(b y:Nat)(m:Mem):Mem:=m.app (.upd b (ybab y))
theorem ybsp(b y:Nat)(m:Mem)(i:Nat):(ytr b y m).b.get i=if i=b then some (ybab y)else m.b.get i:=by
 unfold ytr;rw[Sh.ybct];exact T.set_at _ _ _ _
noncomputable def ycyo(b s:Nat):It where
 n:=(ycb s).length
 el:=fun k=>[.int .i64 ((ycb s).getD k 0:Nat)]
 pre:=fun k m=>setAt b (yeb s k) m
 adv:=fun k m=>ytr b (yeb s (k+1)) m
 step:=fun k φ M w M' w'=>∃l,φ b=some l/\M'=upd M b (some (ybab (yeb s (k+1))))/\w'=w.setCell ⟨l.blk,l.base,none⟩ (.int .u32 (yeb s (k+1):Nat))
theorem ydhn{a:Nat}(d:a≠0)(h:a<2^32):bits BinOp.and IntKind.u32 (a:Int) (IntKind.wrap .u32 ((a:Int)-1))=((a&&&(a-1):Nat):Int):=by
 have e:IntKind.wrap .u32 ((a:Int)-1)=((a-1:Nat):Int):=by
  have c:(a:Int)-1=((a-1:Nat):Int):=by omega
  rw[c];exact yof (by omega)
 rw[e];exact u32_and (a:=a) (b:=a-1) h (by omega)
set_option maxRecDepth 100000 in
set_option maxHeartbeats 2000000 in
theorem ycob{b s:Nat}(r:s<2^32):ItOk zH 172 [.pointer (some ⟨b,0,none⟩)] (ycyo b s):=by
 refine⟨fun V w=>ybw ytd zCS rfl V w,fun k m hk hw hp=>?_,?_,?_⟩
 .obtain⟨c,h1,_⟩:=hp;have hb:=hw _ _ h1;show Grow m (ytr b _ m);unfold ytr
  exact⟨ycdk hw (fun i hi=>by
   have hi:i∈[b]:=hi;rw[List.mem_singleton.1 hi];exact⟨_,h1⟩),(yvr m _).1⟩
 .rintro k φ M w m U w' hk hw hR hs hp ⟨l,hl,rfl,rfl⟩;obtain⟨r1,r2⟩:=ydiv (y:=yeb s (k+1)) hp hR hs hl;obtain⟨c,h1,_⟩:=hp;refine⟨φ.le_refl,fun _ _=>rfl,r1,fun i x B=>?_,fun i hi o=>?_,r2⟩
  .have B:(ytr b (yeb s (k+1)) m).b.get i=some x:=B;rw[ybsp]at B;show(if i=b then _ else _)=_
   split at B
   .rename_i q;rw[if_pos q];exact B
   .rename_i q;rw[if_neg q];exact hs _ _ B
  .show(if i=b then _ else _)=_
   rw[if_neg fun q=>?_];subst q;rcases o with o|o
   .rw[h1]at o;cases o
   .have o:i<(ytr i (yeb s (k+1)) m).low:=o;unfold ytr at o;rw[Sh.ybct]at o;have o:i<Nat.min m.low i:=o;exact absurd o (Nat.not_lt.2 (Nat.min_le_right m.low i))
 .intro l St b1 φ M w b2 d p n O H;obtain⟨box,rfl,G⟩:=ygg H;obtain⟨C,R,_,rfl⟩:=G.ptr_inv;obtain⟨N,hN⟩:∃N,(ycb s).length=N:=⟨_,rfl⟩;have K:=zV d;have J:=zV p;have Hyield:=zV n;have H0:=zV O;have Hlc:=zV R
  have g:Hid (∀k f U W,St k f U W->φ.le f/\W.cell? ⟨C.blk,C.base,none⟩=some (.int .u32 (yeb s k:Nat))/\W.frozen? ⟨C.blk,C.base,none⟩=false/\(∃e fz,W.heap[0]?=some (.cells ybiz.toArray e fz))/\C.blk<W.heap.size):=zV fun k f U W t=>by
   obtain⟨a2,m,hR,a8,a4⟩:=d k f U W t;obtain⟨l',cs,Y,g2,g3,g4,L,g6,g7⟩:=ybeg a4 hR a8;rw[a2 _ _ R]at Y;cases Y
   exact⟨a2,by simp[World.cell?,L,g7],by simp[World.frozen?,L],(hR.gl _ rfl).1,(Array.getElem?_eq_some_iff.1 L).1⟩
  clear d p n O G R H
  refine callsIn_of_wp zCS rfl trivial ?_
  simp only[Tryz.ntmps172,List.size_toArray,zBJ,zBL,zB,Nat.reduceSub,Array.replicate_succ,
   Array.replicate_zero,List.push_toArray,List.append_toArray,zBN,List.cons_append]
  gi_wp2
  gi_loopg [] N (fun q wr=>∃k:Nat,q+k=N/\Hid (∃f U,φ.le f/\St k f U wr))
  case atStart=>exact⟨0,by omega,zV ⟨φ,M,φ.le_refl,H0.out⟩⟩
  case round =>
   obtain⟨k,hq,t⟩:=hrel;obtain⟨T,M1,h,a⟩:=t.out;obtain⟨_,a1,b5,Q,b3⟩:=g.out _ _ _ _ a
   by_cases b7:k<N
   .obtain⟨O,hz⟩:=ydfx r (k:=k) (by omega)
    have A:=ypw r k;have F:=ydhn O A;have E:yeb s (k+1)=yeb s k&&&(yeb s k-1):=rfl;obtain⟨x,B⟩:∃x,yeb s k=x:=⟨_,rfl⟩;obtain⟨y,hy⟩:∃y,yeb s (k+1)=y:=⟨_,rfl⟩;rw[B]at a1 O hz A F E;rw[hy]at E;rw[<-E]at F;have b8:((x:Int)!=0)=true:=by rw[bne_iff_ne];omega
    have S:=ydpn (w:=wr) (x:=x) A Q;rw[hz]at S;obtain⟨v,hv⟩:∃v,(ycb s).getD k 0=v:=⟨_,rfl⟩
    obtain⟨fn,a7,D,X,a5,P⟩:=Hyield.out k T M1 wr [.int .i64 (v:Nat)] (by show k<(ycb s).length;omega) a (by
     show VRL T [.int .i64 ((ycb s).getD k 0:Nat)] _;rw[hv];exact .cons (.simple rfl) .nil)
    rw[hv]at S;have a6:(Instr.yield l #[.int .i64 (v:Int)]).run zH wr = .ok (.round l fn a7 D X) wr:=a5;have Hst1:=zV a;have Hle1:=zV h;have Hy:=zV hy;have Hx:=zV B
    clear t a h a5 Q hz E B hy
    gi_wp2
    refine⟨trivial,callsIn_wide.2 (S.mono ?_)⟩;rintro e w' ⟨rfl,rfl⟩
    gi_wp2
    refine P.mono ?_;rintro e W3 (⟨rfl,b0,M3,j,⟨m3,Z,a0,a3⟩,I⟩|⟨rfl,u⟩)
    .obtain⟨l',cs,Y,g2,g3,g4,L,g6,g7⟩:=ybeg a3 Z a0;rw[j _ _ (Hle1.out _ _ Hlc.out)]at Y;cases Y
     have b4:W3.cell? ⟨C.blk,C.base,none⟩=some (.int .u32 (x:Nat)):=by
      have a9:yeb s k=x:=Hx.out;simp[World.cell?,L,g7,a9]
     have b6:W3.frozen? ⟨C.blk,C.base,none⟩=false:=by simp[World.frozen?,L]
     have Hst3:=zV (I _ _ ⟨C,j _ _ (Hle1.out _ _ Hlc.out),rfl,rfl⟩);have Hle3:=zV j
     clear I j P a6 Z a0 a3 g2 g3 g4 L g6 g7
     gi_wp2
     gi_roundg (gk-1)
     case measure=>omega
     case rel =>
      have z:=Hst3.out;rw[Hy.out]at z;refine⟨k+1,by omega,zV ⟨b0,upd M3 b (some (ybab y)),Phi.le_trans Hle1.out Hle3.out,?_⟩⟩
      clear K J Hyield H0 g Hst3
      have e1:IntKind.wrap .u32 ((x:Int)-1)=(x:Int)-1:=by
       have e:(x:Int)-1=((x-1:Nat):Int):=by omega
       rw[e];exact yof (by omega)
      rw[e1]at F;rw[F];exact z
    .have Hstop:=zV u
     clear u P a6
     gi_wp2
     refine bodyPost_ret (results_none rfl _ _ _) rfl ?_;exact⟨⟨_,rfl⟩,.inr Hstop.out⟩
   .have hk:k=N:=by omega
    have O:yeb s k=0:=(rest_end r (by omega)).2 (by omega)
    rw[O]at a1;have Hst1:=zV a;have Hle1:=zV h
    clear t a h Q
    gi_wp2
    go_end0
    exact⟨⟨_,rfl⟩,.inl ⟨T,M1,by
     have:=Hst1.out;rw[hk,<-hN]at this;exact this⟩⟩
end Ev
end
section
section
variable {nm nc nr:ByteArray}{g:Gr}{c:Conf}{u v s:Nat}
end
end
section
end
section
namespace Sh
open Ev Go.RowKit
def setO(x:Nat):OB:=⟨77,true,1,1,fun _=>[.i .u32 x]⟩
def ycao(b s:Nat):ItS:=⟨(ycb s).length,fun k=>[.i .i64 ((ycb s).getD k 0:Nat)],[(b,0)],fun k o=>lookO o (b,0)=some (setO (yeb s k)),fun k o=>(SS.own ⟨[],o⟩ (b,0) (some (setO (yeb s (k+1))))).o⟩
theorem ycfs{b s:Nat}(G:s<2^32):ItC zH 172 [.pt (b,0) 0 0] (ycao b s):=by
 intro Q F U K f m S C E hown;obtain⟨u,rfl,H⟩:=rvl1 E;obtain⟨k,z,hk,rfl⟩:=H.pt_inv;have c:lookO K.o (b,0)=some (setO (yeb s 0)):=hown;obtain⟨l,_⟩:=C.ownAt c hk (.inl (show(1:Nat)≠0 by decide))
 have l:z=1:=l;subst l;refine⟨ycyo k s,ycob G,rfl,fun x p J M R j O n d P a=>?_⟩;have g:=n (b,0) zK _ hk;have a:lookO J.o (b,0)=some (setO (yeb s j)):=a;obtain⟨_,Tb,L,y,A⟩:=d.ownAt a g (.inl (show(1:Nat)≠0 by decide))
 obtain⟨N,h,_,B⟩:=A 0 (by show 0<1;omega)
 refine⟨?_,fun D=>⟨.cons .i .nil,?_⟩⟩
 .refine⟨Tb,y,?_⟩;have r:=B 0 (by show 0<1;omega)
  have h:RVL x p [.i .u32 (yeb s j:Nat)] (L 0):=h;obtain⟨v,e,I⟩:=rvl1 h;rw[e,I.int_inv]at r;exact r
 .exact d.upd (b:=setO (yeb s (j+1))) ⟨_,a⟩ g (show 77≠CU by decide) (Tb:=T.sets .leaf 0 [.int .u32 (yeb s (j+1):Nat)]) (L:=fun _=>[.int .u32 (yeb s (j+1):Nat)]) fun i t=>by
   have t:i<1:=t;obtain rfl:i=0:=by omega
   refine⟨rfl,.cons .i .nil,rfl,fun q w=>?_⟩;have w:q<1:=w;obtain rfl:q=0:=by omega
   exact ybsa _
theorem ycpz{s:Nat}:Cm zH 129 [] [] [.i .u32 s] fun r o=>r = .fn 172 [] [.pt (1,0) 0 0]/\o=[(1,.one (some (setO s)))]:=by
 refine ycmg [] [] _ _ _ ?_;simp only[c129,ycrl,ydag,clash,yhi,go_sem,zA,zB,zC];refine⟨.fn 172 [] [.pt (1,0) 0 0],[(1,.one (some (setO s)))],?_,?_,rfl,rfl⟩
 .refine yw ?_;simp only[setO,wk,go_sem,zC]
 .simp only[setO,ycl,yfj,wk,go_sem]
theorem yckt{s v:Nat}(b:s<2^24)(h:v∈ycb s):v<24/\s.testBit v=true:=by
 have a:=(yccm.1 h).2;refine⟨zF fun q=>?_,a⟩;rw[zBP (zBX b (zBT (by omega) (by omega)))]at a
 cases a
theorem getD_mem{l:List Nat}{k:Nat}(h:k<l.length):l.getD k 0∈l:=by rw[getD_at h];exact zZ h
end Sh
end
section
namespace Sh
open Ev Go.RowKit
end Sh
end
section
namespace Sh
open Go Ev
end Sh
end
section
structure LdC(g:Gr)(c:Conf):Prop where
 len:c.length=g.ids.length
 row:∀v,v<g.ids.length->(c.getD v []).length=3/\(0<=(c.getD v []).getD 0 0/\(c.getD v []).getD 0 0<=ybtz g)/\(0<=(c.getD v []).getD 1 0/\(c.getD v []).getD 1 0<g.ids.length)/\(-1<=(c.getD v []).getD 2 0/\(c.getD v []).getD 2 0<(g.ports.getD v []).length)
section
variable {nm nl nd np no nj:ByteArray}{g:Gr}{c:Conf}{v:Nat}
end
end
section
section
variable {nm nl nd np no nj:ByteArray}{g:Gr}{c:Conf}{v:Nat}
end
end
section
section
variable {nm nl nd np no nj:ByteArray}{g:Gr}{c:Conf}{v:Nat}
theorem key_eq{a b x y n:Int}(d:0<=x/\x<n)(e:0<=y/\y<n):a*n+x=b*n+y↔a=b/\x=y:=by
 constructor
 .intro h;have f:(a*n+x)/n=a:=by rw[zCT,zBQ _ _ (by omega),zBR d.1 d.2,zCU]
  have i:(b*n+y)/n=b:=by rw[zCT,zBQ _ _ (by omega),zBR e.1 e.2,zCU]
  have j:a=b:=by rw[<-f,<-i,h]
  subst j;exact⟨rfl,by omega⟩
 .rintro⟨rfl,rfl⟩;rfl
end
end
section
namespace Sh
open Ev Go.RowKit
end Sh
end
section
namespace Sh
open Ev Go.RowKit
end Sh
end
section
namespace Sh
open Ev Go.RowKit
end Sh
end
section
def chTo(perm:Nat->Bool)(e n:Nat):List Nat:=(zG n).filter fun s=>decide (s≠0/\s&&&e=s)&&perm s
def chP(perm:Nat->Bool)(e:Nat):List Nat:=chTo perm e 16
def nxB(e s:Nat):Nat:=((s+4294967296-e)%4294967296)&&&e
set_option maxRecDepth 100000 in
theorem ybhn:∀e,e<16->e≠0->(4294967296-e)&&&e≠0/\(4294967296-e)&&&e<16/\((4294967296-e)&&&e)&&&e=(4294967296-e)&&&e/\∀t,t<16->t≠0->t&&&e=t->(4294967296-e)&&&e<=t:=by decide +kernel
set_option maxRecDepth 100000 in
theorem yblx:((zG 16).all fun e=>(zG 16).all fun s=>s==0 || !(s&&&e==s)||(nxB e s==0&&(zG 16).all fun t=>!(t&&&e==t)||zDC t s)||(zDG s (nxB e s)&&zDG (nxB e s) 16&&(nxB e s&&&e==nxB e s)&&(zG 16).all fun t=>!(t&&&e==t)||zDC t s||zDC (nxB e s) t))=true:=by decide +kernel
theorem ybtu(e:Nat)(k:e<16)(s:Nat)(l:s<16)(i:s≠0)(j:s&&&e=s):(nxB e s=0/\∀t,t<16->t&&&e=t->t<=s)\/(s<nxB e s/\nxB e s<16/\nxB e s&&&e=nxB e s/\∀t,t<16->t&&&e=t->s<t->nxB e s<=t):=by
 have h:=List.all_eq_true.1 (List.all_eq_true.1 yblx e (List.mem_range.2 k)) s (List.mem_range.2 l);rw[zAE,zAE,zAE]at h;rcases h with((h|h)|h)|h
 .exact absurd (beq_iff_eq.1 h) i
 .rw[zBH,beq_eq_false_iff_ne]at h;exact absurd j h
 .rw[zAA,beq_iff_eq]at h;refine .inl ⟨h.1,fun t g f=>?_⟩;have:=List.all_eq_true.1 h.2 t (List.mem_range.2 g);rw[zAE,zBH,beq_eq_false_iff_ne]at this;exact this.elim (fun q=>absurd f q) zW
 .rw[zAA,zAA,zAA,beq_iff_eq]at h;obtain⟨⟨⟨a,b⟩,c⟩,d⟩:=h;have a:s+1<=nxB e s:=zW a;have b:nxB e s+1<=16:=zW b;refine .inr ⟨a,b,c,fun t g f m=>?_⟩;have:=List.all_eq_true.1 d t (List.mem_range.2 g);rw[zAE,zAE,zBH,beq_eq_false_iff_ne]at this;rcases this with(q|q)|q
  .exact absurd f q
  .have:=zW q;omega
  .exact zW q
theorem ymk{perm:Nat->Bool}{e n:Nat}:∀d,(∀t,n<=t->t<n+d->¬(t≠0/\t&&&e=t))->chTo perm e (n+d)=chTo perm e n
 |0,_=>rfl
 | d+1,h=>by
   have b:=ymk (perm:=perm) d fun t a c=>h t a (by omega)
   rw[<-b,<-zCK];unfold chTo;rw[zAU,zO];have:=h (n+d) (by omega) (by omega)
   simp only[zAN,decide_eq_false this,Bool.false_and,zBB,if_false,zCG,zAD]
theorem ycak{perm:Nat->Bool}{e s:Nat}(h:s≠0/\s&&&e=s):chTo perm e (s+1)=chTo perm e s++if perm s=true then[s]else[]:=by
 unfold chTo;rw[zAU,zO];congr 1;cases a:perm s<;>simp only[zAN,decide_eq_true h,a,zCI,zCG]<;>rfl
theorem ybsc{perm:Nat->Bool}{e l:Nat}(h:∀t,t<l->¬(t≠0/\t&&&e=t)):chTo perm e l=[]:=by
 have:=ymk (perm:=perm) (n:=0) l fun t _ a=>h t (by omega)
 rw[zS]at this;exact this
theorem ybrl{perm:Nat->Bool}{e n s:Nat}(h:s∈chTo perm e n):s<n/\s≠0/\s&&&e=s/\perm s=true:=by
 unfold chTo at h;rw[zAV,zAY,zAA,decide_eq_true_iff]at h;exact⟨h.1,h.2.1.1,h.2.1.2,h.2.2⟩
theorem yblm(perm:Nat->Bool)(e n:Nat):(chTo perm e n).Pairwise (· < ·):=List.Pairwise.filter _ List.pairwise_lt_range
theorem ybbx(perm:Nat->Bool)(e n:Nat):(chTo perm e n).length<=n:=by
 have:=zAO (fun s=>decide (s≠0/\s&&&e=s)&&perm s) (zG n);unfold chTo
 simpa using this
theorem ybqw(perm:Nat->Bool):chP perm 0=[]:=by
 unfold chP;refine ybsc fun t _ h=>h.1 ?_;rw[<-h.2,Nat.and_zero]
theorem ydrg{perm:Nat->Bool}{e:Nat}(f:e<16)(a:e≠0)(g:perm ((4294967296-e)&&&e)=true):chP perm e≠[]:=fun h=>by
 obtain⟨b,c,d,_⟩:=ybhn e f a
 have:((4294967296-e)&&&e)∈chP perm e:=by
  unfold chP chTo;rw[zAV,zAY,zAA,decide_eq_true_iff];exact⟨c,⟨b,d⟩,g⟩
 rw[h]at this;cases this
theorem ydge{a b:Nat}(c:a<2^32)(d:b<2^32):IntKind.wrap .u32 ((a:Int)-(b:Int))=(((a+4294967296-b)%4294967296:Nat):Int):=by
 unfold IntKind.wrap;simp[IntKind.bits,IntKind.signed];omega
namespace Sh
open Ev Go.RowKit
def usO(F:Nat)(L:List Nat):Nat×Fam:=(F,.one (some ⟨77,false,1,L.length,fun i=>[.i .u32 ((L.getD i 0:Nat):Int)]⟩))
theorem ydnt(L:List Nat)(x:Nat){i:Nat}(a:i<L.length+1):(if i<L.length then[SV.i .u32 ((L.getD i 0:Nat):Int)]else zAZ 1 (zBA ((i-L.length)*1) [SV.i .u32 (x:Int)]))=[SV.i .u32 (((L++[x]).getD i 0:Nat):Int)]:=by
 by_cases q:i<L.length
 .rw[if_pos q];simp[zAC,zQ q]
 .obtain rfl:i=L.length:=by omega
  rw[if_neg q,zAQ];simp[zAC]
set_option maxHeartbeats 1000000 in
theorem ybke{net:List Nat}{kind:Int}(O:kind=2\/kind=3){e:Nat}(v:e<16){perm:Nat->Bool}(j:∀s,s≠0->s<16->s&&&e=s->Returns zH 171 [usV net,.i .i64 kind,.i .u32 (e:Nat),.i .u32 (s:Nat)] (.b (perm s))) :
 Returns zH 128 [usV net,.i .i64 kind,.i .u32 (e:Nat)] (.tp [usV (chP perm e),.i .i64 0]):=by
 refine Returns.of (ydjw _ _ ?_)
 by_cases D:e=0
 .subst D;rw[ybqw];simp only[c128,ycbr,ycha,ycyu,usV,clash,zCF,go_sem,zA,zB];exact ybbp ⟨yblp,Sim.refl _,trivial⟩
 .have U : ((e:Int)==0)=false:=by rw[beq_eq_false_iff_ne];omega
  have Q:(kind==1)=false:=by rw[beq_eq_false_iff_ne];omega
  have R:(kind==4)=false:=by rw[beq_eq_false_iff_ne];omega
  have M:=ybrm (s:=e) (by omega)
  have P:popP e<=10:=(by decide +kernel:∀e,e<16->popP e<=10) e v
  have d1:decide (((popP e:Nat):Int)>10)=false:=by simp;omega
  have K:=u32_neg (a:=e) (by omega) (by omega)
  have q:=u32_and (a:=2^32-e) (b:=e) (by omega) (by omega)
  simp only[IntKind.bits]at q;obtain⟨x,H,I,J⟩:=ybhn e v D
  change ((4294967296-e)&&&e)≠0 at x
  obtain⟨l,F⟩:∃l,(4294967296-e)&&&e=l:=⟨_,rfl⟩;have w:(2^32-e)&&&e=l:=F;rw[F]at x H I J;rw[w]at q;simp only[c128,ycbr,ycha,yddg,yczo,ycuj,ycej,yccn,usV,U,Q,R,clash,go_sem,zA,zB,zC];refine M.use ?_;simp only[ybk,ycjr,d1,K,q,IntKind.signed,clash,go_sem,zA,zB]
  refine ybf (σ:=Nat×List Nat) (fun y=>⟨[(10,.i .u32 (y.1:Nat)),(8,.pt (8,0) 0 0),(0,usV net),(1,.i .i64 kind),(2,.i .u32 (e:Nat))],[(8,.one (some ⟨38,true,1,1,fun _=>[.os (70,0) 0 y.2.length true]⟩)),usO 70 y.2]⟩)
   (fun y=>(y.1=0/\y.2=chP perm e)\/(y.1≠0/\y.1<16/\y.1&&&e=y.1/\y.2=chTo perm e y.1)) (fun y=>if y.1=0 then 0 else 16-y.1) (l,[]) (.inr ⟨x,H,I,(ybsc fun t V h=>by have:=J t (by omega) h.1 h.2;omega).symm⟩) ?_ ?_
  .refine yca [] [70] [] ?_;simp only[usV,usO,wk,go_sem,zA,zC,zN];exact fun i _=>⟨(70,0),rfl,rfl,rfl⟩
  .rintro⟨s,L⟩ f;simp only at f;rcases f with⟨rfl,rfl⟩|⟨g,k,o,rfl⟩
   .simp only[yblw,ybzu,usV,usO,zCF,zAH,clash,go_sem,zA,zB];exact Sim.refl _
   .simp only at g k o ⊢;have d2:((s:Int)!=0)=true:=by rw[bne_iff_ne];omega
    have C:=ydge (a:=s) (b:=e) (by omega) (by omega)
    have m:=u32_and (a:=(s+4294967296-e)%4294967296) (b:=e) (by omega) (by omega)
    change _=((nxB e s:Nat):Int)at m
    simp only[IntKind.bits]at m;have E:=j s g k o;have c:=ycak (perm:=perm) ⟨g,o⟩;have u:=ybbx perm e s
    have d:∀L,L=chTo perm e (s+1)->((nxB e s=0/\L=chP perm e)\/(nxB e s≠0/\nxB e s<16/\nxB e s&&&e=nxB e s/\L=chTo perm e (nxB e s)))/\(if nxB e s=0 then 0 else 16-nxB e s)<(if s=0 then 0 else 16-s):=fun L p=>by
     subst p;rw[if_neg g];rcases ybtu e v s k g o with⟨z,A⟩|⟨z,A,S,T⟩
     .refine⟨.inl ⟨z,?_⟩,by rw[if_pos z];omega⟩
      have:=ymk (perm:=perm) (e:=e) (n:=s+1) (16-(s+1)) fun t g k h=>by have:=A t (by omega) h.2;omega
      rw[show s+1+(16-(s+1))=16 by omega]at this
      exact this.symm
     .refine⟨.inr ⟨by omega,A,S,?_⟩,by rw[if_neg (by omega)];omega⟩
      have:=ymk (perm:=perm) (e:=e) (n:=s+1) (nxB e s-(s+1)) fun t g k h=>by have:=T t (by omega) h.2 (by omega);omega
      rw[show s+1+(nxB e s-(s+1))=nxB e s by omega]at this
      exact this.symm
    obtain⟨L,p⟩:∃L,chTo perm e s=L:=⟨_,rfl⟩;obtain⟨B,r⟩:∃L,chTo perm e (s+1)=L:=⟨_,rfl⟩;rw[p]at u c;rw[r]at c d;simp only[usV]at E;simp only[yblw,ycfw,usV,usO,d2,p,clash,go_sem,zA,zB];refine E.use ?_;cases G:perm s with
    | true =>
      rw[G,if_pos rfl]at c;simp only[ybk,ybml,yceg,C,m,clash,go_sem,zA,zB,zD,zC]
      repeat refine ybd ?_
      refine yj (nxB e s,B) (d _ rfl).1 (d _ rfl).2 ?_;refine yca [(70,fun i=>(51,i))] [] [] ?_;simp only[c,zI,wk,go_sem,zA,zC];exact fun i N=>yfw (ydnt L s N)
    | false =>
      rw[G,if_neg (by decide),zAD]at c
      simp only[ybk,ybml,C,m,clash,go_sem,zA,zB]
      repeat refine ybd ?_
      refine yj (nxB e s,B) (d _ rfl).1 (d _ rfl).2 ?_;refine yw ?_;simp only[c,wk,go_sem,zA,zC]
theorem ybox{s e:Nat}(h:s&&&e=s):difB s e=0:=by
 unfold difB;rw[h,Nat.xor_self]
end Sh
end
end Go.Proofs.YthclbjjgfcgbgaaGreatDoor
