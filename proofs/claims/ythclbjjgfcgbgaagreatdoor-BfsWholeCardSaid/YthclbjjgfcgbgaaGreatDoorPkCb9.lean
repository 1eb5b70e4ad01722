/- Joined. -/
import Derived.Test.YthclbjjgfcgbgaaGreatDoorPkCb8
import Derived.Lib.TrailingZeros
import Derived.Test.YthclbjjgfcgbgaaGreatDoorPkCb5
set_option linter.unusedSimpArgs false
set_option linter.unusedVariables false
set_option maxRecDepth 8000
open Nat renaming reduceEqDiff->zA,reduceAdd->zB,reduceLT->zC,reduceLeDiff->zG,zero_le->zT,mul_comm->zV,le_of_ble_eq_true->zY,ble_eq_true_of_le->zAB,mul_assoc->zAD,mod_eq_of_lt->zAI,le_mul_of_pos_right->zAN,le_refl->zAP,mul_one->zAR,mul_le_mul_right->zAY,lt_or_ge->zAZ,sub_self->zBB,testBit_two_pow_mul_add->zBK,eq_zero_or_pos->zBL,div_eq_of_lt->zBP,two_pow_pos->zBU,div_div_eq_div_mul->zBV,testBit_lt_two_pow->zBW,pow_le_pow_right->zBZ,add_assoc->zCB,reduceSub->zCC,succ_mul->zCD,add_zero->zCE,le_trans->zCF,lt_of_lt_of_le->zCG,blt->zCK,add_mul->zCM,testBit_succ->zCO,mod_lt->zCS,div_add_mod->zCT,mul_add_div->zCW,reduceBEq->zDA,zero_add->zDD,zero_mul->zDE,mul_pos->zDN,mod_one->zDO,mod_mul->zDP,ble->zDT,beq->zDV
open Go.Proofs.Tryz renaming prog->zD,ntmps173->zDB,func173->zDH,func172->zDI,func133->zDL,func134->zDM
open Go.Lib renaming hid->zF,ctz->zAV,ctzFrom->zDR
open List renaming length_append->zH,range->zI,take_succ_eq_append_getElem->zK,mem_cons_self->zM,mem_cons_of_mem->zN,getD->zO,getElem?_eq_getElem->zQ,getElem_mem->zS,getElem?_append_left->zU,take_length->zW,filter_append->zX,eq_nil_of_length_eq_zero->zAA,append_nil->zAE,length_cons->zAH,length_map->zAK,nil_append->zAL,length_erase_of_mem->zAM,pairwise_map->zAO,filter_cons->zAS,length_filter_le->zAT,take_append_drop->zAU,mem_erase_of_ne->zAW,range_succ->zBA,mem_filter->zBC,length_nil->zBD,append_toArray->zBG,take_zero->zBH,mem_range->zBI,size_toArray->zBM,push_toArray->zBN,countP_cons->zBQ,cons_append->zBR,pairwise_singleton->zBS,map_append->zBT,mem_of_mem_drop->zCA,map_nil->zCH,take->zCI,drop->zCJ,count_append->zCL,nodup_range->zCN,filter_nil->zCU,headD_cons->zCV,drop_drop->zCX,flatMap->zDC
open Classical renaming byContradiction->zJ,choose_spec->zDS,choose->zDU
open Int renaming lt_irrefl->zL,natCast_mul->zZ,toNat_natCast->zAG,reduceBNe->zAJ,add_mul->zAQ,natCast_add->zAX,add_mul_ediv_right->zBX,ediv_eq_zero_of_lt->zBY,natCast_zero->zCQ,mul_assoc->zCZ,sub_self->zDF,mul_comm->zDG,add_comm->zDJ,zero_add->zDK,sub_mul->zDQ
open Bool renaming and_eq_true->zAC,or_eq_true->zAF,false_eq_true->zBJ,not_eq_true'->zBO,cond_eq_ite->zCP,true_and->zCY
open Array renaming replicate_succ->zBE,replicate_zero->zBF
open Option renaming getD_some->zCR
open Go
namespace Go.Proofs.YthclbjjgfcgbgaaGreatDoor
section
def yblo(g:Gr):Bool:=yeo g&&decide (yod g/2+1=g.ports.length)
theorem ybzy{g:Type}[DecidableEq g]:∀{l1 l2:List g},l1.Nodup->(∀x∈l1,x∈l2)->l2.length<=l1.length->∀x∈l2,x∈l1
 | [],l2,_,_,h,x,c=>by
   have:l2=[]:=zAA (by simpa using h)
   rw[this]at c;exact absurd c List.not_mem_nil
 | a :: t,l2,b,d,h,x,c=>by
   have b:=List.nodup_cons.1 b
   by_cases q:x=a
   .rw[q];exact zM
   .refine zN _ (ybzy (l2:=l2.erase a) b.2 (fun y f=>?_) ?_ x ((zAW q).2 c))
    .refine(zAW fun e=>b.1 (by rw[<-e];exact f)).2 (d y (zN _ f))
    .rw[zAM (d a zM)];simp only[zAH]at h;omega
structure TreeM(g:Gr):Prop where
 up:∀a v u,a<g.ports.length->adj g v u->(ybs g a).getD u 0=(ybs g a).getD v 0-1\/(ybs g a).getD u 0=(ybs g a).getD v 0+1
 one:∀a v u w,a<g.ports.length->adj g v u->adj g v w->(ybs g a).getD u 0=(ybs g a).getD v 0-1->(ybs g a).getD w 0=(ybs g a).getD v 0-1->u=w
theorem ydzz{g:Gr}(r:ybi g)(H:yeo g=true)(R:yod g<=2*(g.ports.length-1)):TreeM g:=by
 have s:∀a,a<g.ports.length->∃up:Nat->Nat,∀v u,adj g v u->(v≠a/\u=up v/\(ybs g a).getD u 0=(ybs g a).getD v 0-1)\/(ybs g a).getD u 0=(ybs g a).getD v 0+1:=fun a m=>by
  have ex:∀v,v<g.ports.length->v≠a->∃u,adj g v u/\(ybs g a).getD u 0=(ybs g a).getD v 0-1:=fun v j k=>ybhx r H m j k
  obtain⟨up,d⟩:∃up:Nat->Nat,∀v,v<g.ports.length->v≠a->adj g v (up v)/\(ybs g a).getD (up v) 0=(ybs g a).getD v 0-1:=by
   refine⟨fun v=>if h:v<g.ports.length/\v≠a then zDU (ex v h.1 h.2)else 0,fun v j k=>?_⟩
   simp only[dif_pos (show v<g.ports.length/\v≠a from⟨j,k⟩)]
   exact zDS (ex v j k)
  let U:List (Nat×Nat):=((zI g.ports.length).erase a).map fun v=>(v,up v)
  let P:List (Nat×Nat):=(zI g.ports.length).flatMap fun v=>(g.ports.getD v []).map fun l=>(v,l.1.toNat)
  have B:((zI g.ports.length).erase a).Nodup:=List.nodup_range.erase a
  have z:∀x y,(x,y)∈U↔x<g.ports.length/\x≠a/\y=up x:=fun x y=>by
   show(x,y)∈((zI g.ports.length).erase a).map (fun v=>(v,up v))↔_;rw[List.mem_map];constructor
   .rintro⟨v,j,e⟩;cases e
    have j:=(List.nodup_range.mem_erase_iff).1 j;exact⟨List.mem_range.1 j.2,j.1,rfl⟩
   .rintro⟨b,c,rfl⟩;exact⟨x,(List.nodup_range.mem_erase_iff).2 ⟨c,List.mem_range.2 b⟩,rfl⟩
  have C:∀x y,(x,y)∈P↔x<g.ports.length/\adj g x y:=fun x y=>by
   show(x,y)∈zDC _ _↔_;rw[List.mem_flatMap];constructor
   .rintro⟨v,j,h⟩;obtain⟨l,A,e⟩:=List.mem_map.1 h;cases e
    have j:=List.mem_range.1 j;exact⟨j,(ybei r j A).2.2.1⟩
   .rintro⟨b,c⟩;obtain⟨l,A,e⟩:=ycdz c;exact⟨x,List.mem_range.2 b,List.mem_map.2 ⟨l,A,by rw[e]⟩⟩
  have t:∀x y,(x,y)∈U->(ybs g a).getD y 0=(ybs g a).getD x 0-1:=fun x y h=>by
   obtain⟨b,c,rfl⟩:=(z x y).1 h;exact(d x b c).2
  have E:U.Nodup:=by
   show(((zI g.ports.length).erase a).map (fun v=>(v,up v))).Nodup;rw[List.Nodup,zAO];exact B.imp fun h e=>h (congrArg Prod.fst e)
  have N:(U.map fun p=>(p.2,p.1)).Nodup:=by
   rw[List.Nodup,zAO];exact E.imp fun h e=>h (by simp only[Prod.mk.injEq]at e;exact Prod.ext e.2 e.1)
  have D:(U++U.map fun p=>(p.2,p.1)).Nodup:=by
   rw[List.nodup_append];refine⟨E,N,?_⟩;rintro⟨x,y⟩ b ⟨S,T⟩ c e;cases e
   obtain⟨⟨p,q⟩,f,e⟩:=List.mem_map.1 c;cases e
   have F:=t _ _ b;have G:=t _ _ f;simp only at F G;omega
  have M:U.length=g.ports.length-1:=by
   show(List.map _ _).length=_;rw[zAK,zAM (List.mem_range.2 m),List.length_range]
  have L:P.length=yod g:=by
   show(zDC _ _).length=_;rw[List.length_flatMap];unfold yod;congr 1;refine List.ext_getElem (by simp) fun i b c=>?_
   have I:i<g.ports.length:=by simpa using c
   simp[zO,I]
  have o:=ybzy D (l2:=P) (fun p J=>by
   obtain⟨x,y⟩:=p;rcases List.mem_append.1 J with h|h
   .obtain⟨b,c,rfl⟩:=(z x y).1 h;exact(C _ _).2 ⟨b,(d x b c).1⟩
   .obtain⟨⟨p,q⟩,f,e⟩:=List.mem_map.1 h;cases e
    obtain⟨b,c,e⟩:=(z _ _).1 f;simp only at e ⊢;subst e;have n:=(d p b c).1;exact(C _ _).2 ⟨(r.adj_lt n).2,r.adj_symm n⟩) (by have K:(U.map fun p=>(p.2,p.1)).length=U.length:=zAK _;rw[zH,K,M,L];omega)
  refine⟨up,fun v u h=>?_⟩;have b:=o (v,u) ((C v u).2 ⟨(r.adj_lt h).1,h⟩);rcases List.mem_append.1 b with h|h
  .left
   obtain⟨_,c,f⟩:=(z v u).1 h;exact⟨c,f,t _ _ h⟩
  .right
   obtain⟨⟨p,q⟩,f,e⟩:=List.mem_map.1 h;cases e
   have:=t _ _ f;simp only at this ⊢;omega
 constructor
 .intro a v u m h;obtain⟨up,d⟩:=s a m;rcases d v u h with⟨_,_,f⟩|f
  .exact .inl f
  .exact .inr f
 .intro a v u w m b c O Q;obtain⟨up,d⟩:=s a m;rcases d v u b with⟨_,f,_⟩|f
  .rcases d v w c with⟨_,n,_⟩|n
   .rw[f,n]
   .omega
  .omega
end
section
structure Tr(g:Gr):Prop where
 good:ybi g
 conn:yeo g=true
 m:TreeM g
section
variable {g:Gr}{a b u v w x:Nat}
end
end
section
namespace Sh
open Go Ev
def ydcw:LO:=[bx' 77 0 1 0,o3 (.mv (.const (.nilFunc))) 2 0]
def yctx:LO:=[o3 (.mkfn 172 [] [(.tmp 1)]) 3 0,mv' 3 2 1]
def c129:SC:=(sr ydcw <| sr yctx <| .ret)
theorem ycmc:FnM 129 c129 [.t 2]:=fn_m Tryz.func129
end Sh
end
section
theorem TreeTo.tr{x:NetR}{g:Gr}(a:ybi g)(h:TreeTo x g.ports.length g):Tr g:=by
 have b:=Tre.conn a h.tre;refine⟨a,b,ydzz a b ?_⟩;have:=h.count;have:=a.1;omega
namespace Sh
open Ev Go.RowKit
theorem ybht(g:Gr):vok (yhn g.ports) 5 (yww g)/\Sim (view (yhn g.ports) 5 (yww g)) (grV g):=by
 obtain⟨P,b⟩:∃P,g.ports=P:=⟨_,rfl⟩;simp only[yww,yhn,grV,b,go_sem,zA];refine⟨fun q a=>?_,?_⟩
 .simp only[if_pos a];exact⟨zAP _,fun k hk=>by simp only[rowO,go_sem]⟩
 .refine ybps ⟨Sim.refl _,?_,trivial⟩;refine ydu fun q a=>?_;simp only[if_pos a];simp only[rowO,yx,go_sem];exact⟨Sim.refl _,trivial⟩
theorem ybxl{x:NetR}(j:x.ok){most:Nat}(f:1<=most/\most<=24) :
 Ct zD 10 [.ag (netC x),.i .i64 most] fun r=>∃g,Tr g/\yblo g=true/\(g.ports.length<=most/\(g.ports.length:Int)=1+yeb (IntKind.wrap .i64 (x.n-1)) most/\ybfz x g.ids)/\Sim r (grV g) :=
 (ydhm j f).ct fun r k ⟨g,b,c,h,d,e⟩=>by
   subst d e;have a:=c.tr b;refine⟨(ybht g).1,g,a,?_,h,(ybht g).2⟩;unfold yblo;rw[a.conn];have:=c.count;have:=b.1;simp only[zCY,decide_eq_true_eq];omega
theorem ycpa{x:NetR}(f:x.ok){most:Nat}(e:1<=most/\most<=24) :
 Ct zD 10 [.ag (netC x),.i .i64 most] fun r=>∃g,Tr g/\yblo g=true/\g.ports.length<=most/\Sim r (grV g) :=
 (ybxl f e).mono fun _ ⟨g,a,b,c,d⟩=>⟨g,a,b,c.1,d⟩
end Sh
end
section
namespace Sh
open Go Ev
def ydxz:LO:=[nl' 4 0]
def ydzi:LO:=[mv' 0 8 0,ln' 8 9 1,o3 (.mk 22 1 24 [.a (.slice none 0 0)] (.tmp 9) (.tmp 9)) 10 3,mv' 10 5 7]
def ydsb:LO:=[mv' 0 11 0,ln' 11 12 1,mc 0 13 0]
def ydht:LO:=[bn' .lss 13 12 14 0]
def ydxl:LO:=[mv' 13 15 0,mv' 15 6 1]
def ydvi:LO:=[mv' 5 16 0,mv' 6 17 0,mv' 0 18 0,mv' 6 19 0,ix' 1 18 19 20 12,ld' 1 20 21 28,ln' 21 22 60,o3 (.mk 3 1 8 [.i .i64 0] (.tmp 22) (.tmp 22)) 23 124,ix' 1 16 17 24 255,sto 1 24 23 511]
def ydni:LO:=[mv' 0 25 0,mv' 6 26 0,ix' 1 25 26 27 3,ld' 1 27 28 7,ln' 28 29 15,mc 0 30 0]
def ydkx:LO:=[bn' .lss 30 29 31 0]
def ydyf:LO:=[mv' 30 32 0,mv' 32 7 1]
def ydny:LO:=[mv' 5 33 0,mv' 6 34 0,ix' 1 33 34 35 3,ld' 1 35 36 7,mv' 7 37 0,mv' 1 38 0,mv' 6 39 0,mv' 7 40 0,o3 (.call (.tmp 38) [(.tmp 39),(.tmp 40)]) 41 224,ix' 1 36 37 42 511,sto 1 42 41 1023]
def ydea:LO:=[bc .add 30 1 43 0,mv' 43 30 1]
def ycyd:LO:=[bc .add 13 1 44 0,mv' 44 13 1]
def yczf:LO:=[mv' 5 45 0,mv' 45 4 1]
def c65:SC:=(sr ydxz <| sr ydzi <| .seq (sr ydsb <| .block 0 (.loop (sr ydht <| .seq (cn 14 .skip (.exit 0)) (.seq (.block 1 (sr ydxl <| sr ydvi <| sr ydni <| .block 2 (.loop (sr ydkx <| .seq (cn 31 .skip (.exit 2)) (.seq (.block 3 (sr ydyf <| .reg true ydny)) (.reg false ydea)))))) (.reg false ycyd))))) (sr yczf <| .ret))
theorem ydhi:FnM 65 c65 [.t 4]:=fn_m Tryz.func65
def ydpf:LO:=[bx' 32 0 2 0,bx' 27 1 3 0,nl' 4 0,mc 0 5 4]
def ydqp:LO:=[la' 3 2 8 0,la' 2 3 9 0,cl' 62 [8,9] 10 3,mv' 10 6 7]
def ydzm:LO:=[mv' 6 11 0,bc .neq 11 0 12 1]
def yecd:LO:=[mv' 6 13 0,nl' 4 0,mv' 13 5 3]
def ydqf:LO:=[la' 3 2 14 0,la' 2 3 15 0,cl' 63 [14,15] 16 3,o3 (.alloc 84 1 [.a (.slice none 0 0)]) 7 0,sto 1 7 16 15]
def ydzw:LO:=[ld' 1 7 17 0,o3 (.mkfn 125 [] [(.tmp 7)]) 18 0,cl' 65 [17,18] 19 3,mv' 19 4 7,mc 0 5 15]
def c59:SC:=(sr ydpf <| .seq (sr ydqp <| sr ydzm <| cn 12 (sr yecd <| .ret) .skip) (sr ydqf <| sr ydzw <| .ret))
theorem ydft:FnM 59 c59 [.t 4,.t 5]:=fn_m Tryz.func59
def ydbj:LO:=[mc 0 5 0]
def ycwo:LO:=[ld' 1 2 6 0,mv' 0 7 0,ix' 1 6 7 8 3,ld' 1 8 9 7,mv' 1 10 0,ix' 2 9 10 11 31,o3 (.idxA 2 1 (.tmp 11) (ci' 0)) 12 63,ld' 1 12 13 127,mv' 13 5 255]
def c125:SC:=(sr ydbj <| sr ycwo <| .ret)
theorem ydmq:Fn 125 c125 [.t 5]:=fn_0 Tryz.func125
def yebq:LO:=[bx' 32 0 2 0,bx' 27 1 3 0,mc 0 4 0,mc 0 5 4]
def ydnz:LO:=[la' 3 2 7 0,la' 2 3 8 0,cl' 62 [7,8] 9 3,mv' 9 6 7]
def ydog:LO:=[mv' 6 10 0,bc .neq 10 0 11 1]
def yecs:LO:=[mv' 6 12 0,mc 0 4 0,mv' 12 5 3]
def ydzq:LO:=[la' 3 2 13 0,la' 2 3 14 0,cl' 63 [13,14] 15 3,cl' 64 [15] 16 7,xt' 16 0 17 15,xt' 16 1 18 15,mv' 17 4 63,mv' 18 5 127]
def c56:SC:=(sr yebq <| .seq (sr ydnz <| sr ydog <| cn 11 (sr yecs <| .ret) .skip) (sr ydzq <| .ret))
theorem ydpo:Fn 56 c56 [.t 4,.t 5]:=fn_0 Tryz.func56
def ydrc:LO:=[mc 0 2 0,mc 0 3 1]
def ydzy:LO:=[mc 1 4 0]
def ydwr:LO:=[mv' 0 9 0,ln' 9 10 1,mc 0 11 0]
def ydlz:LO:=[bn' .lss 11 10 12 0]
def ydvy:LO:=[ix' 1 9 11 13 0,ld' 1 13 14 1,mv' 14 6 3]
def ydyl:LO:=[mv' 6 15 0,ln' 15 16 1,mc 0 17 0]
def ydjx:LO:=[bn' .lss 17 16 18 0]
def ydxt:LO:=[ix' 2 15 17 19 0,la' 2 19 20 1,o3 (.alloc 91 1 [.i .i64 0,.i .i64 0]) 8 0,sto 2 8 20 7]
def yebf:LO:=[mv' 4 21 0,o3 (.idxA 2 1 (.tmp 8) (ci' 1)) 22 0,ld' 1 22 23 2,o3 (.idxA 2 1 (.tmp 8) (ci' 0)) 24 0,ld' 1 24 25 8,bn' .sub 23 25 26 30,bc .add 26 1 27 62,bn' .mul 21 27 28 127,mv' 28 4 255]
def ydxd:LO:=[mv' 4 29 0,bc .gtr 29 32768 30 1]
def ydnv:LO:=[mc 0 2 0,mc 3 3 1]
def ycyx:LO:=[bc .add 17 1 31 0,mv' 31 17 1]
def ydek:LO:=[bc .add 11 1 32 0,mv' 32 11 1]
def ycsf:LO:=[mv' 4 33 0,mv' 33 2 1,mc 0 3 3]
def c64:SC:=(sr ydrc <| sr ydzy <| .seq (sr ydwr <| .block 0 (.loop (sr ydlz <| .seq (cn 12 .skip (.exit 0)) (.seq (.block 1 (sr ydvy <| sr ydyl <| .block 2 (.loop (sr ydjx <| .seq (cn 18 .skip (.exit 2)) (.seq (.block 3 (sr ydxt <| sr yebf <| sr ydxd <| cn 30 (sr ydnv <| .ret) .skip)) (.reg false ycyx)))))) (.reg false ydek))))) (sr ycsf <| .ret))
theorem ydwb:Fn 64 c64 [.t 2,.t 3]:=fn_0 Tryz.func64
def ydqn:LO:=[bx' 32 0 3 0,bx' 27 1 4 0,bx' 3 2 5 0,nl' 6 0,mc 0 7 8]
def ydoo:LO:=[la' 3 3 18 0,la' 2 4 19 0,cl' 62 [18,19] 20 3,mv' 20 8 7]
def ydvn:LO:=[mv' 8 21 0,bc .neq 21 0 22 1]
def yecp:LO:=[mv' 8 23 0,nl' 6 0,mv' 23 7 3]
def ydtj:LO:=[la' 3 3 24 0,la' 2 4 25 0,cl' 63 [24,25] 26 3,o3 (.alloc 84 1 [.a (.slice none 0 0)]) 9 0,sto 1 9 26 15]
def yduh:LO:=[ld' 1 9 28 0,cl' 64 [28] 29 1,mv' 29 27 3,xt' 27 0 30 7,xt' 27 1 31 7,mv' 30 10 15,mv' 31 11 63]
def ydvl:LO:=[mv' 11 32 0,bc .neq 32 0 33 1]
def yedm:LO:=[mv' 11 34 0,nl' 6 0,mv' 34 7 3]
def ydxj:LO:=[ld' 1 5 35 0,bc .lss 35 0 36 1,mv' 36 37 3,gf (.load false 1 (.tmp 5)) 38 37 7,gf (.mv (.tmp 10)) 39 37 7,gf (.bin .geq (.tmp 38) (.tmp 39)) 40 37 31,pk' 37 40 41 63]
def yeei:LO:=[nl' 6 0,mc 2 7 1]
def ycwy:LO:=[ld' 1 9 42 0,o3 (.mkfn 66 [] [(.tmp 9)]) 43 0,cl' 65 [42,43] 44 3,o3 (.alloc 46 1 [.a (.slice none 0 0)]) 12 0,sto 1 12 44 15]
def yctt:LO:=[ld' 1 9 45 0,cl' 67 [45] 46 1]
def ydas:LO:=[o3 (.alloc 3 1 [.i .i64 0]) 13 0,sto 1 13 47 1]
def yczy:LO:=[mv' 48 14 0]
def yczm:LO:=[mv' 14 49 0,cl' 68 [49] 50 1]
def ycyu:LO:=[mv' 51 15 0]
def ycvi:LO:=[o3 (.alloc 91 1 [.i .i64 0,.i .i64 0]) 16 0,sto 2 16 52 1]
def yddp:LO:=[o3 (.idxA 2 1 (.tmp 16) (ci' 1)) 53 0,ld' 1 53 54 1,o3 (.idxA 2 1 (.tmp 16) (ci' 0)) 55 0,ld' 1 55 56 4,bn' .sub 54 56 57 15,bc .add 57 1 58 31,mv' 58 17 63]
def ydbn:LO:=[ld' 1 12 59 0,ld' 1 13 60 0,ix' 1 59 60 61 3,ld' 1 61 62 7,mv' 15 63 0,ix' 1 62 63 64 31,ld' 1 64 65 63,ld' 1 5 66 0,mv' 17 67 0,bn' .rem 66 67 68 384,bn' .add 65 68 69 1023,ix' 1 62 63 70 2047,sto 1 70 69 4095]
def yday:LO:=[ld' 1 5 71 0,mv' 17 72 0,bn' .quo 71 72 73 3,sto 1 5 73 7]
def ycws:LO:=[ld' 1 12 74 0,mv' 74 6 1,mc 0 7 3]
def c15:SC:=(sr ydqn <| .seq (sr ydoo <| sr ydvn <| cn 22 (sr yecp <| .ret) .skip) (sr ydtj <| sr yduh <| .seq (sr ydvl <| cn 33 (sr yedm <| .ret) .skip) (.seq (sr ydxj <| cn 41 (sr yeei <| .ret) .skip) (sr ycwy <| .seq (sr yctt <| .block 0 (.range (.tmp 46) [47,48] (sr ydas <| .reg false yczy) (.block 1 (sr yczm <| .block 2 (.range (.tmp 50) [51,52] (sr ycyu <| .reg false ycvi) (.block 3 (sr yddp <| .seq (.reg true ydbn) (.reg false yday)))))))) (sr ycws <| .ret)))))
theorem ydhl:FnU 15 c15 [.t 6,.t 7]:=fn_u Tryz.func15
def ydqx:LO:=[mc 0 5 0]
def ydxu:LO:=[ld' 1 2 6 0,mv' 0 7 0,ix' 1 6 7 8 3,ld' 1 8 9 7,mv' 1 10 0,ix' 2 9 10 11 31,o3 (.idxA 2 1 (.tmp 11) (ci' 0)) 12 63,ld' 1 12 13 127,mv' 13 5 255]
def c66:SC:=(sr ydqx <| sr ydxu <| .ret)
theorem ydpq:Fn 66 c66 [.t 5]:=fn_0 Tryz.func66
def yeac:LO:=[bx' 46 1 3 0]
def ydpr:LO:=[mv' 0 8 0,cl' 67 [8] 9 1]
def yeaz:LO:=[o3 (.alloc 3 1 [.i .i64 0]) 4 0,sto 1 4 10 1]
def ydub:LO:=[mv' 11 5 0]
def ydxn:LO:=[mv' 5 12 0,cl' 68 [12] 13 1]
def ydip:LO:=[mv' 14 6 0]
def ydfx:LO:=[o3 (.alloc 91 1 [.i .i64 0,.i .i64 0]) 7 0,sto 2 7 15 1]
def ydhp:LO:=[ld' 1 3 16 0,ld' 1 4 17 0,ix' 1 16 17 18 3,ld' 1 18 19 7,mv' 6 20 0,ix' 1 19 20 21 31,ld' 1 21 22 63,o3 (.idxA 2 1 (.tmp 7) (ci' 1)) 23 0,ld' 1 23 24 128,bn' .lss 22 24 25 511]
def ydts:LO:=[ld' 1 3 26 0,ld' 1 4 27 0,ix' 1 26 27 28 3,ld' 1 28 29 7,mv' 6 30 0,ix' 1 29 30 31 31,ld' 1 31 32 63,bc .add 32 1 33 127,ix' 1 29 30 34 255,sto 1 34 33 511]
def ydpl:LO:=[ld' 1 3 35 0,ld' 1 4 36 0,ix' 1 35 36 37 3,ld' 1 37 38 7,mv' 6 39 0,o3 (.idxA 2 1 (.tmp 7) (ci' 0)) 40 0,ld' 1 40 41 32,ix' 1 38 39 42 127,sto 1 42 41 255]
def c61:SC:=(sr yeac <| sr ydpr <| .block 0 (.range (.tmp 9) [10,11] (sr yeaz <| .reg false ydub) (.block 1 (sr ydxn <| .block 2 (.range (.tmp 13) [14,15] (sr ydip <| .reg false ydfx) (.block 3 (.seq (.seq (.reg true ydhp) (cn 25 (sr ydts <| .ret) .skip)) (.reg true ydpl))))))))
theorem ydet:FnM 61 c61 []:=fn_m Tryz.func61
def ydvb:LO:=[bx' 84 0 1 0,o3 (.mv (.const (.nilFunc))) 2 0]
def ydum:LO:=[o3 (.mkfn 133 [] [(.tmp 1)]) 3 0,mv' 3 2 1]
def c67:SC:=(sr ydvb <| sr ydum <| .ret)
theorem ydzp:Fn 67 c67 [.t 2]:=fn_0 Tryz.func67
def yczp:LO:=[bx' 41 0 1 0,mb false 2 0]
def ydca:LO:=[fa' 0 1 1 6 0,ld' 1 6 7 1,ln' 7 8 3,mv' 8 3 7]
def ydcd:LO:=[mv' 3 9 0,bc .lss 9 1 10 1,mv' 10 11 3,gf (.mv (.tmp 3)) 12 11 7,gf (.bin .gtr (.tmp 12) (ci' 32768)) 13 11 15,pk' 11 13 14 31,mv' 14 15 63,gf (.faddr 1 1 (.tmp 1)) 16 15 127,gf (.load false 1 (.tmp 16)) 17 15 255,gf (.len (.tmp 17)) 18 15 511,gf (.mv (.tmp 3)) 19 15 127,gf (.bin .neq (.tmp 18) (.tmp 19)) 20 15 2047,pk' 15 20 21 4095]
def ydrs:LO:=[mb false 2 0]
def ycvo:LO:=[mc 0 4 0]
def ycrn:LO:=[mv' 3 22 0,mc 0 23 0]
def ycif:LO:=[bn' .lss 23 22 24 0]
def ycxz:LO:=[mv' 23 25 0,mv' 25 5 1]
def ycuc:LO:=[mv' 4 26 0,fa' 1 1 1 27 0,ld' 1 27 28 2,mv' 5 29 0,ix' 1 28 29 30 14,ld' 1 30 31 30,ln' 31 32 62,bn' .add 26 32 33 127,mv' 33 4 255]
def ydbd:LO:=[mv' 4 34 0,bc .gtr 34 262144 35 1,mv' 35 36 3,gf (.faddr 0 1 (.tmp 1)) 37 36 7,gf (.load false 1 (.tmp 37)) 38 36 15,gf (.mv (.tmp 5)) 39 36 7,gf (.idx 1 (.tmp 38) (.tmp 39)) 40 36 63,gf (.load false 1 (.tmp 40)) 41 36 127,gf (.faddr 1 1 (.tmp 1)) 42 36 7,gf (.load false 1 (.tmp 42)) 43 36 263,gf (.mv (.tmp 5)) 44 36 7,gf (.idx 1 (.tmp 43) (.tmp 44)) 45 36 1799,gf (.load false 1 (.tmp 45)) 46 36 3847,gf (.mv (.tmp 3)) 47 36 7,gf (.call (.func 180) [(.tmp 41),(.tmp 46),(.tmp 47)]) 48 36 16383,gf (.un .not (.tmp 48)) 49 36 32767,pk' 36 49 50 65535]
def ydha:LO:=[mb false 2 0]
def ycdl:LO:=[bc .add 23 1 51 0,mv' 51 23 1]
def ybye:LO:=[mb true 2 0]
def c136:SC:=(sr yczp <| sr ydca <| .seq (sr ydcd <| cn 21 (sr ydrs <| .ret) .skip) (sr ycvo <| .seq (sr ycrn <| .block 0 (.loop (sr ycif <| .seq (cn 24 .skip (.exit 0)) (.seq (.block 1 (sr ycxz <| sr ycuc <| .seq (.reg true ydbd) (cn 50 (sr ydha <| .ret) .skip))) (.reg false ycdl))))) (sr ybye <| .ret)))
theorem ydje:Fn 136 c136 [.t 2]:=fn_0 Tryz.func136
def ydcq:LO:=[mb false 6 0]
def ydbc:LO:=[mv' 0 10 0,o3 (.bin .shr (.tmp 10) (.const (.int .u64 24))) 11 1,o3 (.bin .neq (.tmp 11) (.const (.int .u32 0))) 12 3,mv' 12 13 7,gf (.mv (.tmp 0)) 14 13 15,gf (.bin .neq (.tmp 14) (.const (.int .u32 0))) 15 13 31,gf (.mv (.tmp 1)) 16 13 15,gf (.len (.tmp 16)) 17 13 79,gf (.bin .gtr (.tmp 17) (ci' 0)) 18 13 207,gf (.beq true (.tmp 15) (.tmp 18)) 19 13 511,pk' 13 19 20 1023]
def ydpz:LO:=[mb false 6 0]
def ydcn:LO:=[o3 (.mv (.const (.int .u32 0))) 7 0]
def ycvg:LO:=[mv' 1 21 0,ln' 21 22 1,mc 0 23 0]
def yccm:LO:=[bn' .lss 23 22 24 0]
def ycta:LO:=[ix' 2 21 23 25 0,la' 2 25 26 1,o3 (.alloc 103 1 [.i .u32 0,.i .i64 0]) 9 0,sto 2 9 26 7]
def ydbf:LO:=[fa' 0 1 9 27 0,ld' 1 27 28 1,mv' 7 29 0,bn' .leq 28 29 30 7,mv' 30 31 15,gf (.faddr 0 1 (.tmp 9)) 32 31 31,gf (.load false 1 (.tmp 32)) 33 31 63,gf (.mv (.tmp 0)) 34 31 31,gf (.bin .andNot (.tmp 33) (.tmp 34)) 35 31 255,gf (.bin .neq (.tmp 35) (.const (.int .u32 0))) 36 31 511,pk' 31 36 37 1023,mv' 37 38 2047,gf (.faddr 1 1 (.tmp 9)) 39 38 4095,gf (.load false 1 (.tmp 39)) 40 38 8191,gf (.bin .lss (.tmp 40) (ci' 0)) 41 38 16383,pk' 38 41 42 32767,mv' 42 43 65535,gf (.faddr 1 1 (.tmp 9)) 44 43 131071,gf (.load false 1 (.tmp 44)) 45 43 262143,gf (.mv (.tmp 2)) 46 43 131071,gf (.bin .geq (.tmp 45) (.tmp 46)) 47 43 1048575,pk' 43 47 48 2097151]
def ycqk:LO:=[mb false 6 0]
def ydci:LO:=[fa' 0 1 9 49 0,ld' 1 49 50 1,mv' 50 7 3]
def ycen:LO:=[bc .add 23 1 51 0,mv' 51 23 1]
def yble:LO:=[mb true 6 0]
def c180:SC:=(sr ydcq <| .seq (sr ydbc <| cn 20 (sr ydpz <| .ret) .skip) (sr ydcn <| .seq (sr ycvg <| .block 0 (.loop (sr yccm <| .seq (cn 24 .skip (.exit 0)) (.seq (.block 1 (sr ycta <| .seq (sr ydbf <| cn 48 (sr ycqk <| .ret) .skip) (.reg false ydci))) (.reg false ycen))))) (sr yble <| .ret)))
theorem ydfy:Fn 180 c180 [.t 6]:=fn_0 Tryz.func180
def ydut:LO:=[bx' 32 0 3 0,bx' 27 1 4 0,o3 (.alloc 41 1 [.a (.slice none 0 0),.a (.slice none 0 0)]) 6 0,mc 0 7 0]
def ydoe:LO:=[la' 3 3 20 0,la' 2 4 21 0,cl' 56 [20,21] 22 3,mv' 22 19 7,xt' 19 0 23 15,xt' 19 1 24 15,mv' 23 8 31,mv' 24 9 127]
def yebo:LO:=[mv' 9 25 0,bc .neq 25 0 26 1,mv' 26 27 3,gt (.mv (.tmp 9)) 28 27 7,gt (.bin .neq (.tmp 28) (ci' 3)) 29 27 15,o3 (.pick (.tmp 27) (.tmp 29) (.const (.bool false))) 30 31]
def yecu:LO:=[o3 (.build [.a (.slice none 0 0),.a (.slice none 0 0)] []) 31 0,mv' 9 32 0,sto 2 6 31 1,mv' 32 7 7]
def ydyr:LO:=[mv' 2 33 0,cl' 57 [33] 34 1,o3 (.un .not (.tmp 34)) 35 3]
def yeds:LO:=[o3 (.build [.a (.slice none 0 0),.a (.slice none 0 0)] []) 36 0,sto 2 6 36 1,mc 12 7 3]
def ydua:LO:=[mv' 9 37 0,bc .neq 37 0 38 1]
def yecl:LO:=[o3 (.build [.a (.slice none 0 0),.a (.slice none 0 0)] []) 39 0,mv' 9 40 0,sto 2 6 39 1,mv' 40 7 7]
def ydyc:LO:=[la' 3 3 41 0,la' 2 4 42 0,mv' 2 43 0,cl' 58 [41,42,43] 44 7,mv' 44 10 15]
def ydrw:LO:=[mv' 8 45 0,o3 (.mk 77 1 4 [.i .u32 0] (.tmp 45) (.tmp 45)) 46 1,mv' 8 47 0,o3 (.mk 78 1 24 [.a (.slice none 0 0)] (.tmp 47) (.tmp 47)) 48 4,o3 (.build [.a (.slice none 0 0),.a (.slice none 0 0)] [(0,1,(.tmp 46)),(1,1,(.tmp 48))]) 49 15,o3 (.alloc 41 1 [.a (.slice none 0 0),.a (.slice none 0 0)]) 11 0,sto 2 11 49 63]
def yczx:LO:=[la' 3 3 51 0,la' 2 4 52 0,cl' 59 [51,52] 53 3,mv' 53 50 7,xt' 50 0 54 15,xt' 50 1 55 15,mv' 54 12 31,mv' 55 13 127]
def ydap:LO:=[mc 0 14 0]
def yddx:LO:=[mv' 8 56 0,mc 0 57 0]
def ycgb:LO:=[bn' .lss 57 56 58 0]
def ycqt:LO:=[mv' 57 59 0,mv' 59 15 1]
def ycxp:LO:=[mv' 10 61 0,mv' 12 62 0,mv' 15 63 0,cl' 60 [61,62,63] 64 7,mv' 64 60 15,xt' 60 0 65 31,xt' 60 1 66 31,xt' 60 2 67 31,mv' 65 16 63,mv' 66 17 383,mv' 67 18 1023]
def ydcr:LO:=[mv' 14 68 0,mv' 17 69 0,ln' 69 70 2,bn' .add 68 70 71 7,mv' 71 14 15]
def ycyh:LO:=[mv' 18 72 0,bc .neq 72 0 73 1,mv' 73 74 3,gf (.mv (.tmp 14)) 75 74 7,gf (.bin .gtr (.tmp 75) (ci' 262144)) 76 74 15,pk' 74 76 77 31]
def ydsm:LO:=[o3 (.build [.a (.slice none 0 0),.a (.slice none 0 0)] []) 78 0,sto 2 6 78 1,mc 3 7 3]
def ycru:LO:=[fa' 0 1 11 79 0,ld' 1 79 80 1,mv' 15 81 0,fa' 1 1 11 82 0,ld' 1 82 83 8,mv' 15 84 0,mv' 16 85 0,mv' 17 86 0,ix' 1 80 81 87 71,sto 1 87 85 327,ix' 1 83 84 88 1023,sto 1 88 86 2047]
def ycsj:LO:=[mv' 10 89 0,nk' 89 90 1,fa' 3 1 90 91 3,ld' 1 91 92 7,mv' 12 93 0,cl' 61 [92,93] 94 31]
def ycya:LO:=[bc .add 57 1 95 0,mv' 95 57 1]
def ydak:LO:=[la' 2 11 96 0,sto 2 6 96 1,mc 0 7 3]
def c14:SC:=(sr ydut <| sr ydoe <| .seq (sr yebo <| cn 30 (sr yecu <| .ret) .skip) (.seq (sr ydyr <| cn 35 (sr yeds <| .ret) .skip) (.seq (sr ydua <| cn 38 (sr yecl <| .ret) .skip) (sr ydyc <| .seq (.reg true ydrw) (sr yczx <| sr ydap <| .seq (sr yddx <| .block 0 (.loop (sr ycgb <| .seq (cn 58 .skip (.exit 0)) (.seq (.block 1 (sr ycqt <| sr ycxp <| sr ydcr <| .seq (sr ycyh <| cn 77 (sr ydsm <| .ret) .skip) (.seq (.reg true ycru) (.reg false ycsj)))) (.reg false ycya))))) (sr ydak <| .ret))))))
theorem ydfj:FnU 14 c14 [.c 6 true 2,.t 7]:=fn_u Tryz.func14
def ydur:LO:=[bx' 32 0 3 0,bx' 27 1 4 0,o3 (.mv (.const (.pointer none))) 6 0]
def ydvc:LO:=[la' 3 3 11 0,la' 2 4 12 0,cl' 123 [11,12] 13 3,la' 2 4 14 0,cl' 124 [14] 15 15,mv' 2 16 0,la' 3 3 17 0,la' 2 4 18 0,cl' 63 [17,18] 19 223,o3 (.build [.a (.pointer none),.a (.slice none 0 0),.i .i64 0,.a (.slice none 0 0),.a (.slice none 0 0)] [(0,1,(.tmp 13)),(1,1,(.tmp 15)),(2,1,(.tmp 16)),(3,1,(.tmp 19))]) 20 511,bx' 86 20 21 1023,mv' 21 7 2047]
def ydwd:LO:=[mv' 7 22 0,mv' 7 23 0,nk' 23 24 2,fa' 3 1 24 25 6,ld' 1 25 26 14,ln' 26 27 30,o3 (.mk 22 1 24 [.a (.slice none 0 0)] (.tmp 27) (.tmp 27)) 28 62,nk' 22 29 127,fa' 4 1 29 30 255,sto 1 30 28 511]
def ydoh:LO:=[mc 1 8 0]
def ydwf:LO:=[mv' 7 31 0,nk' 31 32 1,fa' 3 1 32 33 3,ld' 1 33 34 7,ln' 34 35 15,bc .sub 35 1 36 31,mv' 36 9 63]
def ydih:LO:=[mv' 9 37 0,bc .geq 37 0 38 1]
def ydyj:LO:=[mv' 7 41 0,nk' 41 42 1,fa' 4 1 42 43 3,ld' 1 43 44 7,mv' 9 45 0,mv' 7 46 0,nk' 46 47 32,fa' 3 1 47 48 96,ld' 1 48 49 224,mv' 9 50 0,ix' 1 49 50 51 992,ld' 1 51 52 2016,ln' 52 53 4064,o3 (.mk 3 1 8 [.i .i64 0] (.tmp 53) (.tmp 53)) 54 8160,ix' 1 44 45 55 16383,sto 1 55 54 32767]
def yean:LO:=[mv' 7 56 0,nk' 56 57 1,fa' 3 1 57 58 3,ld' 1 58 59 7,mv' 9 60 0,ix' 1 59 60 61 31,ld' 1 61 62 63,ln' 62 63 127,bc .sub 63 1 64 255,mv' 64 10 511]
def ydga:LO:=[mv' 10 65 0,bc .geq 65 0 66 1]
def ycuv:LO:=[mv' 7 69 0,nk' 69 70 1,fa' 4 1 70 71 3,ld' 1 71 72 7,mv' 9 73 0,ix' 1 72 73 74 31,ld' 1 74 75 63,mv' 10 76 0,mv' 8 77 0,ix' 1 75 76 78 511,sto 1 78 77 1023]
def ycso:LO:=[mv' 8 79 0,mv' 7 80 0,nk' 80 81 2,fa' 3 1 81 82 6,ld' 1 82 83 14,mv' 9 84 0,ix' 1 83 84 85 62,ld' 1 85 86 126,mv' 10 87 0,ix' 2 86 87 88 510,o3 (.idxA 2 1 (.tmp 88) (ci' 1)) 89 1022,ld' 1 89 90 2046,mv' 7 91 0,nk' 91 92 4096,fa' 3 1 92 93 12288,ld' 1 93 94 28672,mv' 9 95 0,ix' 1 94 95 96 126976,ld' 1 96 97 258048,mv' 10 98 0,ix' 2 97 98 99 1044480,o3 (.idxA 2 1 (.tmp 99) (ci' 0)) 100 2093056,ld' 1 100 101 4190208,bn' .sub 90 101 102 8388606,bc .add 102 1 103 16777214,bn' .mul 79 103 104 33554431,mv' 104 8 67108863]
def ycul:LO:=[mv' 10 67 0,bc .sub 67 1 68 1,mv' 68 10 3]
def ydri:LO:=[mv' 9 39 0,bc .sub 39 1 40 1,mv' 40 9 3]
def ycxw:LO:=[mv' 7 105 0,mv' 105 6 1]
def c58:SC:=(sr ydur <| .seq (.reg true ydvc) (sr ydwd <| sr ydoh <| .seq (sr ydwf <| .block 0 (.loop (.seq (sr ydih <| cn 38 .skip (.exit 0)) (.seq (.block 1 (.seq (.reg true ydyj) (sr yean <| .block 2 (.loop (.seq (sr ydga <| cn 66 .skip (.exit 2)) (.seq (.block 3 (sr ycuv <| .reg true ycso)) (.reg false ycul))))))) (.reg false ydri))))) (sr ycxw <| .ret)))
theorem ydwz:Fn 58 c58 [.t 6]:=fn_0 Tryz.func58
def ydyb:LO:=[o3 (.mv (.const (.int .u32 0))) 6 0,nl' 7 1,mc 0 8 3]
def ydrf:LO:=[o3 (.mv (.const (.int .u32 0))) 9 0]
def yeaq:LO:=[o3 (.alloc 150 24 [.i .i64 0]) 10 0]
def ydne:LO:=[mv' 1 21 0,ln' 21 22 1,mc 0 23 0]
def ycoy:LO:=[bn' .lss 23 22 24 0]
def ydif:LO:=[mv' 23 25 0,mv' 25 11 1]
def ydkc:LO:=[mv' 0 26 0,nk' 26 27 1,fa' 0 1 27 28 3,ld' 1 28 29 7,mv' 1 30 0,mv' 11 31 0,cl' 126 [29,30,31] 32 63,mv' 32 12 127]
def ydja:LO:=[mv' 12 33 0,bc .lss 33 0 34 1]
def ydnq:LO:=[mv' 9 35 0,mv' 11 36 0,o3 (.bin .shl (.const (.int .u32 1)) (.tmp 36)) 37 2,bn' .or 35 37 38 7,mv' 38 9 15]
def ydmy:LO:=[mv' 0 39 0,nk' 39 40 1,fa' 0 1 40 41 3,ld' 1 41 42 7,mv' 1 43 0,mv' 11 44 0,mv' 12 45 0,cl' 127 [42,43,44,45] 46 127,ln' 46 47 255,mc 0 48 0]
def ybxe:LO:=[bn' .lss 48 47 49 0]
def ycyn:LO:=[mv' 48 50 0,ix' 1 46 48 51 0,ld' 1 51 52 2,mv' 50 13 7,mv' 52 14 15]
def yczn:LO:=[mv' 11 53 0,o3 (.idxA 24 1 (.tmp 10) (.tmp 53)) 54 1,ld' 1 54 55 3,mv' 14 56 0,mv' 1 57 0,mv' 11 58 0,ix' 1 57 58 59 48,ld' 1 59 60 112,mv' 13 61 0,ix' 1 60 61 62 496,ld' 1 62 63 1008,bn' .sub 56 63 64 2040,mv' 0 65 0,nk' 65 66 4096,fa' 4 1 66 67 12288,ld' 1 67 68 28672,mv' 11 69 0,ix' 1 68 69 70 126976,ld' 1 70 71 258048,mv' 13 72 0,ix' 1 71 72 73 1044480,ld' 1 73 74 2093056,bn' .mul 64 74 75 4194296,bn' .add 55 75 76 8388607,o3 (.idxA 24 1 (.tmp 10) (.tmp 53)) 77 16777215,sto 1 77 76 33554431]
def ycrq:LO:=[bc .add 48 1 78 0,mv' 78 48 1]
def ycdi:LO:=[bc .add 23 1 79 0,mv' 79 23 1]
def ycsm:LO:=[mv' 0 81 0,nk' 81 82 1,fa' 1 1 82 83 3,ld' 1 83 84 7,mv' 0 85 0,nk' 85 86 16,fa' 2 1 86 87 48,ld' 1 87 88 112,mv' 9 89 0,cl' 128 [84,88,89] 90 511,mv' 90 80 1023,xt' 80 0 91 2047,xt' 80 1 92 2047,mv' 91 15 4095,mv' 92 16 16383]
def yddz:LO:=[mv' 16 93 0,bc .neq 93 0 94 1]
def ydpb:LO:=[mv' 16 95 0,o3 (.mv (.const (.int .u32 0))) 6 0,nl' 7 2,mv' 95 8 7]
def yddk:LO:=[mv' 15 96 0,ln' 96 97 1,o3 (.mk 103 2 16 [.i .u32 0,.i .i64 0] (.tmp 97) (.tmp 97)) 98 3,o3 (.alloc 78 1 [.a (.slice none 0 0)]) 17 0,sto 1 17 98 15]
def ycsr:LO:=[mv' 15 99 0,ln' 99 100 1,mc 0 101 0]
def ycap:LO:=[bn' .lss 101 100 102 0]
def ycvf:LO:=[mv' 101 103 0,ix' 1 99 101 104 0,ld' 1 104 105 2,o3 (.alloc 3 1 [.i .i64 0]) 18 0,sto 1 18 103 15,mv' 105 19 31]
def yddc:LO:=[ld' 1 17 106 0,ld' 1 18 107 0,mv' 19 108 0,mv' 2 109 0,o3 (.build [.i .u32 0,.i .i64 0] [(0,1,(.tmp 108)),(1,1,(.tmp 109))]) 110 12,ix' 2 106 107 111 31,sto 2 111 110 63]
def ycwb:LO:=[mv' 19 112 0,cl' 129 [112] 113 1]
def ycvh:LO:=[mv' 114 20 0]
def ycql:LO:=[ld' 1 17 115 0,ld' 1 18 116 0,ix' 2 115 116 117 3,fa' 1 1 117 118 7,ld' 1 118 119 15,mv' 20 120 0,o3 (.idxA 24 1 (.tmp 10) (.tmp 120)) 121 32,ld' 1 121 122 96,bn' .add 119 122 123 255,ix' 2 115 116 124 511,fa' 1 1 124 125 1023,sto 1 125 123 2047]
def ycwl:LO:=[bc .add 101 1 126 0,mv' 126 101 1]
def yczz:LO:=[mv' 9 127 0,ld' 1 17 128 0,mv' 127 6 1,mv' 128 7 7,mc 0 8 15]
def c60:SC:=(sr ydyb <| sr ydrf <| sr yeaq <| .seq (sr ydne <| .block 0 (.loop (sr ycoy <| .seq (cn 24 .skip (.exit 0)) (.seq (.block 1 (sr ydif <| sr ydkc <| .seq (sr ydja <| cn 34 (.exit 1) .skip) (sr ydnq <| sr ydmy <| .block 2 (.loop (sr ybxe <| .seq (cn 49 .skip (.exit 2)) (.seq (.block 3 (sr ycyn <| .reg true yczn)) (.reg false ycrq))))))) (.reg false ycdi))))) (.seq (.reg true ycsm) (.seq (sr yddz <| cn 94 (sr ydpb <| .ret) .skip) (sr yddk <| .seq (sr ycsr <| .block 4 (.loop (sr ycap <| .seq (cn 102 .skip (.exit 4)) (.seq (.block 5 (sr ycvf <| sr yddc <| sr ycwb <| .block 6 (.range (.tmp 113) [114] (.reg false ycvh) (.block 7 (.reg true ycql))))) (.reg false ycwl))))) (.seq (.reg true yczz) .ret)))))
theorem ydjt:FnM 60 c60 [.t 6,.t 7,.t 8]:=fn_m Tryz.func60
def ycee:LO:=[nl' 6 0,mc 0 7 1]
def ycgu:LO:=[mv' 2 11 0,o3 (.bin .eql (.tmp 11) (.const (.int .u32 0))) 12 1]
def ycrv:LO:=[nl' 6 0,mc 0 7 1]
def ycxl:LO:=[o3 (.alloc 38 1 [.a (.slice none 0 0)]) 8 0]
def ydcx:LO:=[mv' 1 13 0]
def ycpy:LO:=[bc .eql 13 1 15 0,mv' 15 14 1]
def yeau:LO:=[mv' 2 16 0,cl' 129 [16] 17 1]
def yebp:LO:=[mv' 18 9 0]
def ydzj:LO:=[ld' 1 8 19 0,mv' 9 20 0,o3 (.bin .shl (.const (.int .u32 1)) (.tmp 20)) 21 2,o3 (.bslice 77 1 1 [.i .u32 0] [(0,1,(.tmp 21))]) 22 6,o3 (.app 77 1 4 (.tmp 19) (.tmp 22)) 23 15,sto 1 8 23 31]
def ydvu:LO:=[ld' 1 8 24 0,mv' 24 6 1,mc 0 7 3]
def ycft:LO:=[bc .eql 13 4 26 0,mv' 26 25 1]
def ydgu:LO:=[mv' 2 27 0,o3 (.bslice 77 1 1 [.i .u32 0] [(0,1,(.tmp 27))]) 28 1,mv' 28 6 3,mc 0 7 7]
def ycgc:LO:=[mv' 2 29 0,cl' 113 [29] 30 1,bc .gtr 30 10 31 3]
def ydfh:LO:=[nl' 6 0,mc 3 7 1]
def ycao:LO:=[mv' 2 32 0,o3 (.un .neg (.tmp 32)) 33 1,mv' 2 34 0,bn' .and 33 34 35 7,mv' 35 10 15]
def ybjy:LO:=[mv' 10 36 0,o3 (.bin .neq (.tmp 36) (.const (.int .u32 0))) 37 1]
def ybwl:LO:=[mv' 0 43 0,mv' 1 44 0,mv' 2 45 0,mv' 10 46 0,cl' 171 [43,44,45,46] 47 15]
def ycbm:LO:=[ld' 1 8 48 0,mv' 10 49 0,o3 (.bslice 77 1 1 [.i .u32 0] [(0,1,(.tmp 49))]) 50 2,o3 (.app 77 1 4 (.tmp 48) (.tmp 50)) 51 7,sto 1 8 51 15]
def ybmj:LO:=[mv' 10 38 0,mv' 2 39 0,o3 (.wsub (.tmp 38) (.tmp 39)) 40 3,mv' 2 41 0,bn' .and 40 41 42 15,mv' 42 10 31]
def ybxq:LO:=[ld' 1 8 52 0,mv' 52 6 1,mc 0 7 3]
def c128:SC:=(sr ycee <| .seq (sr ycgu <| cn 12 (sr ycrv <| .ret) .skip) (sr ycxl <| .seq (sr ydcx <| .block 0 (sr ycpy <| cn 14 (.seq (sr yeau <| .block 1 (.range (.tmp 17) [18] (.reg false yebp) (.block 2 (.reg true ydzj)))) (sr ydvu <| .ret)) (sr ycft <| cn 25 (sr ydgu <| .ret) .skip))) (.seq (sr ycgc <| cn 31 (sr ydfh <| .ret) .skip) (.seq (sr ycao <| .block 3 (.loop (.seq (sr ybjy <| cn 37 .skip (.exit 3)) (.seq (.block 4 (sr ybwl <| cn 47 (.reg false ycbm) .skip)) (.reg false ybmj))))) (sr ybxq <| .ret)))))
theorem ydgk:Fn 128 c128 [.t 6,.t 7]:=fn_0 Tryz.func128
def ydot:LO:=[bx' 41 0 2 0,mc 0 4 0]
def ydoj:LO:=[la' 2 2 5 0,cl' 136 [5] 6 1,o3 (.un .not (.tmp 6)) 7 3]
def yecv:LO:=[mc 13 4 0]
def ydon:LO:=[mv' 1 8 0,ln' 8 9 1,fa' 0 1 2 10 0,ld' 1 10 11 4,ln' 11 12 12,bn' .neq 9 12 13 31]
def yeej:LO:=[mc 7 4 0]
def ydxg:LO:=[mc 0 4 0]
def c73:SC:=(sr ydot <| .seq (sr ydoj <| cn 7 (sr yecv <| .ret) .skip) (.seq (sr ydon <| cn 13 (sr yeej <| .ret) .skip) (sr ydxg <| .ret)))
theorem ydnf:Fn 73 c73 [.t 4]:=fn_0 Tryz.func73
def ydql:LO:=[bx' 41 0 2 0,mb false 4 0,mc 0 5 2]
def ydsj:LO:=[la' 2 2 11 0,mv' 1 12 0,cl' 73 [11,12] 13 3,mv' 13 6 7]
def yebn:LO:=[mv' 6 14 0,bc .neq 14 0 15 1]
def yect:LO:=[mv' 6 16 0,mb false 4 0,mv' 16 5 3]
def ydpx:LO:=[fa' 1 1 2 17 0,ld' 1 17 18 1,ln' 18 19 3,mc 0 20 0]
def ycjr:LO:=[bn' .lss 20 19 21 0]
def ydji:LO:=[mv' 20 22 0,ix' 1 18 20 23 0,ld' 1 23 24 2,mv' 22 7 7,mv' 24 8 15]
def ydfs:LO:=[mv' 1 25 0,mv' 7 26 0,ix' 1 25 26 27 3,ld' 1 27 28 7,o3 (.un .not (.tmp 28)) 29 15]
def ydtw:LO:=[mv' 8 30 0,ln' 30 31 1,mc 0 32 0]
def yduz:LO:=[bn' .lss 32 31 33 0]
def yeab:LO:=[ix' 2 30 32 34 0,la' 2 34 35 1,o3 (.alloc 103 1 [.i .u32 0,.i .i64 0]) 10 0,sto 2 10 35 7]
def ydqh:LO:=[mv' 1 36 0,fa' 1 1 10 37 0,ld' 1 37 38 2,ix' 1 36 38 39 7,ld' 1 39 40 15,o3 (.un .not (.tmp 40)) 41 31]
def yeak:LO:=[mb false 4 0,mc 0 5 1]
def ydsc:LO:=[bc .add 32 1 42 0,mv' 42 32 1]
def ycgx:LO:=[bc .add 20 1 43 0,mv' 43 20 1]
def ydec:LO:=[mb true 4 0,mc 0 5 1]
def c18:SC:=(sr ydql <| .seq (sr ydsj <| sr yebn <| cn 15 (sr yect <| .ret) .skip) (.seq (sr ydpx <| .block 0 (.loop (sr ycjr <| .seq (cn 21 .skip (.exit 0)) (.seq (.block 1 (sr ydji <| .seq (sr ydfs <| cn 29 (.exit 1) .skip) (sr ydtw <| .block 2 (.loop (sr yduz <| .seq (cn 33 .skip (.exit 2)) (.seq (.block 3 (sr yeab <| sr ydqh <| cn 41 (sr yeak <| .ret) .skip)) (.reg false ydsc))))))) (.reg false ycgx))))) (sr ydec <| .ret)))
theorem ydrp:Fn 18 c18 [.t 4,.t 5]:=fn_0 Tryz.func18
def yddd:LO:=[bx' 41 0 1 0,nl' 2 0]
def ycwu:LO:=[fa' 1 1 1 8 0,ld' 1 8 9 1,ln' 9 10 3,o3 (.mk 22 1 24 [.a (.slice none 0 0)] (.tmp 10) (.tmp 10)) 11 7,mv' 11 3 15]
def ydco:LO:=[fa' 1 1 1 12 0,ld' 1 12 13 1,ln' 13 14 3,mc 0 15 0]
def ycdr:LO:=[bn' .lss 15 14 16 0]
def ycsu:LO:=[mv' 15 17 0,ix' 1 13 15 18 0,ld' 1 18 19 2,mv' 17 4 7,mv' 19 5 15]
def ycvy:LO:=[mv' 5 20 0,ln' 20 21 1,mc 0 22 0]
def ybqb:LO:=[bn' .lss 22 21 23 0]
def ybxr:LO:=[ix' 2 20 22 24 0,la' 2 24 25 1,o3 (.alloc 103 1 [.i .u32 0,.i .i64 0]) 7 0,sto 2 7 25 7]
def yccu:LO:=[mv' 3 26 0,fa' 1 1 7 27 0,ld' 1 27 28 2,mv' 3 29 0,fa' 1 1 7 30 0,ld' 1 30 31 16,ix' 1 29 31 32 56,ld' 1 32 33 120,mv' 4 34 0,o3 (.bslice 3 1 1 [.i .i64 0] [(0,1,(.tmp 34))]) 35 256,o3 (.app 3 1 8 (.tmp 33) (.tmp 35)) 36 1016,ix' 1 26 28 37 2047,sto 1 37 36 4095]
def ychk:LO:=[bc .add 22 1 38 0,mv' 38 22 1]
def ybbz:LO:=[bc .add 15 1 39 0,mv' 39 15 1]
def ychz:LO:=[mv' 3 40 0,mv' 40 2 1]
def c179:SC:=(sr yddd <| sr ycwu <| .seq (sr ydco <| .block 0 (.loop (sr ycdr <| .seq (cn 16 .skip (.exit 0)) (.seq (.block 1 (sr ycsu <| sr ycvy <| .block 2 (.loop (sr ybqb <| .seq (cn 23 .skip (.exit 2)) (.seq (.block 3 (sr ybxr <| .reg true yccu)) (.reg false ychk)))))) (.reg false ybbz))))) (sr ychz <| .ret))
theorem ydhv:Fn 179 c179 [.t 2]:=fn_0 Tryz.func179
def yctl:LO:=[bx' 41 0 2 0,nl' 4 0]
def yczj:LO:=[nl' 5 0]
def ydcc:LO:=[mv' 1 13 0,ln' 13 14 1,mc 0 15 0]
def yboo:LO:=[bn' .lss 15 14 16 0]
def yccs:LO:=[mv' 15 17 0,ix' 1 13 15 18 0,ld' 1 18 19 2,mv' 17 6 7,mv' 19 7 15]
def ybzb:LO:=[mv' 7 20 0]
def ybyn:LO:=[mv' 5 21 0,mv' 6 22 0,o3 (.bslice 3 1 1 [.i .i64 0] [(0,1,(.tmp 22))]) 23 2,o3 (.app 3 1 8 (.tmp 21) (.tmp 23)) 24 7,mv' 24 5 15]
def ycce:LO:=[bc .add 15 1 25 0,mv' 25 15 1]
def ydbs:LO:=[la' 2 2 26 0,cl' 179 [26] 27 1,mv' 27 8 3]
def ycuw:LO:=[mv' 1 28 0,ln' 28 29 1,o3 (.mk 3 1 8 [.i .i64 0] (.tmp 29) (.tmp 29)) 30 3,mv' 30 9 7]
def ybxw:LO:=[mc 0 10 0]
def ybml:LO:=[mv' 10 31 0,mv' 5 32 0,ln' 32 33 2,bn' .lss 31 33 34 7]
def ycik:LO:=[mv' 8 37 0,mv' 5 38 0,mv' 10 39 0,ix' 1 38 39 40 6,ld' 1 40 41 14,ix' 1 37 41 42 31,ld' 1 42 43 63,ln' 43 44 127,mc 0 45 0]
def yxu:LO:=[bn' .lss 45 44 46 0]
def ybco:LO:=[ix' 1 43 45 47 0,ld' 1 47 48 1,mv' 48 12 3]
def ybdp:LO:=[mv' 9 49 0,mv' 12 50 0,ix' 1 49 50 51 3,ld' 1 51 52 7,bc .add 52 1 53 15,ix' 1 49 50 54 31,sto 1 54 53 63]
def ybcp:LO:=[mv' 1 55 0,mv' 12 56 0,ix' 1 55 56 57 3,ld' 1 57 58 7,o3 (.un .not (.tmp 58)) 59 15,mv' 59 60 31,gt (.mv (.tmp 9)) 61 60 63,gt (.mv (.tmp 12)) 62 60 63,gt (.idx 1 (.tmp 61) (.tmp 62)) 63 60 255,gt (.load false 1 (.tmp 63)) 64 60 511,gt (.faddr 1 1 (.tmp 2)) 65 60 63,gt (.load false 1 (.tmp 65)) 66 60 1087,gt (.mv (.tmp 12)) 67 60 63,gt (.idx 1 (.tmp 66) (.tmp 67)) 68 60 7231,gt (.load false 1 (.tmp 68)) 69 60 15423,gt (.len (.tmp 69)) 70 60 31807,gt (.bin .eql (.tmp 64) (.tmp 70)) 71 60 65535,o3 (.pick (.tmp 60) (.tmp 71) (.const (.bool false))) 72 131071]
def ycan:LO:=[mv' 5 73 0,mv' 12 74 0,o3 (.bslice 3 1 1 [.i .i64 0] [(0,1,(.tmp 74))]) 75 2,o3 (.app 3 1 8 (.tmp 73) (.tmp 75)) 76 7,mv' 76 5 15]
def ybdr:LO:=[bc .add 45 1 77 0,mv' 77 45 1]
def ybwd:LO:=[mv' 10 35 0,bc .add 35 1 36 1,mv' 36 10 3]
def ycch:LO:=[mv' 5 78 0,mv' 78 4 1]
def c135:SC:=(sr yctl <| sr yczj <| .seq (sr ydcc <| .block 0 (.loop (sr yboo <| .seq (cn 16 .skip (.exit 0)) (.seq (.block 1 (sr yccs <| sr ybzb <| cn 20 (.reg false ybyn) .skip)) (.reg false ycce))))) (sr ydbs <| sr ycuw <| .seq (sr ybxw <| .block 2 (.loop (.seq (sr ybml <| cn 34 .skip (.exit 2)) (.seq (.block 3 (sr ycik <| .block 4 (.loop (sr yxu <| .seq (cn 46 .skip (.exit 4)) (.seq (.block 5 (sr ybco <| sr ybdp <| .seq (.reg true ybcp) (cn 72 (.reg false ycan) .skip))) (.reg false ybdr)))))) (.reg false ybwd))))) (sr ycch <| .ret)))
theorem ydma:Fn 135 c135 [.t 4]:=fn_0 Tryz.func135
def ydob:LO:=[bx' 41 0 2 0,nl' 4 0,mc 0 5 2]
def ydmx:LO:=[la' 2 2 10 0,mv' 1 11 0,cl' 73 [10,11] 12 3,mv' 12 6 7]
def yduc:LO:=[mv' 6 13 0,bc .neq 13 0 14 1]
def yedr:LO:=[mv' 6 15 0,nl' 4 0,mv' 15 5 3]
def ydsf:LO:=[mv' 1 16 0,ln' 16 17 1,o3 (.mk 4 1 1 [.b false] (.tmp 17) (.tmp 17)) 18 3,mv' 18 7 7]
def ydyo:LO:=[la' 2 2 19 0,mv' 1 20 0,cl' 135 [19,20] 21 3,ln' 21 22 7,mc 0 23 0]
def ydgw:LO:=[bn' .lss 23 22 24 0]
def yduw:LO:=[ix' 1 21 23 25 0,ld' 1 25 26 1,mv' 26 9 3]
def ydty:LO:=[mv' 7 27 0,mv' 9 28 0,ix' 1 27 28 29 3,o0 (.store 1 (.tmp 29) (.const (.bool true))) 7]
def yebb:LO:=[bc .add 23 1 30 0,mv' 30 23 1]
def ycrg:LO:=[mv' 7 31 0,mv' 31 4 1,mc 0 5 3]
def c72:SC:=(sr ydob <| .seq (sr ydmx <| sr yduc <| cn 14 (sr yedr <| .ret) .skip) (sr ydsf <| .seq (sr ydyo <| .block 0 (.loop (sr ydgw <| .seq (cn 24 .skip (.exit 0)) (.seq (.block 1 (sr yduw <| .reg false ydty)) (.reg false yebb))))) (sr ycrg <| .ret)))
theorem ydhs:FnM 72 c72 [.t 4,.t 5]:=fn_m Tryz.func72
def ydzr:LO:=[bx' 41 0 2 0,nl' 4 0,mc 0 5 2]
def ydqe:LO:=[la' 2 2 10 0,mv' 1 11 0,cl' 72 [10,11] 12 3,mv' 12 9 7,xt' 9 0 13 15,xt' 9 1 14 15,mv' 13 6 31,mv' 14 7 127]
def ydro:LO:=[mv' 7 15 0,bc .neq 15 0 16 1]
def yedk:LO:=[mv' 7 17 0,nl' 4 0,mv' 17 5 3]
def ydti:LO:=[mv' 6 18 0,ln' 18 19 1,mc 0 20 0]
def ydin:LO:=[bn' .lss 20 19 21 0]
def yebm:LO:=[mv' 20 22 0,mv' 22 8 1]
def ydoi:LO:=[mv' 6 23 0,mv' 8 24 0,mv' 6 25 0,mv' 8 26 0,ix' 1 25 26 27 12,ld' 1 27 28 28,o3 (.un .not (.tmp 28)) 29 60,ix' 1 23 24 30 127,sto 1 30 29 255]
def ydrl:LO:=[bc .add 20 1 31 0,mv' 31 20 1]
def ydtf:LO:=[mv' 6 32 0,mv' 32 4 1,mc 0 5 3]
def c17:SC:=(sr ydzr <| sr ydqe <| .seq (sr ydro <| cn 16 (sr yedk <| .ret) .skip) (.seq (sr ydti <| .block 0 (.loop (sr ydin <| .seq (cn 21 .skip (.exit 0)) (.seq (.block 1 (sr yebm <| .reg false ydoi)) (.reg false ydrl))))) (sr ydtf <| .ret)))
theorem ydiy:FnU 17 c17 [.t 4,.t 5]:=fn_u Tryz.func17
def yeae:LO:=[bx' 41 0 2 0,nl' 4 0,mc 0 5 2]
def ydmz:LO:=[la' 2 2 8 0,mv' 1 9 0,cl' 73 [8,9] 10 3,mv' 10 6 7]
def ydpw:LO:=[mv' 6 11 0,bc .neq 11 0 12 1]
def yecr:LO:=[mv' 6 13 0,nl' 4 0,mv' 13 5 3]
def ydqz:LO:=[la' 2 2 14 0,mv' 1 15 0,cl' 135 [14,15] 16 3,mv' 16 7 7]
def ydux:LO:=[mv' 7 17 0,ln' 17 18 1,mv' 1 19 0,ln' 19 20 4,bn' .lss 18 20 21 15]
def yebx:LO:=[nl' 4 0,mc 14 5 1]
def ydus:LO:=[mv' 7 22 0,mv' 22 4 1,mc 0 5 3]
def c74:SC:=(sr yeae <| .seq (sr ydmz <| sr ydpw <| cn 12 (sr yecr <| .ret) .skip) (sr ydqz <| .seq (sr ydux <| cn 21 (sr yebx <| .ret) .skip) (sr ydus <| .ret)))
theorem ydph:Fn 74 c74 [.t 4,.t 5]:=fn_0 Tryz.func74
def ydyy:LO:=[bx' 41 0 3 0,nl' 6 0,mc 0 7 2]
def ydrr:LO:=[la' 2 3 16 0,mv' 1 17 0,cl' 74 [16,17] 18 3,mv' 18 15 7,xt' 15 0 19 15,xt' 15 1 20 15,mv' 19 8 31,mv' 20 9 127]
def ydou:LO:=[mv' 9 21 0,bc .neq 21 0 22 1]
def yedi:LO:=[mv' 9 23 0,nl' 6 0,mv' 23 7 3]
def ydyu:LO:=[mv' 1 24 0,ln' 24 25 1,o3 (.mk 3 1 8 [.i .i64 0] (.tmp 25) (.tmp 25)) 26 3,mv' 26 10 7]
def ydqc:LO:=[mv' 8 27 0,ln' 27 28 1,mc 0 29 0]
def ycjw:LO:=[bn' .lss 29 28 30 0]
def ydju:LO:=[ix' 1 27 29 31 0,ld' 1 31 32 1,mv' 32 12 3]
def ydfm:LO:=[mv' 1 33 0,mv' 12 34 0,ix' 1 33 34 35 3,ld' 1 35 36 7]
def ydvq:LO:=[fa' 1 1 3 37 0,ld' 1 37 38 1,mv' 12 39 0,ix' 1 38 39 40 7,ld' 1 40 41 15,ln' 41 42 31,mc 0 43 0]
def ycfl:LO:=[bn' .lss 43 42 44 0]
def ydae:LO:=[ix' 2 41 43 45 0,la' 2 45 46 1,o3 (.alloc 103 1 [.i .u32 0,.i .i64 0]) 14 0,sto 2 14 46 7]
def ydch:LO:=[mv' 10 47 0,mv' 12 48 0,mv' 10 49 0,mv' 12 50 0,ix' 1 49 50 51 12,ld' 1 51 52 28,mv' 2 53 0,la' 2 14 54 0,o3 (.call (.tmp 53) [(.tmp 54)]) 55 192,mv' 10 56 0,fa' 1 1 14 57 0,ld' 1 57 58 1024,ix' 1 56 58 59 3584,ld' 1 59 60 7680,bn' .add 55 60 61 16320,o3 (.mm true (.tmp 52) (.tmp 61)) 62 32764,ix' 1 47 48 63 65535,sto 1 63 62 131071]
def ycxv:LO:=[bc .add 43 1 64 0,mv' 64 43 1]
def yceg:LO:=[bc .add 29 1 65 0,mv' 65 29 1]
def ycsq:LO:=[mv' 10 66 0,mv' 66 6 1,mc 0 7 3]
def c77:SC:=(sr ydyy <| sr ydrr <| .seq (sr ydou <| cn 22 (sr yedi <| .ret) .skip) (sr ydyu <| .seq (sr ydqc <| .block 0 (.loop (sr ycjw <| .seq (cn 30 .skip (.exit 0)) (.seq (.block 1 (sr ydju <| .seq (sr ydfm <| cn 36 (.exit 1) .skip) (sr ydvq <| .block 2 (.loop (sr ycfl <| .seq (cn 44 .skip (.exit 2)) (.seq (.block 3 (sr ydae <| .reg true ydch)) (.reg false ycxv))))))) (.reg false yceg))))) (sr ycsq <| .ret)))
theorem ydsw:Fn 77 c77 [.t 6,.t 7]:=fn_0 Tryz.func77
def ydys:LO:=[bx' 103 0 1 0,mc 0 2 0]
def ydnn:LO:=[fa' 0 1 1 3 0,ld' 1 3 4 1,cl' 113 [4] 5 3,mv' 5 2 7]
def c78:SC:=(sr ydys <| sr ydnn <| .ret)
theorem ydwm:Fn 78 c78 [.t 2]:=fn_0 Tryz.func78
def ydpm:LO:=[bx' 41 0 2 0,nl' 4 0,mc 0 5 2]
def ydtc:LO:=[la' 2 2 6 0,mv' 1 7 0,o3 (.call (.func 77) [(.tmp 6),(.tmp 7),(.func 78)]) 8 3,xt' 8 0 9 7,xt' 8 1 10 7,mv' 9 4 31,mv' 10 5 63]
def c20:SC:=(sr ydpm <| sr ydtc <| .ret)
theorem ydnl:Fn 20 c20 [.t 4,.t 5]:=fn_0 Tryz.func20
def ydmd:LO:=[bx' 41 0 3 0,bx' 109 1 4 0,bx' 103 2 5 0,o3 (.alloc 109 1 [.i .i64 0,.i .u32 0]) 6 0,mb false 7 0]
def ydfq:LO:=[fa' 1 1 4 9 0,ld' 1 9 10 1,fa' 0 1 5 11 0,ld' 1 11 12 4,bn' .andNot 10 12 13 15,fa' 0 1 3 14 0,ld' 1 14 15 32,fa' 1 1 5 16 0,ld' 1 16 17 128,ix' 1 15 17 18 480,ld' 1 18 19 992,bn' .and 13 19 20 2047,mv' 20 8 4095]
def ydki:LO:=[mv' 8 21 0,o3 (.bin .eql (.tmp 21) (.const (.int .u32 0))) 22 1]
def ydnt:LO:=[fa' 1 1 5 23 0,ld' 1 23 24 1,fa' 0 1 3 25 0,ld' 1 25 26 4,fa' 1 1 5 27 0,ld' 1 27 28 16,ix' 1 26 28 29 60,ld' 1 29 30 124,o3 (.build [.i .i64 0,.i .u32 0] [(0,1,(.tmp 24)),(1,1,(.tmp 30))]) 31 255,sto 2 6 31 511,mb true 7 1023]
def ydpe:LO:=[fa' 1 1 5 32 0,ld' 1 32 33 1,mv' 8 34 0,o3 (.build [.i .i64 0,.i .u32 0] [(0,1,(.tmp 33)),(1,1,(.tmp 34))]) 35 7,sto 2 6 35 15,mb false 7 31]
def c76:SC:=(sr ydmd <| .seq (.reg true ydfq) (.seq (sr ydki <| cn 22 (.seq (.reg true ydnt) .ret) .skip) (sr ydpe <| .ret)))
theorem ydsh:Fn 76 c76 [.c 6 true 2,.t 7]:=fn_0 Tryz.func76
def ydov:LO:=[bx' 41 0 2 0,bx' 45 1 3 0,nl' 4 0,mc 0 5 4]
def ydyi:LO:=[o3 (.mkmap 0) 18 0,o3 (.alloc 166 1 [.a (.map none)]) 6 0,sto 1 6 18 3]
def ydsu:LO:=[o3 (.alloc 167 1 [.a (.slice none 0 0)]) 7 0]
def ydst:LO:=[o3 (.mkfn 137 [] [(.tmp 3),(.tmp 6),(.tmp 7)]) 19 0,mv' 19 8 1]
def ydtv:LO:=[fa' 0 1 2 20 0,ld' 1 20 21 1,ln' 21 22 3,mc 0 23 0]
def ydgl:LO:=[bn' .lss 23 22 24 0]
def ydyq:LO:=[mv' 23 25 0,ix' 1 21 23 26 0,ld' 1 26 27 2,mv' 25 9 7,mv' 27 10 15]
def ydxy:LO:=[mv' 8 28 0,mv' 9 29 0,mv' 10 30 0,o3 (.build [.i .i64 0,.i .u32 0] [(0,1,(.tmp 29)),(1,1,(.tmp 30))]) 31 6,o3 (.call (.tmp 28) [(.tmp 31)]) 32 15]
def ydwe:LO:=[bc .add 23 1 33 0,mv' 33 23 1]
def ydvg:LO:=[ld' 1 3 34 0,ln' 34 35 1,o3 (.mk 38 1 24 [.a (.slice none 0 0)] (.tmp 35) (.tmp 35)) 36 3,mv' 36 11 7]
def ydaf:LO:=[mc 0 12 0]
def ybos:LO:=[mv' 12 37 0,ld' 1 7 38 0,ln' 38 39 2,bn' .lss 37 39 40 7]
def ybzl:LO:=[ld' 1 7 43 0,ln' 43 44 1,bc .gtr 44 262144 45 3]
def ydwx:LO:=[nl' 4 0,mc 3 5 1]
def ybya:LO:=[ld' 1 7 46 0,mv' 12 47 0,ix' 2 46 47 48 3,la' 2 48 49 7,o3 (.alloc 109 1 [.i .i64 0,.i .u32 0]) 13 0,sto 2 13 49 31]
def ycdm:LO:=[mv' 11 50 0,fa' 0 1 13 51 0,ld' 1 51 52 2,mv' 11 53 0,fa' 0 1 13 54 0,ld' 1 54 55 16,ix' 1 53 55 56 56,ld' 1 56 57 120,fa' 1 1 13 58 0,ld' 1 58 59 256,o3 (.bslice 77 1 1 [.i .u32 0] [(0,1,(.tmp 59))]) 60 768,o3 (.app 77 1 4 (.tmp 57) (.tmp 60)) 61 2040,ix' 1 50 52 62 4095,sto 1 62 61 8191]
def ybyo:LO:=[fa' 1 1 2 63 0,ld' 1 63 64 1,fa' 0 1 13 65 0,ld' 1 65 66 4,ix' 1 64 66 67 15,ld' 1 67 68 31,ln' 68 69 63,mc 0 70 0]
def ybfg:LO:=[bn' .lss 70 69 71 0]
def ycdt:LO:=[ix' 2 68 70 72 0,la' 2 72 73 1,o3 (.alloc 103 1 [.i .u32 0,.i .i64 0]) 15 0,sto 2 15 73 7]
def ycfy:LO:=[la' 2 2 75 0,la' 2 13 76 0,la' 2 15 77 0,cl' 76 [75,76,77] 78 7,mv' 78 74 15,xt' 74 0 79 31,xt' 74 1 80 31,o3 (.alloc 109 1 [.i .i64 0,.i .u32 0]) 16 0,sto 2 16 79 191,mv' 80 17 511]
def ycdd:LO:=[mv' 8 81 0,la' 2 16 82 0,o3 (.call (.tmp 81) [(.tmp 82)]) 83 3]
def ybyw:LO:=[bc .add 70 1 84 0,mv' 84 70 1]
def ycdb:LO:=[mv' 12 41 0,bc .add 41 1 42 1,mv' 42 12 3]
def ycww:LO:=[mv' 11 85 0,mv' 85 4 1,mc 0 5 3]
def c75:SC:=(sr ydov <| sr ydyi <| sr ydsu <| sr ydst <| .seq (sr ydtv <| .block 0 (.loop (sr ydgl <| .seq (cn 24 .skip (.exit 0)) (.seq (.block 1 (sr ydyq <| .reg false ydxy)) (.reg false ydwe))))) (sr ydvg <| .seq (sr ydaf <| .block 2 (.loop (.seq (sr ybos <| cn 40 .skip (.exit 2)) (.seq (.block 3 (.seq (sr ybzl <| cn 45 (sr ydwx <| .ret) .skip) (sr ybya <| .seq (.reg true ycdm) (sr ybyo <| .block 4 (.loop (sr ybfg <| .seq (cn 71 .skip (.exit 4)) (.seq (.block 5 (sr ycdt <| sr ycfy <| .reg false ycdd)) (.reg false ybyw)))))))) (.reg false ycdb))))) (sr ycww <| .ret)))
theorem ydlv:FnU 75 c75 [.t 4,.t 5]:=fn_u Tryz.func75
def ybof:LO:=[bx' 109 0 4 0]
def ybpb:LO:=[ld' 1 1 5 0,fa' 0 1 4 6 0,ld' 1 6 7 2,ix' 1 5 7 8 7,ld' 1 8 9 15,o3 (.un .not (.tmp 9)) 10 31,mv' 10 11 63,gt (.load false 1 (.tmp 2)) 12 11 127,gt (.load true 2 (.tmp 4)) 13 11 127,gt (.mget 0 (.tmp 12) (.tmp 13)) 14 11 511,gt (.un .not (.tmp 14)) 15 11 1023,o3 (.pick (.tmp 11) (.tmp 15) (.const (.bool false))) 16 2047]
def ycse:LO:=[ld' 1 2 17 0,la' 2 4 18 0,o0 (.mset 0 (.tmp 17) (.tmp 18) (.const (.bool true))) 3]
def yczv:LO:=[ld' 1 3 19 0,la' 2 4 20 0,o3 (.bslice 109 2 1 [.i .i64 0,.i .u32 0] [(0,2,(.tmp 20))]) 21 2,o3 (.app 109 2 16 (.tmp 19) (.tmp 21)) 22 7,sto 1 3 22 15]
def c137:SC:=(sr ybof <| sr ybpb <| cn 16 (sr ycse <| .reg false yczv) .skip)
theorem ycoa:FnM 137 c137 []:=fn_m Tryz.func137
def ydvp:LO:=[bx' 41 0 2 0,nl' 4 0,mc 0 5 2]
def ydyw:LO:=[la' 2 2 24 0,mv' 1 25 0,cl' 74 [24,25] 26 3,mv' 26 23 7,xt' 23 0 27 15,xt' 23 1 28 15,mv' 27 6 31,mv' 28 7 127]
def yeas:LO:=[mv' 7 29 0,bc .neq 29 0 30 1]
def yeef:LO:=[mv' 7 31 0,nl' 4 0,mv' 31 5 3]
def ydtp:LO:=[la' 2 2 33 0,mv' 1 34 0,cl' 75 [33,34] 35 3,mv' 35 32 7,xt' 32 0 36 15,xt' 32 1 37 15,mv' 36 8 31,mv' 37 7 127]
def ydtr:LO:=[mv' 7 38 0,bc .neq 38 0 39 1]
def yeci:LO:=[mv' 7 40 0,nl' 4 0,mv' 40 5 3]
def ydtd:LO:=[o3 (.mkmap 1) 41 0,mv' 41 9 1]
def yeaf:LO:=[mv' 6 42 0,ln' 42 43 1,mc 0 44 0]
def ydgb:LO:=[bn' .lss 44 43 45 0]
def yctn:LO:=[ix' 1 42 44 46 0,ld' 1 46 47 1,mv' 47 11 3]
def ycrb:LO:=[mv' 8 48 0,mv' 11 49 0,ix' 1 48 49 50 3,ld' 1 50 51 7,ln' 51 52 15,mc 0 53 0]
def ybzi:LO:=[bn' .lss 53 52 54 0]
def ydbe:LO:=[ix' 1 51 53 55 0,ld' 1 55 56 1,mv' 56 13 3]
def ydai:LO:=[mv' 11 57 0,mv' 13 58 0,o3 (.build [.i .i64 0,.i .u32 0] [(0,1,(.tmp 57)),(1,1,(.tmp 58))]) 59 3,o3 (.alloc 109 1 [.i .i64 0,.i .u32 0]) 14 0,sto 2 14 59 15]
def yddl:LO:=[mc 1 15 0]
def ydcp:LO:=[fa' 1 1 2 60 0,ld' 1 60 61 1,mv' 11 62 0,ix' 1 61 62 63 7,ld' 1 63 64 15,ln' 64 65 31,mc 0 66 0]
def ybez:LO:=[bn' .lss 66 65 67 0]
def ybqk:LO:=[ix' 2 64 66 68 0,la' 2 68 69 1,o3 (.alloc 103 1 [.i .u32 0,.i .i64 0]) 17 0,sto 2 17 69 7]
def ybpe:LO:=[mv' 1 70 0,fa' 1 1 17 71 0,ld' 1 71 72 2,ix' 1 70 72 73 7,ld' 1 73 74 15]
def ybvz:LO:=[la' 2 2 76 0,la' 2 14 77 0,la' 2 17 78 0,cl' 76 [76,77,78] 79 7,mv' 79 75 15,xt' 75 0 80 31,xt' 75 1 81 31,o3 (.alloc 109 1 [.i .i64 0,.i .u32 0]) 18 0,sto 2 18 80 191,mv' 81 19 511]
def ychl:LO:=[mv' 19 82 0]
def ydaz:LO:=[mv' 15 83 0,mv' 9 84 0,la' 2 18 85 0,o3 (.mget 1 (.tmp 84) (.tmp 85)) 86 6,o3 (.bin .add (ci' 1) (.tmp 86)) 87 14,o3 (.mm true (.tmp 83) (.tmp 87)) 88 31,mv' 88 15 63]
def ycug:LO:=[mv' 15 89 0,mv' 9 90 0,la' 2 18 91 0,o3 (.mget 1 (.tmp 90) (.tmp 91)) 92 6,o3 (.mm true (.tmp 89) (.tmp 92)) 93 15,mv' 93 15 31]
def ybrj:LO:=[bc .add 66 1 94 0,mv' 94 66 1]
def ycro:LO:=[mv' 9 95 0,la' 2 14 96 0,mv' 15 97 0,o0 (.mset 1 (.tmp 95) (.tmp 96) (.tmp 97)) 7]
def ycxx:LO:=[bc .add 53 1 98 0,mv' 98 53 1]
def ycqd:LO:=[bc .add 44 1 99 0,mv' 99 44 1]
def ydaq:LO:=[mv' 1 100 0,ln' 100 101 1,o3 (.mk 3 1 8 [.i .i64 0] (.tmp 101) (.tmp 101)) 102 3,mv' 102 20 7]
def ydcm:LO:=[fa' 0 1 2 103 0,ld' 1 103 104 1,ln' 104 105 3,mc 0 106 0]
def ybpg:LO:=[bn' .lss 106 105 107 0]
def ycio:LO:=[mv' 106 108 0,ix' 1 104 106 109 0,ld' 1 109 110 2,mv' 108 21 7,mv' 110 22 15]
def ybxs:LO:=[mv' 1 111 0,mv' 21 112 0,ix' 1 111 112 113 3,ld' 1 113 114 7,o3 (.un .not (.tmp 114)) 115 15]
def ydcu:LO:=[mv' 20 116 0,mv' 21 117 0,mv' 9 118 0,mv' 21 119 0,mv' 22 120 0,o3 (.build [.i .i64 0,.i .u32 0] [(0,1,(.tmp 119)),(1,1,(.tmp 120))]) 121 24,o3 (.mget 1 (.tmp 118) (.tmp 121)) 122 60,ix' 1 116 117 123 127,sto 1 123 122 255]
def ybxn:LO:=[bc .add 106 1 124 0,mv' 124 106 1]
def ydcj:LO:=[mv' 20 125 0,mv' 125 4 1,mc 0 5 3]
def c19:SC:=(sr ydvp <| sr ydyw <| .seq (sr yeas <| cn 30 (sr yeef <| .ret) .skip) (sr ydtp <| .seq (sr ydtr <| cn 39 (sr yeci <| .ret) .skip) (sr ydtd <| .seq (sr yeaf <| .block 0 (.loop (sr ydgb <| .seq (cn 45 .skip (.exit 0)) (.seq (.block 1 (sr yctn <| sr ycrb <| .block 2 (.loop (sr ybzi <| .seq (cn 54 .skip (.exit 2)) (.seq (.block 3 (sr ydbe <| sr ydai <| sr yddl <| .seq (sr ydcp <| .block 4 (.loop (sr ybez <| .seq (cn 67 .skip (.exit 4)) (.seq (.block 5 (sr ybqk <| .seq (sr ybpe <| cn 74 (.exit 5) .skip) (sr ybvz <| sr ychl <| cn 82 (.reg false ydaz) (.reg false ycug)))) (.reg false ybrj))))) (.reg false ycro))) (.reg false ycxx)))))) (.reg false ycqd))))) (sr ydaq <| .seq (sr ydcm <| .block 6 (.loop (sr ybpg <| .seq (cn 107 .skip (.exit 6)) (.seq (.block 7 (sr ycio <| sr ybxs <| cn 115 (.reg false ydcu) .skip)) (.reg false ybxn))))) (sr ydcj <| .ret)))))
theorem ydvw:Fn 19 c19 [.t 4,.t 5]:=fn_0 Tryz.func19
def ydwj:LO:=[bx' 92 0 1 0,o3 (.mv (.const (.nilFunc))) 2 0]
def ydrg:LO:=[o3 (.mkfn 134 [] [(.tmp 1)]) 3 0,mv' 3 2 1]
def c68:SC:=(sr ydwj <| sr ydrg <| .ret)
theorem ydxv:Fn 68 c68 [.t 2]:=fn_0 Tryz.func68
end Sh
end
section
def szP(b:Int×Int):Nat:=(b.2-b.1+1).toNat
def ybq:List (Int×Int)->Nat
 |[]=>1
 |b::a=>szP b*ybq a
def ybl:List (List (Int×Int))->Nat
 |[]=>1
 |r::a=>ybq r*ybl a
def unR:List (Int×Int)->Nat->List Int×Nat
 |[],k=>([],k)
 |b::a,k=>((b.1+(((unR a k).2%szP b:Nat):Int))::(unR a k).1,(unR a k).2/szP b)
def unT:List (List (Int×Int))->Nat->Conf×Nat
 |[],k=>([],k)
 |r::a,k=>((unR r (unT a k).2).1::(unT a k).1,(unR r (unT a k).2).2)
def rkR:List (Int×Int)->List Int->Int
 |b::a,x::c=>(x-b.1)*ybq a+rkR a c
 |_,_=>0
def rkT:List (List (Int×Int))->Conf->Int
 |r::a,c::b=>rkR r c*ybl a+rkT a b
 |_,_=>0
def inR:List (Int×Int)->List Int->Prop
 |[],[]=>True
 |b::a,x::c=>(b.1<=x/\x<=b.2)/\inR a c
 |_,_=>False
def inT:List (List (Int×Int))->Conf->Prop
 |[],[]=>True
 |r::b,c::a=>inR r c/\inT b a
 |_,_=>False
def bdR(bs:List (Int×Int)):Prop:=∀b∈bs,b.1<=b.2
def bdT(rs:List (List (Int×Int))):Prop:=∀r∈rs,bdR r
theorem yqx{b:Int×Int}(h:b.1<=b.2):0<szP b/\(szP b:Int)=b.2-b.1+1:=by unfold szP;omega
theorem ymh:∀{bs:List (Int×Int)},bdR bs->0<ybq bs
 |[],_=>by decide
 |b::bs,h=>zDN (yqx (h b zM)).1 (ymh fun x a=>h x (zN _ a))
theorem ypo:∀{rs:List (List (Int×Int))},bdT rs->0<ybl rs
 |[],_=>by decide
 |r::rs,h=>zDN (ymh (h r zM)) (ypo fun x a=>h x (zN _ a))
theorem yblb:∀(bs:List (Int×Int)) (k:Nat),(unR bs k).2=k/ybq bs
 |[],k=>by simp[unR,ybq]
 | b::bs,k=>by
   show(unR bs k).2/szP b=k/(szP b*ybq bs);rw[yblb bs k,zBV,zV]
theorem ycgq:∀(rs:List (List (Int×Int))) (k:Nat),(unT rs k).2=k/ybl rs
 |[],k=>by simp[unT,ybl]
 | r::rs,k=>by
   show(unR r (unT rs k).2).2=k/(ybq r*ybl rs);rw[yblb,ycgq rs k,zBV,zV]
theorem yddg:∀(bs:List (Int×Int)) (k:Nat),rkR bs (unR bs k).1=((k%ybq bs:Nat):Int)
 |[],k=>by simp[rkR,ybq,zDO]
 | b::bs,k=>by
   show(b.1+(((unR bs k).2%szP b:Nat):Int)-b.1)*(ybq bs:Int)+rkR bs (unR bs k).1=((k%(szP b*ybq bs):Nat):Int);rw[yddg bs k,yblb,zV (szP b),zDP,zV (ybq bs) (k/ybq bs%szP b),zAX,zZ];rw[show b.1+((k/ybq bs%szP b:Nat):Int)-b.1=((k/ybq bs%szP b:Nat):Int)by omega]
   omega
theorem ycsl:∀{bs:List (Int×Int)}(k:Nat),bdR bs->inR bs (unR bs k).1
 |[],_,_=>trivial
 | b::bs,k,h=>by
   have a:=yqx (h b zM);have d:=zCS (unR bs k).2 a.1;exact⟨⟨by omega,by omega⟩,ycsl k fun x c=>h x (zN _ c)⟩
theorem ybah:∀{rs:List (List (Int×Int))}(k:Nat),bdT rs->inT rs (unT rs k).1
 |[],_,_=>trivial
 |r::rs,k,h=>⟨ycsl _ (h r zM),ybah k fun x a=>h x (zN _ a)⟩
theorem yboh:∀(rs:List (List (Int×Int))) (k:Nat),rkT rs (unT rs k).1=((k%ybl rs:Nat):Int)
 |[],k=>by simp[rkT,ybl,zDO]
 | r::rs,k=>by
   show rkR r (unR r (unT rs k).2).1*(ybl rs:Int)+rkT rs (unT rs k).1=((k%(ybq r*ybl rs):Nat):Int);rw[yddg,yboh rs k,ycgq,zV (ybq r),zDP,zV (ybl rs) (k/ybl rs%ybq r),zAX,zZ];omega
theorem yctk:∀{bs:List (Int×Int)}{xs:List Int},inR bs xs->0<=rkR bs xs/\rkR bs xs<ybq bs/\∀m:Nat,unR bs ((rkR bs xs).toNat+m*ybq bs)=(xs,m)
 |[],[],_=>⟨by simp[rkR],by simp[rkR,ybq],fun m=>by simp[rkR,unR,ybq]⟩
 |[],_::_,h=>h.elim
 |_::_,[],h=>h.elim
 | b :: bs,x::xs,⟨⟨p,q⟩,j⟩=>by
   obtain⟨s,t,l⟩:=yctk j;obtain⟨o,u⟩:=yqx (show b.1<=b.2 by omega)
   obtain⟨d,c⟩:∃d:Nat,x-b.1=d:=⟨(x-b.1).toNat,by omega⟩
   obtain⟨r,f⟩:∃r:Nat,rkR bs xs=r:=⟨(rkR bs xs).toNat,by omega⟩
   have a:d+1<=szP b:=by omega
   have e:rkR (b::bs) (x::xs)=((d*ybq bs+r:Nat):Int):=by
    show(x-b.1)*(ybq bs:Int)+rkR bs xs=_;rw[c,f,zAX,zZ]
   have k:d*ybq bs+r<szP b*ybq bs:=by
    have:=zAY (ybq bs) a;rw[zCD]at this;omega
   rw[e];refine⟨by omega,by show((d*ybq bs+r:Nat):Int)<((szP b*ybq bs:Nat):Int);omega,fun m=>?_⟩
   have n:=l (d+m*szP b)
   have g:((d*ybq bs+r:Nat):Int).toNat+m*(szP b*ybq bs)=(rkR bs xs).toNat+(d+m*szP b)*ybq bs:=by
    rw[f,zAG,zAG,zCM,zAD];omega
   have i:unR bs (((d*ybq bs+r:Nat):Int).toNat+m*ybq (b::bs))=(xs,d+m*szP b):=by
    rw[<-n,<-g];rfl
   show((b.1+(((unR bs _).2%szP b:Nat):Int))::(unR bs _).1,(unR bs _).2/szP b)=_;rw[i];simp only;rw[Nat.add_mul_mod_self_right,zAI (by omega),Nat.add_mul_div_right _ _ o,zBP (by omega),<-c]
   simp only[zDD,Prod.mk.injEq,List.cons.injEq,and_true];omega
theorem ybae:∀{rs:List (List (Int×Int))}{c:Conf},inT rs c->0<=rkT rs c/\rkT rs c<ybl rs/\∀m:Nat,unT rs ((rkT rs c).toNat+m*ybl rs)=(c,m)
 |[],[],_=>⟨by simp[rkT],by simp[rkT,ybl],fun m=>by simp[rkT,unT,ybl]⟩
 |[],_::_,h=>h.elim
 |_::_,[],h=>h.elim
 | b :: a,x::f,⟨o,p⟩=>by
   obtain⟨v,w,s⟩:=ybae p;obtain⟨y,z,u⟩:=yctk o;obtain⟨d,i⟩:∃d:Nat,rkR b x=d:=⟨(rkR b x).toNat,by omega⟩
   obtain⟨r,j⟩:∃r:Nat,rkT a f=r:=⟨(rkT a f).toNat,by omega⟩
   have g:d+1<=ybq b:=by omega
   have e:rkT (b::a) (x::f)=((d*ybl a+r:Nat):Int):=by
    show rkR b x*(ybl a:Int)+rkT a f=_;rw[i,j,zAX,zZ]
   have q:d*ybl a+r<ybq b*ybl a:=by
    have:=zAY (ybl a) g;rw[zCD]at this;omega
   rw[e];refine⟨by omega,by show((d*ybl a+r:Nat):Int)<((ybq b*ybl a:Nat):Int);omega,fun m=>?_⟩
   have t:=s (d+m*ybq b)
   have l:((d*ybl a+r:Nat):Int).toNat+m*(ybq b*ybl a)=(rkT a f).toNat+(d+m*ybq b)*ybl a:=by
    rw[j,zAG,zAG,zCM,zAD];omega
   have n:unT a (((d*ybl a+r:Nat):Int).toNat+m*ybl (b::a))=(f,d+m*ybq b):=by
    rw[<-t,<-l];rfl
   have k:=u m;rw[i,zAG]at k;show((unR b (unT a _).2).1::(unT a _).1,(unR b (unT a _).2).2)=_;rw[n];simp only;rw[k]
theorem ybqw{rs:List (List (Int×Int))}{c:Conf}(h:inT rs c):(unT rs (rkT rs c).toNat).1=c:=by
 have:=(ybae h).2.2 0;rw[zDE,zCE]at this;rw[this]
theorem ydml{rs:List (List (Int×Int))}{c d:Conf}(a:inT rs c)(b:inT rs d)(e:rkT rs c=rkT rs d):c=d:=by
 rw[<-ybqw a,e,ybqw b]
end
section
def advR:List (Int×Int)->List Int->List Int×Bool
 |b::a,x::c=>if (advR a c).2 then(x::(advR a c).1,true)else if x<b.2 then((x+1)::(advR a c).1,true)else(b.1::(advR a c).1,false)
 |_,_=>([],false)
def advT:List (List (Int×Int))->Conf->Conf×Bool
 |r::b,c::a=>if (advT b a).2 then(c::(advT b a).1,true)else((advR r c).1::(advT b a).1,(advR r c).2)
 |_,_=>([],false)
theorem ychf:∀{bs:List (Int×Int)}{xs:List Int},inR bs xs->inR bs (advR bs xs).1/\((advR bs xs).2=true->rkR bs (advR bs xs).1=rkR bs xs+1)/\((advR bs xs).2=false->rkR bs (advR bs xs).1=0/\rkR bs xs+1=ybq bs)
 |[],[],_=>⟨trivial,(fun h=>by cases h),fun _=>⟨rfl,rfl⟩⟩
 |[],_::_,h=>h.elim
 |_::_,[],h=>h.elim
 | b :: bs,x::xs,⟨⟨g,i⟩,j⟩=>by
   obtain⟨a,k,l⟩:=ychf j;obtain⟨o,m⟩:=yqx (show b.1<=b.2 by omega)
   unfold advR;cases d:(advR bs xs).2 with
   | true =>
     have e:=k d;simp only[if_true];refine⟨⟨⟨g,i⟩,a⟩,fun _=>?_,fun h=>by cases h⟩
     show(x-b.1)*(ybq bs:Int)+rkR bs (advR bs xs).1=(x-b.1)*(ybq bs:Int)+rkR bs xs+1;rw[e];omega
   | false =>
     obtain⟨c,n⟩:=l d;simp only[zBJ,if_false]
     by_cases f:x<b.2
     .rw[if_pos f];refine⟨⟨⟨by omega,by omega⟩,a⟩,fun _=>?_,fun h=>by cases h⟩
      show(x+1-b.1)*(ybq bs:Int)+rkR bs (advR bs xs).1=(x-b.1)*(ybq bs:Int)+rkR bs xs+1;rw[c,show x+1-b.1=(x-b.1)+1 by omega,zAQ]
      omega
     .rw[if_neg f];refine⟨⟨⟨by omega,by omega⟩,a⟩,(fun h=>by cases h),fun _=>⟨?_,?_⟩⟩
      .show(b.1-b.1)*(ybq bs:Int)+rkR bs (advR bs xs).1=0;rw[c,zDF];simp
      .show(x-b.1)*(ybq bs:Int)+rkR bs xs+1=((szP b*ybq bs:Nat):Int);rw[zZ,m,show b.2-b.1+1=(x-b.1)+1 by omega,zAQ]
       omega
theorem ybza:∀{rs:List (List (Int×Int))}{c:Conf},inT rs c->inT rs (advT rs c).1/\((advT rs c).2=true->rkT rs (advT rs c).1=rkT rs c+1)/\((advT rs c).2=false->rkT rs (advT rs c).1=0/\rkT rs c+1=ybl rs)
 |[],[],_=>⟨trivial,(fun h=>by cases h),fun _=>⟨rfl,rfl⟩⟩
 |[],_::_,h=>h.elim
 |_::_,[],h=>h.elim
 | b :: a,x::d,⟨g,l⟩=>by
   obtain⟨j,m,n⟩:=ybza l;obtain⟨o,p,k⟩:=ychf g;unfold advT;cases i:(advT a d).2 with
   | true =>
     have e:=m i;simp only[if_true];refine⟨⟨g,j⟩,fun _=>?_,fun h=>by cases h⟩
     show rkR b x*(ybl a:Int)+rkT a (advT a d).1=rkR b x*(ybl a:Int)+rkT a d+1;rw[e];omega
   | false =>
     obtain⟨f,q⟩:=n i;simp only[zBJ,if_false];refine⟨⟨o,j⟩,fun h=>?_,fun h=>⟨?_,?_⟩⟩
     .show rkR b (advR b x).1*(ybl a:Int)+rkT a (advT a d).1=rkR b x*(ybl a:Int)+rkT a d+1;rw[f,p h,zAQ];omega
     .show rkR b (advR b x).1*(ybl a:Int)+rkT a (advT a d).1=0;rw[f,(k h).1];simp
     .show rkR b x*(ybl a:Int)+rkT a d+1=((ybq b*ybl a:Nat):Int);rw[zZ,<-(k h).2,zAQ];omega
theorem ydhx{rs:List (List (Int×Int))}{k:Nat}(a:bdT rs)(hk:k+1<ybl rs):(advT rs (unT rs k).1).1=(unT rs (k+1)).1:=by
 have g:=ybah k a;obtain⟨b,c,d⟩:=ybza g;have e:=yboh rs k;rw[zAI (by omega)]at e
 have h:(advT rs (unT rs k).1).2=true:=by
  cases f:(advT rs (unT rs k).1).2 with
  |true=>rfl
  |false=>have:=(d f).2;omega
 refine ydml b (ybah _ a) ?_;rw[c h,e,yboh,zAI hk];omega
def ypd(rs:List (List (Int×Int))):Conf:=rs.map (·.map (·.1))
theorem ybgb:∀{bs:List (Int×Int)},bdR bs->inR bs (bs.map (·.1))/\rkR bs (bs.map (·.1))=0
 |[],_=>⟨trivial,rfl⟩
 | b::bs,h=>by
   obtain⟨c,d⟩:=ybgb (bs:=bs) fun x a=>h x (zN _ a);refine⟨⟨⟨Int.le_refl _,h b zM⟩,c⟩,?_⟩;show(b.1-b.1)*(ybq bs:Int)+rkR bs (bs.map (·.1))=0;rw[d,zDF];simp
theorem ybfy:∀{rs:List (List (Int×Int))},bdT rs->inT rs (ypd rs)/\rkT rs (ypd rs)=0
 |[],_=>⟨trivial,rfl⟩
 | r::rs,h=>by
   obtain⟨b,c⟩:=ybfy (rs:=rs) fun x a=>h x (zN _ a);obtain⟨d,e⟩:=ybgb (h r zM);refine⟨⟨d,b⟩,?_⟩;show rkR r (r.map (·.1))*(ybl rs:Int)+rkT rs (ypd rs)=0;rw[c,e];simp
theorem ycdf{rs:List (List (Int×Int))}(h:bdT rs):(unT rs 0).1=ypd rs:=by
 obtain⟨a,b⟩:=ybfy h;have:=ybqw a;rw[b]at this;exact this
def plR:List (Int×Int)->Nat->List Int×Nat
 |[],p=>([],p)
 |b::a,p=>(((plR a p).2:Int)::(plR a p).1,(plR a p).2*szP b)
def plT:List (List (Int×Int))->Nat->List (List Int)×Nat
 |[],p=>([],p)
 |r::a,p=>((plR r (plT a p).2).1::(plT a p).1,(plR r (plT a p).2).2)
theorem yrk:∀(bs:List (Int×Int)) (p:Nat),(plR bs p).2=p*ybq bs
 |[],p=>(zAR p).symm
 | b::bs,p=>by
   show(plR bs p).2*szP b=p*(szP b*ybq bs);rw[yrk bs p,zAD,zV (szP b)]
theorem ybcg:∀(rs:List (List (Int×Int))) (p:Nat),(plT rs p).2=p*ybl rs
 |[],p=>(zAR p).symm
 | r::rs,p=>by
   show(plR r (plT rs p).2).2=p*(ybq r*ybl rs);rw[yrk,ybcg rs p,zAD,zV (ybq r)]
theorem ybnf:∀(bs:List (Int×Int)) (p:Nat),(plR bs p).1.length=bs.length
 |[],_=>rfl
 |b::bs,p=>by show(plR bs p).1.length+1=_;rw[ybnf bs p];rfl
theorem ybbp:∀(rs:List (List (Int×Int))) (p:Nat),(plT rs p).1.length=rs.length
 |[],_=>rfl
 |r::rs,p=>by show(plT rs p).1.length+1=_;rw[ybbp rs p];rfl
def grR:List Int->List Int->List Int->Int
 |y::c,x::b,q::a=>(y-x)*q+grR c b a
 |_,_,_=>0
def grT:Conf->Conf->List (List Int)->Int
 |d::b,c::a,q::e=>grR d c q+grT b a e
 |_,_,_=>0
theorem ycvm:∀{bs:List (Int×Int)}{xs ys:List Int}(p:Nat),inR bs xs->inR bs ys->grR ys xs (plR bs p).1=(rkR bs ys-rkR bs xs)*(p:Int)
 |[],[],[],p,_,_=>by simp[grR,rkR]
 |[],_::_,_,_,h,_=>h.elim
 |[],[],_::_,_,_,h=>h.elim
 |_::_,[],_,_,h,_=>h.elim
 |_::_,_::_,[],_,_,h=>h.elim
 | b::bs,x::xs,y::ys,p,h,a=>by
   show(y-x)*((plR bs p).2:Int)+grR ys xs (plR bs p).1=((y-b.1)*(ybq bs:Int)+rkR bs ys-((x-b.1)*(ybq bs:Int)+rkR bs xs))*(p:Int);rw[ycvm p h.2 a.2,yrk,zZ,show((y-b.1)*(ybq bs:Int)+rkR bs ys-((x-b.1)*(ybq bs:Int)+rkR bs xs))=(y-x)*(ybq bs:Int)+(rkR bs ys-rkR bs xs)by simp only[zDQ];omega,zAQ,zDG (p:Int),zCZ]
theorem ydbq:∀{rs:List (List (Int×Int))}{c d:Conf}(p:Nat),inT rs c->inT rs d->grT d c (plT rs p).1=(rkT rs d-rkT rs c)*(p:Int)
 |[],[],[],p,_,_=>by simp[grT,rkT]
 |[],_::_,_,_,h,_=>h.elim
 |[],[],_::_,_,_,h=>h.elim
 |_::_,[],_,_,h,_=>h.elim
 |_::_,_::_,[],_,_,h=>h.elim
 | b::a,x::e,y::f,p,h,g=>by
   show grR y x (plR b (plT a p).2).1+grT f e (plT a p).1=(rkR b y*(ybl a:Int)+rkT a f-(rkR b x*(ybl a:Int)+rkT a e))*(p:Int);rw[ycvm _ h.1 g.1,ydbq p h.2 g.2,ybcg,zZ,show(rkR b y*(ybl a:Int)+rkT a f-(rkR b x*(ybl a:Int)+rkT a e))=(rkR b y-rkR b x)*(ybl a:Int)+(rkT a f-rkT a e)by rw[zDQ];omega,zAQ,zDG (p:Int),zCZ]
def sumI(f:Nat->Int):Nat->Int
 |0=>0
 |n+1=>sumI f n+f n
theorem yna(f:Nat->Int):∀n,sumI f (n+1)=f 0+sumI (fun i=>f (i+1)) n
 |0=>by simp[sumI]
 | n+1=>by
   show sumI f (n+1)+f (n+1)=f 0+(sumI (fun i=>f (i+1)) n+f (n+1));rw[yna f n];omega
theorem yzj{f g:Nat->Int}:∀{n:Nat},(∀i,i<n->f i=g i)->sumI f n=sumI g n
 |0,_=>rfl
 | n+1,h=>by
   show sumI f n+f n=sumI g n+g n;rw[yzj fun i a=>h i (by omega),h n (by omega)]
theorem ycfc:∀{ys xs a:List Int},ys.length=xs.length->a.length=xs.length->grR ys xs a=sumI (fun i=>(ys.getD i 0-xs.getD i 0)*a.getD i 0) xs.length
 |[],[],[],_,_=>rfl
 | y::ys,x::xs,q::a,b,c=>by
   show(y-x)*q+grR ys xs a=sumI _ (xs.length+1);rw[yna,ycfc (by simpa using b) (by simpa using c)]
   rfl
theorem ychh:∀{d c:Conf}{a:List (List Int)},d.length=c.length->a.length=c.length->grT d c a=sumI (fun i=>grR (d.getD i []) (c.getD i []) (a.getD i [])) c.length
 |[],[],[],_,_=>rfl
 | y::g,x::b,q::a,e,f=>by
   show grR y x q+grT g b a=sumI _ (b.length+1);rw[yna,ychh (by simpa using e) (by simpa using f)]
   rfl
end
section
structure Loop(S:Sys)(V:Conf->Prop)(c:Nat->Conf)(s:Nat->Nat)(m:Nat):Prop where
 pos:0<m
 per:∀i,c (i+m)=c i
 val:∀i,V (c i)
 ne:∀i,s i≠0
 sub:∀i,subB (s i) (S.en (c i))
 nx:∀i,c (i+1)=S.mv (c i) (s i)
theorem switch{p:Nat->Prop}{a:Nat}:∀d,¬p a->p (a+d)->∃j,¬p j/\p (j+1)
 |0,b,e=>absurd e b
 | d+1,b,e=>by
   by_cases q:p (a+d)
   .exact switch d b q
   .exact⟨a+d,q,e⟩
theorem exists_least{p:Nat->Prop}(h:∃x,p x):∃x,p x/\∀y,p y->x<=y:=by
 obtain⟨x,d⟩:=h
 induction x using Nat.strongRecOn with
 | ind x e =>
   by_cases q:∃y,p y/\y<x
   .obtain⟨y,b,a⟩:=q;exact e y a b
   .exact⟨x,d,fun y b=>Nat.le_of_not_lt fun a=>q ⟨y,b,a⟩⟩
section
variable {S:Sys}{V:Conf->Prop}{c:Nat->Conf}{s:Nat->Nat}{m:Nat}
end
theorem ycno {n:Nat}(f F:Nat->Nat->Int) {m:Nat}(hm:0<m) (C:∀i v,f (i+m) v=f i v) (l:∀t v,v<n->0<=f t v) (row:∀t v,v<n->f (t+1) v=F t v\/f (t+1) v=f t v)
 (O:∀t o v,v<n->(∀u,u<n->(f t u<F t v->f o u=f t u)/\(F t v<=f t u->F t v<=f o u))->F o v=F t v):∀v,v<n->∀t,f (t+1) v=f t v:=by
 classical
 have pers:∀v i k,f (i+k*m) v=f i v:=fun v i k=>by
  induction k with
  |zero=>rw[zDE];rfl
  |succ k M=>rw[zCD,<-zCB,C,M]
 have later:∀i t,∃j,t<=j/\∀v,f j v=f i v:=fun i t=>⟨i+t*m,zCF (zAN t hm) (Nat.le_add_left _ _),fun v=>pers v i t⟩;intro v1 D t1;refine zJ fun J=>?_
 let I:Nat->Prop:=fun v=>v<n/\∃t,f (t+1) v≠f t v
 let P:Nat->Prop:=fun x=>∃v,I v/\∃i,f i v=(x:Int)
 have Q:∃x,P x:=⟨(f 0 v1).toNat,v1,⟨D,t1,J⟩,0,by have:=l 0 v1 D;omega⟩
 obtain⟨z,⟨v,⟨L,t0,K⟩,i,N⟩,hz⟩:=exists_least Q
 have g:∀u,I u->∀t,((z:Nat):Int)<=f t u:=fun u r t=>by
  have h0:=l t u r.1;have:=hz (f t u).toNat ⟨u,r,t,by omega⟩
  omega
 obtain⟨x,hx⟩:∃x:Int,(z:Int)=x:=⟨_,rfl⟩;rw[hx]at N g
 have E:∀u,u<n->¬I u->∀t o,f t u=f o u:=fun u r hn=>by
  have all:∀t,f t u=f 0 u:=fun t=>by
   induction t with
   |zero=>rfl
   | succ t M =>
     rw[<-M];exact zJ fun q=>hn ⟨r,t,q⟩
  exact fun t o=>(all t).trans (all o).symm
 have B:∃a,f a v≠x:=by
  by_cases q:f t0 v=x
  .exact⟨t0+1,fun e=>K (e.trans q.symm)⟩
  .exact⟨t0,q⟩
 obtain⟨a,T⟩:=B;obtain⟨b,U,W⟩:=later i a;obtain⟨j,y,h⟩:=switch (p:=fun t=>f t v=x) (a:=a) (b-a) T (by show f (a+(b-a)) v=x;rw[show a+(b-a)=b by omega,W];exact N)
 have w:F j v=x:=by
  rcases row j v L with e|e
  .rw[<-e];exact h
  .rw[e]at h;exact absurd h y
 have R:∀t,F t v=x:=fun t=>by
  rw[O j t v L fun u r=>?_]
  .exact w
  .rw[w]
   by_cases q:I u
   .exact⟨fun Z=>absurd (g u q j) (by omega),fun _=>g u q t⟩
   .have e:=E u r q t j;exact⟨fun _=>e,fun Y=>by omega⟩
 obtain⟨d,X,G⟩:=later j (j+1);obtain⟨k,H,A⟩:=switch (p:=fun t=>¬f t v=x) (a:=j+1) (d-(j+1)) (fun q=>q h) (by show ¬f (j+1+(d-(j+1))) v=x;rw[show j+1+(d-(j+1))=d by omega,G];exact y)
 rcases row k v L with e|e
 .exact A (by rw[e];exact R k)
 .exact A (by rw[e];exact zJ H)
theorem Tgt.still {S:Sys}{V:Conf->Prop}{T:Conf->Nat->List Int}(h:Tgt S V T) (f:List Int->Int) (e:∀c v,V c->v<S.n->0<=f (c.getD v []))
 (k:∀c g v,V c->V g->v<S.n->(∀u,u<S.n->(f (c.getD u [])<f (T c v)->f (g.getD u [])=f (c.getD u []))/\(f (T c v)<=f (c.getD u [])->f (T c v)<=f (g.getD u [])))->f (T g v)=f (T c v))
 {c:Nat->Conf}{s:Nat->Nat}{m:Nat}(a:Loop S V c s m):∀v,v<S.n->∀t,f ((c (t+1)).getD v [])=f ((c t).getD v []) :=
 ycno (fun t v=>f ((c t).getD v [])) (fun t v=>f (T (c t) v)) a.pos (fun i v=>by rw[a.per]) (fun t v b=>e _ _ (a.val t) b) (fun t v b=>by
  show f ((c (t+1)).getD v [])=_\/f ((c (t+1)).getD v [])=_;rw[a.nx t];cases j:(s t).testBit v with
  |true=>exact .inl (by rw[h.move _ _ _ (a.val t) b j (a.sub t)])
  |false=>exact .inr (by rw[h.stay _ _ _ (a.val t) b j])) fun t l v b d=>k _ _ v (a.val t) (a.val l) b d
theorem Tgt.no_loop {S:Sys}{V:Conf->Prop}{T:Conf->Nat->List Int}(h:Tgt S V T) (o:∀c,S.en c<2^S.n) (f:List Int->Int) (j:∀c v,V c->v<S.n->0<=f (c.getD v []))
 (z:∀c g v,V c->V g->v<S.n->(∀u,u<S.n->(f (c.getD u [])<f (T c v)->f (g.getD u [])=f (c.getD u []))/\(f (T c v)<=f (c.getD u [])->f (T c v)<=f (g.getD u [])))->f (T g v)=f (T c v))
 (y:∀c g v,V c->V g->v<S.n->(∀u,u<S.n->f (g.getD u [])=f (c.getD u []))->T g v=T c v)
 {c:Nat->Conf}{s:Nat->Nat}{m:Nat}(a:Loop S V c s m):False:=by
 have r:=h.still f j z a
 have all:∀u,u<S.n->∀t,f ((c t).getD u [])=f ((c 0).getD u []):=fun u w t=>by
  induction t with
  |zero=>rfl
  |succ t x=>rw[r u w t,x]
 have A:∀v,v<S.n->∀t,T (c t) v=T (c 0) v:=fun v l t=>y _ _ _ (a.val 0) (a.val t) l fun u w=>all u w t
 obtain⟨v,l⟩:∃v,(s 0).testBit v=true:=zJ fun q=>a.ne 0 ((ylc _).2 fun i=>by
  cases k:(s 0).testBit i with
  |false=>rfl
  |true=>exact absurd ⟨i,k⟩ q)
 have d:=a.sub 0 v l
 have b:v<S.n:=by
  rcases zAZ v S.n with q|q
  .exact q
  .rw[zBW (zCG (o _) (zBZ (by omega) q))]at d;cases d
 have p:(c 0).getD v []≠T (c 0) v:=fun e=>by
  rw[(h.en _ _ (a.val 0) b).2 e]at d;cases d
 have after:∀t,(c (t+1)).getD v []=T (c 0) v:=fun t=>by
  induction t with
  |zero=>rw[a.nx 0];exact h.move _ _ _ (a.val 0) b l (a.sub 0)
  | succ t x =>
    rw[a.nx (t+1)];cases k:(s (t+1)).testBit v with
    |true=>rw[h.move _ _ _ (a.val _) b k (a.sub _)];exact A v b _
    |false=>rw[h.stay _ _ _ (a.val _) b k];exact x
 have B:=a.pos;refine p ?_;have e:=after (m-1);rw[show m-1+1=0+m by omega,a.per 0]at e
 exact e
end
section
structure ByRoundsC(S:Sys)(V:Conf->Prop)(D:Nat->Prop)(P:Nat->Nat->Conf->Prop):Prop where
 valid:∀c s,V c->s≠0->subB s (S.en c)->D s->V (S.mv c s)
 stay:∀c s v r r',r<=r'->r'<=r+1->V c->v<S.n->s.testBit v=false->subB s (S.en c)->D s->(∀u,u<S.n->P r u c)->P r' v c->P r' v (S.mv c s)
 move:∀c s v r,V c->v<S.n->s.testBit v=true->subB s (S.en c)->D s->(∀u,u<S.n->P r u c)->P (r+1) v (S.mv c s)
 rest:∀c v r,V c->v<S.n->(S.en c).testBit v=false->(∀u,u<S.n->P r u c)->P (r+1) v c
 less:∀r v c,P (r+1) v c->P r v c
structure RInvC(S:Sys)(V:Conf->Prop)(P:Nat->Nat->Conf->Prop)(c:Conf)(k:Cnt):Prop where
 valid:V c
 all:∀v,v<S.n->P k.rounds v c
 done:∀v,v<S.n->k.pend.testBit v=false->P (k.rounds+1) v c
 begun:k.begun<=k.rounds+1
section
variable {S:Sys}{V:Conf->Prop}{D:Nat->Prop}{P:Nat->Nat->Conf->Prop}
end
end
section
theorem yll{i:Type}[DecidableEq i]:∀{l1 l2:List i},l1.Nodup->(∀x∈l1,x∈l2)->l1.length<=l2.length
 |[],_,_,_=>zT _
 | a::t,l2,b,f=>by
   have b:=List.nodup_cons.1 b;have d:=f a zM;have:=yll (l1:=t) (l2:=l2.erase a) b.2 fun y h=>(zAW fun e=>b.1 (by rw[<-e];exact h)).2 (f y (zN _ h))
   rw[zAM d]at this;have:=List.length_pos_of_mem d;simp only[zAH];omega
def kcEx:Ex:=.agg 21 (.bin 35 (eQ 0) (eVar 0))
def ycdp(nm c r:ByteArray):ProgT:=⟨nm,[⟨c,1,0,0,1,0⟩],[⟨r,kcEx,[(0,.agg 27 (eQ 0))]⟩]⟩
def ycnr(c:Conf)(v:Nat):Int:=(c.getD v []).getD 0 0
def yeek(g:Gr)(c:Conf)(v:Nat):Prop:=∃u,adj g v u/\ycnr c u=ycnr c v
structure KcC(g:Gr)(c:Conf):Prop where
 len:c.length=g.ids.length
 row:∀v,v<g.ids.length->(c.getD v []).length=1/\(0<=ycnr c v/\ycnr c v<=g.ids.length)
section
variable {nm nc nr:ByteArray}{g:Gr}{c:Conf}{u v s:Nat}
def kcR(g:Gr)(r v:Nat)(c:Conf):Prop:=1<=r->¬yeek g c v
structure KcJ(nm nc nr:ByteArray)(g:Gr)(c:Conf)(k:Cnt):Prop where
 inv:RInvC (yml (ycdp nm nc nr) g) (fun c=>ydd (ycdp nm nc nr) g c=true) (kcR g) c k
 moves:k.moves+popP (ybt (ycdp nm nc nr) g c)<=g.ids.length
end
end
section
theorem ydyg{N:Nat}{f:Nat->Nat}(h:∀i,f i<N):∃i m,0<m/\f (i+m)=f i:=by
 refine zJ fun g=>?_;have d:∀i j,i<j->f i≠f j:=fun i j k e=>g ⟨i,j-i,by omega,by rw[show i+(j-i)=j by omega,e]⟩
 have l:((zI (N+1)).map f).Nodup:=by
  unfold List.Nodup;rw[zAO];exact List.pairwise_lt_range.imp fun {a b} c=>d a b c
 have:=yll (l2:=zI N) l fun x n=>by
  obtain⟨i,_,rfl⟩:=List.mem_map.1 n;exact List.mem_range.2 (h i)
 simp at this;omega
structure Back(N:Nat)(arcs:Nat->List (Nat×Nat))(f:Nat->Nat)(m:Nat):Prop where
 pos:0<m
 per:∀i,f (i+m)=f i
 lt:∀i,f i<N
 arc:∀i,∃a∈arcs (f i),a.2=f (i+1)
theorem ycle{m t:Nat}(b:0<m):((t+1)%m=t%m+1)\/(t%m+1=m/\(t+1)%m=0):=by
 have c:=zCS t b;rcases zAZ (t%m+1) m with h|h
 .left
  rw[Nat.add_mod];rcases zAZ 1 m with a|a
  .rw[zAI a,zAI h]
  .omega
 .right
  refine⟨by omega,?_⟩
  have e:t+1=m*(t/m)+m:=by
   have:=zCT t m;omega
  rw[e,Nat.mul_add_mod,Nat.mod_self]
theorem ydkq {N:Nat}{b:Nat->List (Nat×Nat)}{set:Nat->Bool}{L:List Nat}(j:∀k,k<N->set k=true->k∈L)
 (o:∀k,k<N->set k=false->b k≠[]->(∀a∈b k,a.2∈L)->k∈L) (u:∀k,k<N->∀a∈b k,a.2<N) (s:∀k,k<N->set k=false->b k≠[])
 (d:∀f m,Back N b f m->False):∀k,k<N->k∈L:=by
 classical
 intro C z;refine zJ fun q=>?_
 have step:∀k:Nat,∃v,(k<N/\¬k∈L)->(v<N/\¬v∈L)/\∃a∈b k,a.2=v:=fun k=>by
  by_cases hk:k<N/\¬k∈L
  .have n:set k=false:=by
    cases n:set k with
    |false=>rfl
    |true=>exact absurd (j k hk.1 n) hk.2
   obtain⟨a,c,r⟩:∃a∈b k,¬a.2∈L:=zJ fun A =>
    hk.2 (o k hk.1 n (s k hk.1 n) fun a c=>zJ fun r=>A ⟨a,c,r⟩)
   exact⟨a.2,fun _=>⟨⟨u k hk.1 a c,r⟩,a,c,rfl⟩⟩
  .exact⟨0,fun h=>absurd h hk⟩
 let l:Nat->Nat:=fun k=>(step k).choose
 have g:∀k,(k<N/\¬k∈L)->(l k<N/\¬l k∈L)/\∃a∈b k,a.2=l k:=fun k=>(step k).choose_spec
 let f:Nat->Nat:=fun i=>Nat.rec C (fun _ k=>l k) i
 have f1:∀i,f (i+1)=l (f i):=fun i=>rfl
 have p:∀i,f i<N/\¬f i∈L:=fun i=>by
  induction i with
  |zero=>exact⟨z,q⟩
  |succ i B=>rw[f1];exact(g _ B).1
 obtain⟨i,m,w,e⟩:=ydyg fun i=>(p i).1;refine d (fun t=>f (i+t%m)) m ⟨w,fun t=>by simp,fun t=>(p _).1,fun t=>?_⟩
 obtain⟨a,c,x⟩:=(g _ (p (i+t%m))).2;refine⟨a,c,x.trans ?_⟩;rw[<-f1];rcases ycle (t:=t) w with h|⟨h,y⟩
 .rw[h];rfl
 .rw[y,show i+t%m+1=i+m by omega,e];rfl
theorem ydjl{N:Nat}{L:List Nat}(h:∀k,k<N->k∈L):N<=L.length:=by
 have:=yll (l1:=zI N) (l2:=L) zCN fun x a=>h x (List.mem_range.1 a)
 simpa using this
def ytw(l:List (Nat×Nat))(A:List Nat):Nat:=l.countP fun a=>A.contains a.2
theorem ycgp{l:List (Nat×Nat)}{A:List Nat}:ytw l A=l.length↔∀a∈l,a.2∈A:=by
 unfold ytw;rw[List.countP_eq_length];simp
theorem ycah(l:List (Nat×Nat)):ytw l []=0:=by
 unfold ytw;rw[List.countP_eq_zero];simp
theorem ybvr{l:List (Nat×Nat)}{A:List Nat}{x:Nat}(d:x∉A):ytw l (A++[x])=ytw l A+l.countP fun a=>a.2==x:=by
 unfold ytw
 induction l with
 |nil=>rfl
 | cons a l e =>
   rw[zBQ,zBQ,zBQ,e]
   by_cases b:a.2=x
   .have:A.contains a.2=false:=by rw[b];simpa using d
    have c:(A++[x]).contains a.2=true:=by simp[b]
    rw[this,c];simp[b];omega
   .have c:(A++[x]).contains a.2=A.contains a.2:=by
     simp[b]
    rw[c];simp[b];omega
end
section
theorem ymg{a:Type}{l:List a}{k:Nat}{d:a}(h:k<l.length):l.getD k d=l[k]:=by simp[zO,h]
structure Spc where
 N:Nat
 en:Nat->Nat
 arcs:Nat->List (Nat×Nat)
def ybnm(l:List (Nat×Nat))(i:Nat):Nat:=if i=0 then 0 else(l.getD (i-1) (0,0)).1
def sumA(S:Spc):Nat->Nat
 |0=>0
 |k+1=>sumA S k+(S.arcs k).length
structure Spc.ok(S:Spc):Prop where
 pos:0<S.N
 le:S.N<=32768
 lt:∀k,k<S.N->S.en k<2^24
 ne:∀k,k<S.N->(S.en k=0↔(S.arcs k).length=0)
 sub:∀k,k<S.N->∀i,i<(S.arcs k).length->((S.arcs k).getD i (0,0)).1<2^24/\difB ((S.arcs k).getD i (0,0)).1 (S.en k)=0
 asc:∀k,k<S.N->∀i,i<(S.arcs k).length->ybnm (S.arcs k) i<((S.arcs k).getD i (0,0)).1
 to:∀k,k<S.N->∀i,i<(S.arcs k).length->((S.arcs k).getD i (0,0)).2<S.N
 tot:sumA S S.N<=262144
theorem ylx(S:Spc):∀{n k:Nat},k<=n->sumA S k<=sumA S n
 |0,k,h=>by rw[Nat.le_zero.1 h];exact zAP _
 | n + 1,k,h=>by
   rcases zAZ k (n+1)with q|q
   .have:=ylx S (n:=n) (k:=k) (by omega)
    show _<=sumA S n+_;omega
   .rw[show k=n+1 by omega];exact zAP _
theorem Spc.ok.len{S:Spc}(h:S.ok){k:Nat}(hk:k<S.N):(S.arcs k).length<=262144:=by
 have a:=ylx S (n:=S.N) (k:=k+1) (by omega)
 have b:=h.tot;have:sumA S (k+1)=sumA S k+(S.arcs k).length:=rfl;omega
theorem Spc.ok.mem{S:Spc}(h:S.ok){k:Nat}(hk:k<S.N){a:Nat×Nat}(c:a∈S.arcs k):a.2<S.N:=by
 obtain⟨i,b,rfl⟩:=List.getElem_of_mem c;have:=h.to k hk i b
 rwa [ymg b]at this
def ygn(S:Spc)(k i:Nat):List (Nat×Nat):=(zI k).flatMap (fun q=>(S.arcs q).map fun a=>(q,a.2))++((S.arcs k).take i).map fun a=>(k,a.2)
def yhb(S:Spc)(k i j:Nat):List Nat:=((ygn S k i).filter fun p=>p.2==j).map (·.1)
theorem yso(S:Spc)(k:Nat):ygn S k (S.arcs k).length=ygn S (k+1) 0:=by
 unfold ygn;rw[zW,zBA,List.flatMap_append];simp
theorem ybai(S:Spc)(k j:Nat):yhb S k (S.arcs k).length j=yhb S (k+1) 0 j:=by unfold yhb;rw[yso]
theorem yzd(S:Spc)(j:Nat):yhb S 0 0 j=[]:=rfl
theorem ybjt(S:Spc){k i:Nat}(a:i<(S.arcs k).length):ygn S k (i+1)=ygn S k i++[(k,((S.arcs k).getD i (0,0)).2)]:=by
 unfold ygn;rw[zK a,zBT,<-List.append_assoc,ymg a];rfl
theorem ybto(S:Spc){k i:Nat}(a:i<(S.arcs k).length)(j:Nat):yhb S k (i+1) j=if j=((S.arcs k).getD i (0,0)).2 then yhb S k i j++[k]else yhb S k i j:=by
 unfold yhb;rw[ybjt S a,zX,zBT]
 by_cases q:j=((S.arcs k).getD i (0,0)).2
 .rw[if_pos q];have:((k,((S.arcs k).getD i (0,0)).2).2==j)=true:=by rw[q];exact beq_self_eq_true _
  rw[zAS,this];rfl
 .rw[if_neg q];have:((k,((S.arcs k).getD i (0,0)).2).2==j)=false:=by rw[beq_eq_false_iff_ne];exact Ne.symm q
  rw[zAS,this];simp
theorem yov(S:Spc):∀k,(ygn S k 0).length=sumA S k
 |0=>rfl
 | k+1=>by
   rw[<-yso];have a:=yov S k;unfold ygn at a ⊢;simp only[zBH,zCH,zAE]at a;rw[zH,a,zW,zAK];rfl
theorem yxb{S:Spc}(h:S.ok){k i:Nat}(hk:k<=S.N)(f:k<S.N->i<=(S.arcs k).length)(b:k=S.N->i=0)(j:Nat):(yhb S k i j).length<=262144:=by
 have c:(ygn S k i).length<=262144:=by
  rcases zAZ k S.N with q|q
  .have d:=ylx S (n:=S.N) (k:=k+1) (by omega)
   have e:=h.tot;have a:=yov S k;unfold ygn at a ⊢;simp only[zBH,zCH,zAE]at a;rw[zH,a,zAK,List.length_take];have:sumA S (k+1)=sumA S k+(S.arcs k).length:=rfl;omega
  .rw[b (by omega),yov,show k=S.N by omega];exact h.tot
 unfold yhb;rw[zAK];exact zCF (zAT _ _) c
theorem ycny{S:Spc}{k i j:Nat}(hk:k<S.N\/i=0/\k<=S.N):∀x∈yhb S k i j,x<S.N:=fun x d=>by
 unfold yhb at d;obtain⟨p,b,rfl⟩:=List.mem_map.1 d;have b:=(List.mem_filter.1 b).1;unfold ygn at b;rcases List.mem_append.1 b with q|q
 .obtain⟨y,e,q⟩:=List.mem_flatMap.1 q;obtain⟨a,_,rfl⟩:=List.mem_map.1 q;have:=List.mem_range.1 e;show y<S.N;omega
 .obtain⟨a,c,rfl⟩:=List.mem_map.1 q;rcases hk with h|⟨h,_⟩
  .exact h
  .rw[h]at c;simp at c
def srcS(S:Spc)(j:Nat):List Nat:=yhb S S.N 0 j
theorem ybfc{S:Spc}{k:Nat}(j:Nat):∀n,(yhb S n 0 j).count k=if k<n then(S.arcs k).countP (fun a=>a.2==j)else 0
 |0=>by simp[yzd]
 | n + 1=>by
   have d:=ybfc (S:=S) (k:=k) j n
   have e:yhb S (n+1) 0 j=yhb S n 0 j++((S.arcs n).filter fun a=>a.2==j).map fun _=>n:=by
    rw[<-ybai];unfold yhb ygn;simp only[zW,zBH,zCH,zAE,zX,zBT,List.filter_map,List.map_map];rfl
   rw[e,zCL,d]
   by_cases q:k=n
   .subst q;rw[if_neg (by omega),if_pos (by omega),List.map_const',List.count_replicate_self,<-List.countP_eq_length_filter]
    omega
   .rw[List.count_eq_zero.2 (fun c=>q (by obtain⟨_,_,rfl⟩:=List.mem_map.1 c;rfl))]
    by_cases b:k<n
    .rw[if_pos b,if_pos (by omega)];omega
    .rw[if_neg b,if_neg (by omega)]
structure OrdI(S:Spc)(lg:Nat->Bool)(L:List Nat)(i j:Nat)(E:Nat->Nat):Prop where
 nd:L.Nodup
 lt:∀x∈L,x<S.N
 set:∀k,k<S.N->lg k=true->k∈L
 hi:i<=L.length
 cnt:∀k,k<S.N->E k=ytw (S.arcs k) (L.take i)+(if i<L.length then((srcS S (L.getD i 0)).take j).count k else 0)
 inn:∀k,k<S.N->lg k=false->(k∈L↔0<(S.arcs k).length/\E k=(S.arcs k).length)
section
variable {S:Spc}{lg:Nat->Bool}{L:List Nat}{i j:Nat}{E:Nat->Nat}
theorem OrdI.start(c:L.Nodup)(b:∀x∈L,x<S.N)(a:∀k,k<S.N->(k∈L↔lg k=true)):OrdI S lg L 0 0 fun _=>0 :=
 ⟨c,b,fun k hk h=>(a k hk).2 h,zT _,fun k hk=>by rw[zBH,ycah];simp,fun k hk h=>⟨fun d=>(by rw[(a k hk).1 d]at h;cases h),fun q=>by omega⟩⟩
theorem ygs{b:Type}{l:List b}{i:Nat}(d:b)(a:i<l.length):l.take (i+1)=l.take i++[l.getD i d]:=by
 rw[zK a,ymg a]
theorem OrdI.cnt_le(h:OrdI S lg L i j E)(a:i<L.length){k:Nat}(hk:k<S.N):ytw (S.arcs k) (L.take i)+(srcS S (L.getD i 0)).count k=ytw (S.arcs k) (L.take (i+1)):=by
 rw[ygs 0 a,ybvr]
 .unfold srcS;rw[ybfc,if_pos hk]
 .intro c;have:=h.nd;rw[<-zAU (i+1) L,ygs 0 a]at this;have b:=(List.nodup_append.1 (List.nodup_append.1 this).1).2.2;exact b _ c _ (List.mem_singleton.2 rfl) rfl
theorem ycox(l:List (Nat×Nat))(A:List Nat):ytw l A<=l.length:=List.countP_le_length
theorem yly{l:List Nat}{j:Nat}(a:j<l.length)(k:Nat):(l.take (j+1)).count k=(l.take j).count k+if l.getD j 0=k then 1 else 0:=by
 rw[ygs 0 a,zCL,List.count_singleton];simp
theorem OrdI.step(h:OrdI S lg L i j E)(g:i<L.length)(p:j<(srcS S (L.getD i 0)).length){k:Nat}(hk:(srcS S (L.getD i 0)).getD j 0=k)(hkN:k<S.N) :
 E k<(S.arcs k).length/\(let s:=fun q=>if q=k then E k+1 else E q
 OrdI S lg (if lg k=false/\E k+1=(S.arcs k).length then L++[k]else L) i (j+1) s):=by
 have m:E k<(S.arcs k).length:=by
  have l:=h.cnt k hkN;rw[if_pos g]at l;have A:=h.cnt_le g hkN;have B:=ycox (S.arcs k) (L.take (i+1));have v:=yly p k;rw[if_pos hk]at v;have C:((srcS S (L.getD i 0)).take (j+1)).count k<=(srcS S (L.getD i 0)).count k:=(List.take_sublist _ _).count_le _;omega
 refine⟨m,?_⟩
 have f:∀q,q<S.N->(if q=k then E k+1 else E q)=ytw (S.arcs q) (L.take i)+((srcS S (L.getD i 0)).take (j+1)).count q:=fun q z=>by
  have l:=h.cnt q z;rw[if_pos g]at l;rw[yly p q,hk]
  by_cases e:q=k
  .subst e;rw[if_pos rfl,if_pos rfl];omega
  .rw[if_neg e,if_neg (Ne.symm e)];omega
 by_cases q:lg k=false/\E k+1=(S.arcs k).length
 .simp only[if_pos q]
  have o:k∉L:=fun n=>by
   have:=((h.inn k hkN q.1).1 n).2;omega
  refine⟨?_,fun x c=>?_,fun x c d=>List.mem_append_left _ (h.set x c d),by rw[zH];have:=h.hi;omega,fun x c=>?_,fun x c d=>?_⟩
  .exact List.nodup_append.2 ⟨h.nd,zBS _ _,fun a w b y=>by rw[List.mem_singleton.1 y];rintro rfl;exact o w⟩
  .rcases List.mem_append.1 c with r|r
   .exact h.lt x r
   .rw[List.mem_singleton.1 r];exact hkN
  .have t:(L++[k]).take i=L.take i:=List.take_append_of_le_length h.hi
   have u:(L++[k]).getD i 0=L.getD i 0:=by
    simp only[zO,zU g]
   have d:i<(L++[k]).length:=by rw[zH];omega
   rw[t,u,if_pos d];exact f x c
  .by_cases e:x=k
   .subst e;rw[if_pos rfl];exact⟨fun _=>⟨by omega,q.2⟩,fun _=>List.mem_append_right _ (List.mem_singleton.2 rfl)⟩
   .rw[if_neg e];refine Iff.trans ?_ (h.inn x c d);rw[List.mem_append,List.mem_singleton];exact⟨fun r=>r.resolve_right e,.inl⟩
 .simp only[if_neg q];refine⟨h.nd,h.lt,h.set,h.hi,fun x c=>by rw[if_pos g];exact f x c,fun x c d=>?_⟩
  by_cases e:x=k
  .subst e;rw[if_pos rfl];exact⟨fun n=>absurd ((h.inn x c d).1 n).2 (by omega),fun r=>absurd ⟨d,r.2⟩ q⟩
  .rw[if_neg e];exact h.inn x c d
theorem OrdI.next(h:OrdI S lg L i j E)(a:i<L.length)(c:j=(srcS S (L.getD i 0)).length):OrdI S lg L (i+1) 0 E :=
 ⟨h.nd,h.lt,h.set,a,fun k hk=>by
   have b:=h.cnt k hk;rw[if_pos a,c,zW]at b;rw[b,h.cnt_le a hk];simp,h.inn⟩
theorem OrdI.all(h:OrdI S lg L L.length j E)(d:∀k,k<S.N->∀a∈S.arcs k,a.2<S.N)(c:∀k,k<S.N->lg k=false->S.arcs k≠[])(b:∀f m,Back S.N S.arcs f m->False):∀k,k<S.N->k∈L:=by
 refine ydkq h.set (fun k hk l n g=>(h.inn k hk l).2 ⟨List.length_pos_iff.2 n,?_⟩) d c b;have e:=h.cnt k hk;rw[if_neg (by omega),zW]at e
 rw[e,ycgp.2 g];rfl
theorem OrdI.len(h:OrdI S lg L i j E):L.length<=S.N:=by
 have:=yll (l2:=zI S.N) h.nd fun x a=>List.mem_range.2 (h.lt x a)
 simpa using this
end
end
section
namespace Sh
open Ev Go.RowKit
def ybk(l:List (Nat×Nat)):SV:=.sl 2 l.length (fun i=>[.i .u32 ((l.getD i (0,0)).1:Nat),.i .i64 ((l.getD i (0,0)).2:Nat)])
def spcC(S:Spc):List SV:=[.sl 1 S.N (fun k=>[.i .u32 (S.en k:Nat)]),.sl 1 S.N (fun k=>[ybk (S.arcs k)])]
def yba(n:Nat)(f:Nat->Bool):SV:=.sl 1 n (fun k=>[.b (f k)])
theorem dec_lt{a b:Nat}(h:a<b):decide ((a:Int)<(b:Int))=true:=by simp;omega
theorem ybui{e n:Nat}{l:List (Nat×Nat)}(C:e<2^24)(c:e=0↔l.length=0)(A:l.length<=262144)(g:∀i,i<l.length->(l.getD i (0,0)).1<2^24/\difB (l.getD i (0,0)).1 e=0)(d:∀i,i<l.length->ybnm l i<(l.getD i (0,0)).1)(s:∀i,i<l.length->(l.getD i (0,0)).2<n) :
 Returns zD 180 [.i .u32 (e:Nat),ybk l,.i .i64 (n:Nat)] (.b true):=by
 refine Returns.of (ydfy _ _ ?_);obtain⟨m,x⟩:∃m,l.length=m:=⟨_,rfl⟩;have B:e>>>24=0:=by rw[Nat.shiftRight_eq_div_pow];omega
 have f0:((((e>>>24:Nat):Int))!=0)=false:=by rw[B];rfl
 have f1:(((e:Int)!=0)!=decide ((m:Int)>0))=false:=by
  rw[x]at c
  by_cases q:e=0
  .have:=c.1 q;subst q;subst this;rfl
  .have D:m≠0:=fun r=>q (c.2 r);have y:((e:Int)!=0)=true:=by rw[bne_iff_ne];omega
   have z:decide ((m:Int)>0)=true:=by simp;omega
   rw[y,z];rfl
 simp only[c180,ydcq,ydbc,ydcn,ycvg,ybk,x,ycdw,f0,f1,go_sem,Int.reduceToNat,zA,zB];refine⟨by decide,?_⟩
 refine ybd (σ:=Nat) (fun k=>⟨[(23,.i .i64 k),(22,.i .i64 m),(21,.sl 2 m (fun i=>[.i .u32 ((l.getD i (0,0)).1:Nat),.i .i64 ((l.getD i (0,0)).2:Nat)])),(0,.i .u32 (e:Nat)),(2,.i .i64 (n:Nat)),(7,.i .u32 (ybnm l k:Nat))],[]⟩)
  (fun k=>k<=m) (fun k=>m-k) 0 (zT _) ?_ ?_
 .refine yu ?_;simp only[ybnm,wk,go_sem,zA]
 .intro k hk
  by_cases j:k<m
  .obtain⟨u,h⟩:=g k (by omega)
   have v:=d k (by omega)
   have w:=s k (by omega)
   have o:ybnm l (k+1)=(l.getD k (0,0)).1:=rfl;obtain⟨⟨a,t⟩,f⟩:∃p,l.getD k (0,0)=p:=⟨_,rfl⟩;rw[f]at u h v w o;simp only at u h v w o;have d1:=dec_lt j;have d2:decide ((a:Int)<=(ybnm l k:Int))=false:=by simp;omega
   have d3:=u32_andNot (a:=a) (b:=e) (by omega) (by omega)
   rw[h]at d3;simp only[IntKind.bits]at d3;have d4:decide ((t:Int)<0)=false:=by simp
   have d5:decide ((t:Int)>=(n:Int))=false:=by simp;omega
   have d6:((((0:Nat):Int))!=0)=false:=rfl;simp only[yccm,ycta,ydbf,ycqk,ydci,ycen,yble,f,d1,d2,d3,d4,d5,d6,splice,go_sem,zA,zB,zG,zC];refine⟨⟨by omega,by omega⟩,ikw (by omega) (by omega),?_⟩
   refine ycb (k+1) ?_;refine yu ?_;simp only[o,wk,go_sem,zA];omega
  .obtain rfl:k=m:=by omega
   simp only[yccm,yble,zL,yts,go_sem,zA]
def spcO(S:Spc):Fam:=.one (some ⟨41,true,2,1,fun _=>spcC S⟩)
theorem ybua{S:Spc}(h:S.ok):Returns zD 136 [.ag (spcC S)] (.b true):=by
 refine Returns.of (ydje _ _ ?_);have g:=h.pos;have d:=h.le;have f1:decide ((S.N:Int)<1)=false:=by simp;omega
 have f2:decide ((S.N:Int)>32768)=false:=by simp;omega
 have f3:((S.N:Int)!=(S.N:Int))=false:=by simp
 simp only[c136,yczp,ydca,ydcd,ycvo,ycrn,spcC,ybk,f1,f2,f3,go_sem,zA,zB,zG,zC];refine ybd (σ:=Nat) (fun k=>⟨[(23,.i .i64 k),(22,.i .i64 (S.N:Nat)),(3,.i .i64 (S.N:Nat)),(4,.i .i64 (sumA S k:Nat)),(1,.pt (1,0) 0 0)],[(1,spcO S)]⟩) (fun k=>k<=S.N) (fun k=>S.N-k) 0 (zT _) ?_ ?_
 .refine yu ?_;simp only[spcO,spcC,ybk,sumA,wk,go_sem,zA,zC]
 .intro k hk
  by_cases a:k<S.N
  .have c:=ybui (h.lt k a) (h.ne k a) (h.len a) (h.sub k a) (h.asc k a) (h.to k a);simp only[ybk]at c;have d1:=dec_lt a;have e:((sumA S k:Nat):Int)+((S.arcs k).length:Nat)=((sumA S (k+1):Nat):Int):=by show _=((sumA S k+(S.arcs k).length:Nat):Int);omega
   have f:=ylx S (n:=S.N) (k:=k+1) (by omega)
   have j:=h.tot;have d2:decide (((sumA S (k+1):Nat):Int)>262144)=false:=by simp;omega
   simp only[ycif,ycxz,ycuc,ydbd,ycdl,spcO,spcC,ybk,d1,d2,e,clash,go_sem,zA,zB,zG];refine⟨by omega,ikw (by omega) (by omega),by omega,by omega,c.use ?_⟩
   simp only[ybj,clash,go_sem,zA,zB]
   try refine⟨by decide,?_⟩
   refine⟨ikw (by omega) (by omega),?_⟩
   refine ycb (k+1) ?_;refine yu ?_;simp only[wk,go_sem,zA,zC];omega
  .obtain rfl:k=S.N:=by omega
   simp only[ycif,ybye,zL,yts,go_sem,zA]
theorem ysj{S:Spc}(h:S.ok)(lg:Nat->Bool):Returns zD 73 [.ag (spcC S),yba S.N lg] (.i .i64 0):=by
 refine Returns.of (ydnf _ _ ?_);have a:=ybua h;have f3:((S.N:Int)!=(S.N:Int))=false:=by simp
 simp only[spcC,ybk]at a;simp only[c73,ydot,ydoj,spcC,ybk,yba,clash,go_sem,zA,zB,zC];refine a.use ?_;simp only[ybj,ydon,ydxg,clash,f3,go_sem,zA,zB,zG];exact Sim.refl _
theorem ybth{S:Spc}(h:S.ok){lg:Nat->Bool}(f:∀k,k<S.N->lg k=true->(S.arcs k).length=0):Returns zD 18 [.ag (spcC S),yba S.N lg] (.tp [.b true,.i .i64 0]):=by
 refine Returns.of (ydrp _ _ ?_);have d:=ysj h lg;have g:=h.le;simp only[spcC,ybk,yba]at d;simp only[c18,ydql,ydsj,spcC,ybk,yba,clash,go_sem,zA,zB,zC];refine d.use ?_;simp only[ybj,yebn,ydpx,clash,zAJ,go_sem,zA,zB];refine ybd (σ:=Nat) (fun k=>⟨[(20,.i .i64 k),(19,.i .i64 (S.N:Nat)),(18,.sl 1 S.N fun k=>[ybk (S.arcs k)]),(1,yba S.N lg)],[]⟩) (fun k=>k<=S.N) (fun k=>S.N-k) 0 (zT _) ?_ ?_
 .refine yu ?_;simp only[ybk,yba,wk,go_sem,zA]
 .intro k hk
  by_cases a:k<S.N
  .have d1:=dec_lt a;cases c:lg k with
   | false =>
     simp only[ycjr,ydji,ydfs,ycgx,ybk,yba,d1,c,clash,go_sem,zA,zB];refine⟨⟨by omega,by omega⟩,⟨by omega,by omega⟩,ikw (by omega) (by omega),?_⟩
     refine ycb (k+1) ?_;refine yu ?_;simp only[wk,go_sem,zA];omega
   | true =>
     have e:=f k a c;simp only[ycjr,ydji,ydfs,ydtw,ybk,yba,d1,c,clash,e,go_sem,zA,zB];refine⟨⟨by omega,by omega⟩,⟨by omega,by omega⟩,?_⟩
     refine ybd (σ:=Unit) (fun _=>⟨[(32,.i .i64 0),(31,.i .i64 0),(20,.i .i64 k),(19,.i .i64 (S.N:Nat)),(18,.sl 1 S.N fun k=>[ybk (S.arcs k)]),(1,yba S.N lg)],[]⟩) (fun _=>True) (fun _=>0) () trivial ?_ ?_
     .refine yu ?_;simp only[ybk,yba,wk,go_sem,zA]
     .intro _ _;simp only[yduz,ycgx,ybk,yba,zL,clash,go_sem,zA,zB];refine⟨ikw (by omega) (by omega),?_⟩
      refine ycb (k+1) ?_;refine yu ?_;simp only[wk,go_sem,zA];omega
  .obtain rfl:k=S.N:=by omega
   simp only[ycjr,ydec,zL,go_sem,zA,zB];exact Sim.refl _
end Sh
end
section
namespace Sh
open Ev Go.RowKit
def yco(l:List Nat):SV:=.sl 1 l.length (fun i=>[.i .i64 ((l.getD i 0:Nat):Int)])
def rowC(F:Nat)(f:Nat->List Nat)(j:Nat):SV:=if (f j).length=0 then .a (.slice none 0 0)else .os (F,j) 0 (f j).length true
def rowB(e:Nat)(k:IntKind)(l:List Nat):Option OB:=if l.length=0 then none else some ⟨e,false,1,l.length,fun i=>[.i k ((l.getD i 0:Nat):Int)]⟩
def yin(e:Nat)(k:IntKind)(f:Nat->List Nat):Fam:=.many fun j=>rowB e k (f j)
theorem ykp{F e j:Nat}{k:IntKind}{f:Nat->List Nat}{O:Own}(ρ:List (Nat×(Nat->Nm))){X:SV}(c:X=if (f j).length=0 then .a (.slice none 0 0)else .os (rid ρ (F,j)) 0 (f j).length true)(b:lookO O (F,j)=rowB e k (f j)) :
 (Sim X (ren (rid ρ) 5 (rowC F f j))/\cln (lv [] O) 5 (rowC F f j)=true)/\one1 (rowC F f j)=true:=by
 subst c;unfold rowC
 by_cases q:(f j).length=0
 .simp only[if_pos q];exact⟨⟨Sim.refl _,rfl⟩,rfl⟩
 .simp only[if_neg q];refine⟨⟨Sim.refl _,?_⟩,rfl⟩;show(live O (F,j) && !(List.elem F []))=true;unfold live;rw[b];unfold rowB;rw[if_neg q];rfl
theorem yed{e:Nat}{k:IntKind}{l:List Nat}{b:OB}{h:Nm->Nm}{f j:Own}(m:mapE e=false)(a:rowB e k l=some b){c:OB}(d:(c.e=e/\c.bx=false/\c.z=1/\c.n=l.length)/\∀i,i<l.length->c.g i=[.i k ((l.getD i 0:Nat):Int)]) :
 (c.e=b.e/\c.bx=b.bx/\c.z=b.z/\c.n=b.n)/\(mapE b.e=true->∀i,c.g i=b.g i)/\∀i,i<b.n->telL h [] [] f j (c.g i) (b.g i):=by
 unfold rowB at a;split at a
 .cases a
 .cases a
  refine⟨d.1,fun q=>?_,fun i o=>?_⟩
  .have q:mapE e=true:=q;rw[m]at q;cases q
  .rw[d.2 i o];exact⟨.inl ⟨(yif _ _ _).2 trivial,by rw[yej];exact Sim.refl _,rfl⟩,rfl,trivial⟩
theorem yfh{e:Nat}{k:IntKind}{l:List Nat}{b:OB}(a:rowB e k l=some b):(b.e=e/\b.bx=false/\b.z=1/\b.n=l.length)/\∀i,i<l.length->b.g i=[.i k ((l.getD i 0:Nat):Int)]:=by
 unfold rowB at a;split at a
 .cases a
 .cases a;exact⟨⟨rfl,rfl,rfl,rfl⟩,fun _ _=>rfl⟩
theorem ybqp{e:Nat}{k:IntKind}{l:List Nat}{x:Nat}(h:l.length=0){g:Nat->List SV}(a:g 0=[.i k (x:Int)]):((⟨e,false,1,1,g⟩:OB).e=e/\(⟨e,false,1,1,g⟩:OB).bx=false/\(⟨e,false,1,1,g⟩:OB).z=1/\(⟨e,false,1,1,g⟩:OB).n=(l++[x]).length)/\∀i,i<(l++[x]).length->(⟨e,false,1,1,g⟩:OB).g i=[.i k (((l++[x]).getD i 0:Nat):Int)]:=by
 obtain rfl:l=[]:=zAA h;refine⟨⟨rfl,rfl,rfl,rfl⟩,fun i b=>?_⟩;obtain rfl:i=0:=by simp at b;omega
 exact a
theorem ybfl{e n:Nat}{k:IntKind}{l:List Nat}{x:Nat}{g g':Nat->List SV}(d:n=l.length)(b:∀i,i<l.length->g i=[.i k ((l.getD i 0:Nat):Int)])(a:g' 0=[.i k (x:Int)]) :
 ((⟨e,false,1,n+1,fun i=>if i<n then g i else g' (i-n)⟩:OB).e=e/\(⟨e,false,1,n+1,fun i=>if i<n then g i else g' (i-n)⟩:OB).bx=false/\(⟨e,false,1,n+1,fun i=>if i<n then g i else g' (i-n)⟩:OB).z=1/\(⟨e,false,1,n+1,fun i=>if i<n then g i else g' (i-n)⟩:OB).n=(l++[x]).length) /\
   ∀i,i<(l++[x]).length->(⟨e,false,1,n+1,fun i=>if i<n then g i else g' (i-n)⟩:OB).g i=[.i k (((l++[x]).getD i 0:Nat):Int)]:=by
 subst d;refine⟨⟨rfl,rfl,rfl,by rw[zH];rfl⟩,fun i c=>?_⟩
 show(if i<l.length then g i else g' (i-l.length))=_
 by_cases q:i<l.length
 .rw[if_pos q,b i q];simp[zO,zU q]
 .have:i=l.length:=by simp at c;omega
  subst this;rw[if_neg q,zBB,a];simp[zO]
theorem ypm{F e j:Nat}{k:IntKind}{f:Nat->List Nat}{b O:Own}(ρ:List (Nat×(Nat->Nm))){X:List SV}(i:X=[if (f j).length=0 then .a (.slice none 0 0)else .os (rid ρ (F,j)) 0 (f j).length true])(h:lookO O (F,j)=rowB e k (f j)):telL (rid ρ) [] [] b O X [rowC F f j]:=by
 subst i;obtain⟨⟨c,d⟩,g⟩:=ykp (X:=if (f j).length=0 then .a (.slice none 0 0)else .os (rid ρ (F,j)) 0 (f j).length true) ρ rfl h
 exact⟨.inl ⟨(yif _ _ _).2 trivial,by rw[yej];exact c,d⟩,g,trivial⟩
theorem ybee{a b c d t i:Nat}(f:c≠a)(g:c≠b):((c,d):Nm)=(if i=t then((a,0):Nm)else(b,i))->False:=fun e=>by
 split at e
 .exact f (congrArg Prod.fst e)
 .exact g (congrArg Prod.fst e)
theorem ysn{a b c d t i:Nat}(f:c≠a)(g:c≠b):(if i=t then((a,0):Nm)else(b,i))=((c,d):Nm)->False:=fun e=>ybee f g e.symm
theorem yzx{a b t i j:Nat}(h:a≠b)(e:(if i=t then((a,0):Nm)else(b,i))=if j=t then((a,0):Nm)else(b,j)):i=j:=by
 by_cases c:i=t<;>by_cases d:j=t
 .omega
 .rw[if_pos c,if_neg d]at e;exact absurd (congrArg Prod.fst e) h
 .rw[if_neg c,if_pos d]at e;exact absurd (congrArg Prod.fst e).symm h
 .rw[if_neg c,if_neg d]at e;exact congrArg Prod.snd e
theorem ybmz{S:Spc}(h:S.ok):Returns zD 179 [.ag (spcC S)] (.sl 1 S.N fun j=>[yco (srcS S j)]):=by
 refine Returns.of (ydhv _ _ ?_);have G:=h.le;simp only[c179,yddd,ycwu,ydco,spcC,ybk,clash,go_sem,zA,zB,zC,↓reduceIte,reduceCtorEq];refine⟨by omega,?_⟩
 let o:Nat->Nat->Own:=fun k i=>[(1,spcO S),(11,.one (some ⟨22,false,1,S.N,fun j=>[rowC 60 (yhb S k i) j]⟩)),(60,yin 3 .i64 (yhb S k i))]
 refine ybd (σ:=Nat) (fun k=>⟨[(15,.i .i64 k),(14,.i .i64 (S.N:Nat)),(13,.sl 1 S.N fun k=>[ybk (S.arcs k)]),(1,.pt (1,0) 0 0),(3,.os (11,0) 0 S.N true)],o k 0⟩) (fun k=>k<=S.N) (fun k=>S.N-k) 0 (zT _) ?_ ?_
 .refine yu ?_;simp only[o,spcO,spcC,ybk,rowC,yin,rowB,yzd,wk,go_sem,zA,zC,↓reduceIte,reduceCtorEq]
 .intro k hk
  by_cases s:k<S.N
  .have d1 := dec_lt s;have D:=h.len s;simp only[ycdr,ycsu,ycvy,o,ybk,d1,clash,go_sem,zA,zB,↓reduceIte,reduceCtorEq];refine⟨⟨by omega,by omega⟩,?_⟩
   refine ybd (σ:=Nat) (fun i=>⟨[(22,.i .i64 i),(21,.i .i64 ((S.arcs k).length:Nat)),(20,ybk (S.arcs k)),(4,.i .i64 k),(15,.i .i64 k),(14,.i .i64 (S.N:Nat)),(13,.sl 1 S.N fun k=>[ybk (S.arcs k)]),(1,.pt (1,0) 0 0),(3,.os (11,0) 0 S.N true)],o k i⟩)
    (fun i=>i<=(S.arcs k).length) (fun i=>(S.arcs k).length-i) 0 (zT _) ?_ ?_
   .refine yu ?_;simp only[o,spcO,spcC,ybk,yin,wk,go_sem,zA,zC,↓reduceIte,reduceCtorEq];exact⟨fun _ _ _ _ e=>e,fun i _=>ykp [] rfl rfl,fun i b c=>⟨b,c,yed rfl c (yfh c)⟩⟩
   .intro i A
    by_cases m:i<(S.arcs k).length
    .have z:=h.to k s i m;obtain⟨⟨a,t⟩,n⟩:∃p,(S.arcs k).getD i (0,0)=p:=⟨_,rfl⟩;rw[n]at z;simp only at z;have d2:=dec_lt m;have l:=ybto S m;rw[n]at l;simp only at l;have x:=yxb h (k:=k) (i:=i) (by omega) (by omega) (by omega) t
     obtain⟨f,w⟩:∃f,yhb S k i=f:=⟨_,rfl⟩;obtain⟨u,r⟩:∃f,yhb S k (i+1)=f:=⟨_,rfl⟩;rw[w]at l x;rw[r]at l;have d:∀j,¬j=t->u j=f j:=fun j E=>by rw[l,if_neg E]
     have g:u t=f t++[k]:=by rw[l,if_pos rfl]
     by_cases q:(f t).length=0
     .simp only[ybqb,ybxr,yccu,ychk,ybbz,o,spcO,spcC,ybk,d2,n,w,rowC,yin,rowB,q,clash,go_sem,zA,zB,zG,zC,Nat.reduceMul,↓reduceIte,reduceCtorEq]
      repeat refine ybc ?_
      refine ycb (i+1) ?_;refine ybw [(60,fun j=>if j=t then(36,0)else(60,j))] [] [] ?_
      simp only[r,wk,go_sem,zA,zC,↓reduceIte,reduceCtorEq];refine⟨⟨fun i _=>ybee (by decide) (by decide),fun i _=>ybee (by decide) (by decide),fun i _=>ysn (by decide) (by decide),fun i _=>ysn (by decide) (by decide),fun i _ j _=>yzx (by decide)⟩,by omega,fun i A=>?_,fun i b c=>?_⟩
      .refine ypm (F:=60) (e:=3) (k:=.i64) (f:=u) [(60,fun j=>if j=t then(36,0)else(60,j))] ?_ rfl
       by_cases e:i=t
       .subst e;have v:(u i).length=1:=by rw[g,zH,q];rfl
        simp only[v,go_sem,↓reduceIte,reduceCtorEq]
       .simp only[d i e,e,go_sem,↓reduceIte]
      .by_cases e:i=t
       .subst e;rw[g]at c;simp only[go_sem,zA,↓reduceIte];exact yed (e:=3) (k:=.i64) rfl c (ybqp q rfl)
       .rw[d i e]at c;simp only[e,go_sem,zA,↓reduceIte];exact⟨_,c,yed (e:=3) (k:=.i64) rfl c (yfh (e:=3) (k:=.i64) c)⟩
     .have I:0<(f t).length:=by omega
      simp only[ybqb,ybxr,yccu,ychk,ybbz,o,spcO,spcC,ybk,d2,n,w,rowC,yin,rowB,q,clash,go_sem,zA,zB,zG,zC,↓reduceIte,reduceCtorEq]
      repeat refine ybc ?_
      refine ycb (i+1) ?_;refine ybw [(60,fun j=>if j=t then(36,0)else(60,j))] [] [] ?_
      simp only[r,wk,go_sem,zA,zC,↓reduceIte,reduceCtorEq];refine⟨⟨fun i _=>ybee (by decide) (by decide),fun i _=>ybee (by decide) (by decide),fun i _=>ysn (by decide) (by decide),fun i _=>ysn (by decide) (by decide),fun i _ j _=>yzx (by decide)⟩,by omega,fun i A=>?_,fun i b c=>?_⟩
      .refine ypm (F:=60) (e:=3) (k:=.i64) (f:=u) [(60,fun j=>if j=t then(36,0)else(60,j))] ?_ rfl
       by_cases e:i=t
       .subst e;have v:(u i).length=(f i).length+1:=by rw[g,zH];rfl
        have C:¬(f i).length+1=0:=by omega
        simp only[v,C,go_sem,↓reduceIte]
       .simp only[d i e,e,go_sem,↓reduceIte]
      .by_cases e:i=t
       .subst e;rw[g]at c;simp only[go_sem,zA,↓reduceIte];exact yed (e:=3) (k:=.i64) rfl c (ybfl (g':=fun i=>zCI 1 (zCJ (i*1) [.i .i64 (k:Int)])) rfl (fun _ _=>rfl) rfl)
       .rw[d i e]at c;simp only[e,go_sem,zA,↓reduceIte];exact⟨_,c,yed (e:=3) (k:=.i64) rfl c (yfh (e:=3) (k:=.i64) c)⟩
    .obtain rfl:i=(S.arcs k).length:=by omega
     have y:yhb S k (S.arcs k).length=yhb S (k+1) 0:=funext fun j=>ybai S k j;simp only[ybqb,ybbz,o,spcO,spcC,ybk,zL,clash,y,go_sem,zA,zB,↓reduceIte,reduceCtorEq];refine⟨ikw (by omega) (by omega),?_⟩
     refine ycb (k+1) ?_;refine yu ?_;simp only[yin,wk,go_sem,zA,zC,↓reduceIte,reduceCtorEq];exact⟨fun _ _ _ _ e=>e,by omega,fun i _=>ykp [] rfl rfl,fun i b c=>⟨b,c,yed rfl c (yfh c)⟩⟩
  .obtain rfl:k=S.N:=by omega
   simp only[ycdr,ychz,o,spcO,zL,go_sem,zA,zB,↓reduceIte,reduceCtorEq];have B:∀q,q<S.N->(yhb S S.N 0 q).length<=262144:=fun q _=>yxb h (k:=S.N) (i:=0) (by omega) (by omega) (by omega) q
   refine⟨fun q H=>?_,ydu fun q H=>?_⟩
   .unfold rowC
    by_cases e:(yhb S S.N 0 q).length=0
    .simp only[e,go_sem,↓reduceIte]
    .simp only[e,yin,rowB,go_sem,zA,↓reduceIte]
   .unfold rowC
    by_cases e:(yhb S S.N 0 q).length=0
    .simp only[e,SimL,yco,srcS,go_sem,↓reduceIte];exact yblf
    .simp only[e,yin,rowB,SimL,yco,srcS,go_sem,zA,↓reduceIte];exact Sim.refl _
end Sh
end
section
namespace Sh
open Ev Go.RowKit
theorem Ct.fnd{P:Program}{g:FuncId}{args:List SV}{f:Type}{R:SV->f->Prop}{V:f->SV}{Q:SV->Prop}(h:Ct P g args fun r=>∃x,R r x)(n:∀r x,R r x->Sim r (V x))(l:∀r x,R r x->Q (V x)):Ct P g args Q:=fun G m p i j k=>by
 obtain⟨v,o,r,a,b,c,⟨x,d⟩,e⟩:=h G m p i j k;exact⟨v,o,V x,a,b,c,l r x d,n r x d _ _ _ e⟩
def natO(L:List Nat):Fam:=.one (some ⟨3,false,1,L.length,fun i=>[.i .i64 ((L.getD i 0:Nat):Int)]⟩)
theorem ybok(L:List Nat)(x:Nat){i:Nat}(a:i<L.length+1):(if i<L.length then[SV.i .i64 ((L.getD i 0:Nat):Int)]else zCI 1 (zCJ ((i-L.length)*1) [SV.i .i64 (x:Int)]))=[SV.i .i64 (((L++[x]).getD i 0:Nat):Int)]:=by
 by_cases q:i<L.length
 .rw[if_pos q];simp[zO,zU q]
 .obtain rfl:i=L.length:=by omega
  rw[if_neg q,zBB];simp[zO]
structure OrdL(S:Spc)(lg:Nat->Bool)(L:List Nat):Prop where
 lt:∀x∈L,x<S.N
 len:L.length=S.N
 all:∀k,k<S.N->k∈L
structure _root_.Go.Proofs.YthclbjjgfcgbgaaGreatDoor.Spc.free(S:Spc)(lg:Nat->Bool):Prop where
 ne:∀k,k<S.N->lg k=false->S.arcs k≠[]
 cyc:∀f m,Back S.N S.arcs f m->False
def yns(lg:Nat->Bool)(k:Nat):List Nat:=(zI k).filter lg
theorem ybzm(lg:Nat->Bool)(k:Nat):yns lg (k+1)=yns lg k++if lg k=true then[k]else[]:=by
 unfold yns;rw[zBA,zX];congr 1;cases h:lg k<;>simp[h]
theorem ybqi(lg:Nat->Bool)(k:Nat):(yns lg k).length<=k:=by
 have:=zAT lg (zI k);unfold yns
 simpa using this
theorem yckn{lg:Nat->Bool}{n k:Nat}(hk:k<n):k∈yns lg n↔lg k=true:=by
 unfold yns;rw[zBC,zBI];exact⟨fun h=>h.2,fun h=>⟨hk,h⟩⟩
theorem ydhy(lg:Nat->Bool)(n:Nat):(yns lg n).Nodup:=List.Pairwise.filter _ zCN
theorem ydll(lg:Nat->Bool)(n:Nat):∀x∈yns lg n,x<n:=fun x h=>List.mem_range.1 (List.mem_filter.1 h).1
theorem yfy{h:Nm->Nm}{a:List Nat}{b O:Own}{X:List SV}{k:IntKind}{x:Int}(e:X=[.i k x]):telL h a [] b O X [.i k x]:=by
 subst e;exact⟨.inl ⟨(yif _ _ _).2 trivial,by rw[yej];exact Sim.refl _,rfl⟩,rfl,trivial⟩
set_option maxHeartbeats 1000000 in
theorem ybqc{S:Spc}(h:S.ok){lg:Nat->Bool}(F:S.free lg):Ct zD 135 [.ag (spcC S),yba S.N lg] fun r=>∃L,Sim r (yco L)/\OrdL S lg L:=by
 refine ydma _ _ ?_;have M:=h.le;have D:=ybmz h;simp only[spcC,ybk,yco]at D;simp only[c135,yctl,yczj,ydcc,spcC,ybk,yba,clash,go_sem,zA,zB,zC];refine ybd (σ:=Nat) (fun k=>⟨[(15,.i .i64 k),(14,.i .i64 (S.N:Nat)),(13,yba S.N lg),(1,yba S.N lg),(2,.pt (2,0) 0 0),(5,.os (70,0) 0 (yns lg k).length true)],[(2,spcO S),(70,natO (yns lg k))]⟩) (fun k=>k<=S.N) (fun k=>S.N-k) 0 (zT _) ?_ ?_
 .refine ybw [] [70] [] ?_;simp only[spcO,spcC,ybk,yba,natO,show yns lg 0=[]from rfl,wk,go_sem,zA,zC,zDA]
  exact⟨(70,0),rfl,rfl,rfl⟩
 .intro k hk
  by_cases b:k<S.N
  .have d1:=dec_lt b;have s:=ybqi lg k;have f:=ybzm lg k;obtain⟨L,w⟩:∃L,yns lg k=L:=⟨_,rfl⟩;obtain⟨P,p⟩:∃L,yns lg (k+1)=L:=⟨_,rfl⟩;rw[w]at s;rw[w,p]at f;cases l:lg k with
   | true =>
     rw[l,if_pos rfl]at f;simp only[yboo,yccs,ybzb,ybyn,ycce,yba,natO,w,d1,l,clash,go_sem,zA,zB,zG,zC]
     repeat refine ybc ?_
     refine ycb (k+1) ?_;refine ybw [(70,fun i=>(24,i))] [] [] ?_;simp only[spcO,spcC,ybk,p,f,zH,wk,go_sem,zA,zC];exact⟨by omega,fun i m=>yfy (ybok L k m)⟩
   | false =>
     rw[l,if_neg (by decide),zAE]at f
     simp only[yboo,yccs,ybzb,ybyn,ycce,yba,natO,w,d1,l,clash,go_sem,zA,zB]
     repeat refine ybc ?_
     refine ycb (k+1) ?_;refine yu ?_;simp only[spcO,spcC,ybk,p,f,wk,go_sem,zA,zC];omega
  .obtain rfl:k=S.N:=by omega
   simp only[yboo,ydbs,natO,spcO,spcC,ybk,yba,zL,go_sem,zA,zB];have v:OrdI S lg (yns lg S.N) 0 0 fun _=>0:=OrdI.start (ydhy _ _) (ydll _ _) fun k hk=>yckn hk;have s:=ybqi lg S.N
   generalize yns lg S.N=L0 at v s
   refine D.use ?_;simp only[ybj,ycuw,ybxw,clash,go_sem,zA,zB,zC]
   repeat refine ybc ?_
   refine ybd (σ:=Nat×List Nat×(Nat->Nat)) (fun x=>⟨[(10,.i .i64 x.1),(5,.os (70,0) 0 x.2.1.length true),(9,.os (30,0) 0 S.N true),(8,.sl 1 S.N fun j=>[yco (srcS S j)]),(1,yba S.N lg),(2,.pt (2,0) 0 0)],
    [(2,spcO S),(70,natO x.2.1),(30,.one (some ⟨3,false,1,S.N,fun k=>[.i .i64 (x.2.2 k:Nat)]⟩))]⟩) (fun x=>OrdI S lg x.2.1 x.1 0 x.2.2) (fun x=>S.N+1-x.1) (0,L0,fun _=>0) v ?_ ?_
   .refine yu ?_;simp only[spcO,spcC,ybk,yba,natO,yco,wk,go_sem,zA,zC]
   .rintro⟨i,L,E⟩ e;simp only at e ⊢;have u:=e.len;have J:=e.hi
    by_cases b:i<L.length
    .have d1 := dec_lt b;obtain⟨x,g⟩:∃x,L.getD i 0=x:=⟨_,rfl⟩;have O:x<S.N:=by rw[<-g,getD_at b];exact e.lt _ (zS _)
     have B:=yxb h (k:=S.N) (i:=0) (by omega) (by omega) (by omega) x
     change (srcS S x).length<=262144 at B
     simp only[ybml,ybwd,ycik,natO,yco,yba,d1,g,clash,go_sem,zA,zB]
     repeat refine ybc ?_
     refine ybd (σ:=Nat×List Nat×(Nat->Nat)) (fun y=>⟨[(45,.i .i64 y.1),(44,.i .i64 ((srcS S x).length:Nat)),(43,yco (srcS S x)),(10,.i .i64 i),(5,.os (70,0) 0 y.2.1.length true),(9,.os (30,0) 0 S.N true),(8,.sl 1 S.N fun j=>[yco (srcS S j)]),(1,yba S.N lg),(2,.pt (2,0) 0 0)],
      [(2,spcO S),(70,natO y.2.1),(30,.one (some ⟨3,false,1,S.N,fun k=>[.i .i64 (y.2.2 k:Nat)]⟩))]⟩) (fun y=>OrdI S lg y.2.1 i y.1 y.2.2/\i<y.2.1.length/\y.2.1.getD i 0=x/\y.1<=(srcS S x).length) (fun y=>(srcS S x).length-y.1) (0,L,E) ⟨e,b,g,zT _⟩ ?_ ?_
     .refine yu ?_;simp only[spcO,spcC,ybk,yba,natO,yco,wk,go_sem,zA,zC]
     .rintro⟨j,L,E⟩ ⟨e,b,g,K⟩;simp only at e b g K ⊢;have u:=e.len
      by_cases c:j<(srcS S x).length
      .have d2:=dec_lt c;obtain⟨k,hk⟩:∃k,(srcS S x).getD j 0=k:=⟨_,rfl⟩;have hkN:k<S.N:=by rw[<-hk,getD_at c];exact ycny (.inr ⟨rfl,zAP _⟩) _ (zS _)
       have I:=h.len hkN;obtain⟨G,d⟩:=e.step b (by rw[g];exact c) (by rw[g];exact hk) hkN
       simp only at d;obtain⟨z,t⟩:∃z,(fun q=>if q=k then E k+1 else E q)=z:=⟨_,rfl⟩
       have o:∀(i:Nat),i<S.N->(if i=k then[SV.i .i64 ((E k:Int)+1)]else[SV.i .i64 (E i:Int)])=[SV.i .i64 (z i:Int)]:=fun i _=>by
        rw[<-t]
        by_cases q:i=k
        .simp only[if_pos q];rfl
        .simp only[if_neg q]
       rw[t]at d;cases l:lg k with
       | true =>
         rw[l,if_neg (fun q=>by cases q.1)]at d
         simp only[yxu,ybco,ybdp,ybcp,ybdr,natO,yco,yba,spcO,spcC,ybk,d2,hk,l,clash,go_sem,zA,zB]
         repeat refine ybc ?_
         refine yh (j+1,L,_) ⟨d,b,g,c⟩ (by show _-(j+1)<_-j;omega) ?_
         refine yu ?_;simp only[wk,go_sem,zA,zC];exact⟨by omega,fun i m=>yfy (o i m)⟩
       | false =>
         by_cases C:E k+1=(S.arcs k).length
         .rw[if_pos ⟨l,C⟩]at d;have d3:(((E k:Int)+1)==((S.arcs k).length:Int))=true:=by rw[beq_iff_eq];omega
          simp only[yxu,ybco,ybdp,ybcp,ycan,ybdr,natO,yco,yba,spcO,spcC,ybk,d2,d3,hk,l,clash,go_sem,zA,zB,zG,zC]
          repeat refine ybc ?_
          refine yh (j+1,L++[k],_) ⟨d,by show i<(L++[k]).length;rw[zH];omega,by show(L++[k]).getD i 0=x;rw[<-g];simp only[zO,zU b],c⟩ (by show _-(j+1)<_-j;omega) ?_
          refine ybw [(70,fun i=>(76,i))] [] [] ?_;simp only[zH,wk,go_sem,zA,zC];exact⟨by omega,fun i m=>yfy (ybok L k m),fun i m=>yfy (o i m)⟩
         .rw[if_neg (fun q=>C q.2)]at d;have d3:(((E k:Int)+1)==((S.arcs k).length:Int))=false:=by rw[beq_eq_false_iff_ne];omega
          simp only[yxu,ybco,ybdp,ybcp,ybdr,natO,yco,yba,spcO,spcC,ybk,d2,d3,hk,l,clash,go_sem,zA,zB]
          repeat refine ybc ?_
          refine yh (j+1,L,_) ⟨d,b,g,c⟩ (by show _-(j+1)<_-j;omega) ?_
          refine yu ?_;simp only[wk,go_sem,zA,zC];exact⟨by omega,fun i m=>yfy (o i m)⟩
      .obtain rfl:j=(srcS S x).length:=by omega
       have A:=e.next b (by rw[g])
       simp only[yxu,natO,yco,yba,spcO,spcC,ybk,zL,clash,go_sem,zA,zB]
       repeat refine ybc ?_
       refine yh (i+1,L,E) A (by show S.N+1-(i+1)<S.N+1-i;omega) ?_
       refine yu ?_;simp only[wk,go_sem,zA,zC];omega
    .obtain rfl:i=L.length:=by omega
     have n:=e.all (fun k hk a H=>h.mem hk H) F.ne F.cyc;simp only[ybml,ycch,natO,zL,go_sem,zA,zB];exact⟨L,Sim.refl _,e.lt,Nat.le_antisymm u (ydjl n),n⟩
def allO(n:Nat)(b:Bool):Fam:=.one (some ⟨4,false,1,n,fun _=>[.b b]⟩)
theorem ycbe{h:Nm->Nm}{a:List Nat}{c O:Own}{X:List SV}{x:Bool}(e:X=[.b x]):telL h a [] c O X [.b x]:=by
 subst e;exact⟨.inl ⟨(yif _ _ _).2 trivial,by rw[yej];exact Sim.refl _,rfl⟩,rfl,trivial⟩
set_option maxHeartbeats 1000000 in
theorem ybjl{S:Spc}(h:S.ok){lg:Nat->Bool}(p:S.free lg):Cm zD 72 [] [] [.ag (spcC S),yba S.N lg] fun r o=>r = .tp [.os (1,0) 0 S.N true,.i .i64 0]/\o=[(1,allO S.N true)]:=by
 refine ydhs [] [] _ _ _ ?_;have s:=h.le;have g:=ysj h lg;have j:=ybqc h p;simp only[spcC,ybk,yba]at g j;simp only[c72,ydob,ydmx,spcC,ybk,yba,clash,go_sem,zA,zB,zC];refine g.use ?_;simp only[ybj,yduc,ydsf,ydyo,clash,zAJ,go_sem,zA,zB,zC]
 repeat refine ybc ?_
 refine j.fnd (V:=yco) (fun r L h=>h.1) fun r L n=>?_;obtain⟨-,d,m,c⟩:=n;simp only[yco,go_sem]
 let mk:Nat->Nat->Bool:=fun i k=>decide (k∈L.take i)
 refine ybd (σ:=Nat) (fun i=>⟨[(23,.i .i64 i),(22,.i .i64 (L.length:Nat)),(21,yco L),(7,.os (18,0) 0 S.N true)],[(18,.one (some ⟨4,false,1,S.N,fun k=>[.b (mk i k)]⟩))]⟩) (fun i=>i<=L.length) (fun i=>L.length-i) 0 (zT _) ?_ ?_
 .refine yu ?_;simp only[yco,mk,wk,go_sem,zA,zC]
 .intro i l
  by_cases a:i<L.length
  .have d1:=dec_lt a;obtain⟨k,hk⟩:∃k,L.getD i 0=k:=⟨_,rfl⟩;have hkN:k<S.N:=by rw[<-hk,getD_at a];exact d _ (zS _)
   have f:∀q,mk (i+1) q=if q=k then true else mk i q:=fun q=>by
    show decide (q∈L.take (i+1))=if q=k then true else decide (q∈L.take i)
    rw[ygs 0 a,hk]
    by_cases e:q=k
    .simp[e]
    .simp[e]
   simp only[ydgw,yduw,ydty,yebb,yco,d1,hk,clash,go_sem,zA,zB]
   repeat refine ybc ?_
   refine ycb (i+1) ?_;refine yu ?_;simp only[f,wk,go_sem,zA,zC];refine⟨by omega,fun q _=>ycbe ?_⟩
   by_cases e:q=k
   .rw[if_pos e,if_pos e]
   .rw[if_neg e,if_neg e]
  .obtain rfl:i=L.length:=by omega
   simp only[ydgw,ycrg,yco,zL,yhi,go_sem,zA,zB];refine⟨.tp [.os (1,0) 0 S.N true,.i .i64 0],[(1,allO S.N true)],?_,?_,rfl,rfl⟩
   .refine ybn [(1,fun i=>(18,i))] [] [] ?_;simp only[allO,mk,zW,wk,go_sem,zC];exact fun i l=>c i l
   .simp only[allO,ycl,yfm,wk,go_sem]
set_option maxHeartbeats 1000000 in
theorem ycpr{S:Spc}(h:S.ok){lg:Nat->Bool}(d:S.free lg):Returns zD 17 [.ag (spcC S),yba S.N lg] (.tp [yba S.N fun _=>false,.i .i64 0]):=by
 refine Returns.of (ydiy [72] _ _ ?_);have f:=h.le;have c:=ybjl h d;simp only[spcC,ybk,yba]at c;simp only[c17,ydzr,ydqe,spcC,ybk,yba,clash,go_sem,zA,zB,zC,↓reduceIte,reduceCtorEq];refine yeu c [] 50 [] [] ?_ ?_
 .simp only[go_sem,to1,okN,ycl,yfm,yer,ydy,wk,go_sem,zB,↓reduceIte,reduceCtorEq]
 rintro r j ⟨rfl,rfl⟩;simp only[allO,yow,yln,nuF,nu,difN,yer,ydy,Fam.ren,OB.ren,dim,yid,ychb,yqh,yjx,go_sem,zA,zB,↓reduceIte,reduceCtorEq];simp only[ydro,ydti,clash,zAJ,go_sem,zA,zB,↓reduceIte];refine ybd (σ:=Nat) (fun i=>⟨[(20,.i .i64 i),(19,.i .i64 (S.N:Nat)),(6,.os (51,0) 0 S.N true)],[(51,.one (some ⟨4,false,1,S.N,fun k=>[.b (!decide (k<i))]⟩))]⟩) (fun i=>i<=S.N) (fun i=>S.N-i) 0 (zT _) ?_ ?_
 .refine yu ?_;simp only[go_sem,wk,go_sem,zA,zC,↓reduceIte,reduceCtorEq];exact fun i _=>by simp
 .intro i g
  by_cases a:i<S.N
  .have d1:=dec_lt a;simp only[ydin,yebm,ydoi,ydrl,d1,clash,go_sem,zA,zB,↓reduceIte,reduceCtorEq]
   repeat refine ybc ?_
   refine ycb (i+1) ?_;refine yu ?_;simp only[go_sem,wk,go_sem,zA,zC,↓reduceIte,reduceCtorEq];refine⟨by omega,fun q _=>ycbe ?_⟩
   by_cases e:q=i
   .subst e;rw[if_pos rfl];simp
   .rw[if_neg e];congr 2;rw[show decide (q<i)=decide (q<i+1)from decide_eq_decide.2 (by omega)]
  .obtain rfl:i=S.N:=by omega
   simp only[ydin,ydtf,zL,go_sem,zA,zB,↓reduceIte,reduceCtorEq];exact yyy ⟨ybql fun k hk=>by rw[decide_eq_true hk];rfl,Sim.refl _,trivial⟩
end Sh
end
section
namespace Sh
open Ev Go.RowKit
set_option maxHeartbeats 1000000 in
theorem ybil{S:Spc}(h:S.ok){lg:Nat->Bool}(d:S.free lg):Ct zD 74 [.ag (spcC S),yba S.N lg] fun r=>∃L,Sim r (.tp [yco L,.i .i64 0])/\OrdL S lg L:=by
 refine ydph _ _ ?_;have e:=h.le;have b:=ysj h lg;have c:=ybqc h d;simp only[spcC,ybk,yba]at b c;simp only[c74,yeae,ydmz,spcC,ybk,yba,clash,go_sem,zA,zB,zC];refine b.use ?_;simp only[ybj,ydpw,ydqz,ydux,clash,zAJ,go_sem,zA,zB];refine c.fnd (V:=yco) (fun r L h=>h.1) fun r L a=>?_;obtain⟨-,a⟩:=a;simp only[ydus,clash,yco,a.len,zL,go_sem,zA,zB];exact⟨L,by rw[a.len];exact Sim.refl _,a⟩
theorem ybvs{s t:Nat}(b:s<2^32):Returns zD 78 [.ag [.i .u32 (s:Nat),.i .i64 (t:Nat)]] (.i .i64 (popP s:Nat)):=by
 refine Returns.of (ydwm _ _ ?_);have a:=ybra b;simp only[c78,ydys,ydnn,clash,go_sem,zA,zB,zG,zC];refine a.use ?_;simp only[ybj,clash,go_sem,zA,zB];exact Sim.refl _
structure MvB(S:Spc)(lg:Nat->Bool)(B:Nat->Nat->Prop):Prop where
 zero:∀k,k<S.N->B k 0
 arc:∀k,k<S.N->lg k=false->∀i,i<(S.arcs k).length->∀x,B ((S.arcs k).getD i (0,0)).2 x->B k (popP ((S.arcs k).getD i (0,0)).1+x)
set_option maxHeartbeats 2000000 in
theorem ybnq{S:Spc}(h:S.ok){lg:Nat->Bool}(M:S.free lg){B:Nat->Nat->Prop}(I:MvB S lg B) :
 Ct zD 77 [.ag (spcC S),yba S.N lg,.fn 78 [] []] fun r=>∃f:Nat->Nat,Sim r (.tp [.sl 1 S.N fun k=>[.i .i64 (f k:Nat)],.i .i64 0])/\(∀k,k<S.N->B k (f k))/\∀k,k<S.N->f k<=1000000:=by
 refine ydsw _ _ ?_;have W:=h.le;have J:=ybil h M;simp only[spcC,ybk,yba]at J;simp only[c77,ydyy,ydrr,spcC,ybk,yba,clash,go_sem,zA,zB,zC];refine J.fnd (V:=fun L=>.tp [yco L,.i .i64 0]) (fun r L h=>h.1) fun r L P=>?_;obtain⟨-,G,O,K⟩:=P;simp only[ybj,ydou,ydyu,ydqc,clash,yco,zAJ,go_sem,zA,zB,zC]
 repeat refine ybc ?_
 refine ybd (σ:=Nat×(Nat->Nat)) (fun x=>⟨[(29,.i .i64 x.1),(28,.i .i64 (L.length:Nat)),(27,yco L),(10,.os (26,0) 0 S.N true),(1,yba S.N lg),(2,.fn 78 [] []),(3,.pt (3,0) 0 0)],
  [(3,spcO S),(26,.one (some ⟨3,false,1,S.N,fun k=>[.i .i64 (x.2 k:Nat)]⟩))]⟩) (fun x=>x.1<=L.length/\(∀k,k<S.N->B k (x.2 k))/\∀k,x.2 k<=24*x.1) (fun x=>L.length-x.1) (0,fun _=>0) ⟨zT _,I.zero,fun _=>zT _⟩ ?_ ?_
 .refine yu ?_;simp only[yco,yba,spcO,spcC,ybk,wk,go_sem,zA,zC]
 .rintro⟨i,f⟩ ⟨F,b,c⟩;simp only at F b c ⊢
  by_cases g:i<L.length
  .have d1 := dec_lt g;obtain⟨k,hk⟩:∃k,L.getD i 0=k:=⟨_,rfl⟩;have hkN:k<S.N:=by rw[<-hk,getD_at g];exact G _ (zS _)
   have R:=h.len hkN;cases H:lg k with
   | true =>
     simp only[ycjw,ydju,ydfm,yceg,yco,yba,d1,hk,H,clash,go_sem,zA,zB]
     repeat refine ybc ?_
     refine yh (i+1,f) ⟨g,b,fun q=>by have:=c q;show f q<=24*(i+1);omega⟩ (by show _-(i+1)<_-i;omega) ?_
     refine yu ?_;simp only[spcO,spcC,ybk,wk,go_sem,zA,zC];omega
   | false =>
     simp only[ycjw,ydju,ydfm,ydvq,yco,yba,spcO,spcC,ybk,d1,hk,H,clash,go_sem,zA,zB]
     repeat refine ybc ?_
     refine ybd (σ:=Nat×(Nat->Nat)) (fun y=>⟨[(43,.i .i64 y.1),(42,.i .i64 ((S.arcs k).length:Nat)),(41,ybk (S.arcs k)),(12,.i .i64 k),(29,.i .i64 i),(28,.i .i64 (L.length:Nat)),(27,yco L),(10,.os (26,0) 0 S.N true),(1,yba S.N lg),(2,.fn 78 [] []),(3,.pt (3,0) 0 0)],
      [(3,spcO S),(26,.one (some ⟨3,false,1,S.N,fun k=>[.i .i64 (y.2 k:Nat)]⟩))]⟩) (fun y=>y.1<=(S.arcs k).length/\(∀k,k<S.N->B k (y.2 k))/\(∀q,q≠k->y.2 q<=24*i)/\y.2 k<=24*(i+1)) (fun y=>(S.arcs k).length-y.1) (0,f) ⟨zT _,b,fun q _=>c q,by have:=c k;show f k<=24*(i+1);omega⟩ ?_ ?_
     .refine yu ?_;simp only[yco,yba,spcO,spcC,ybk,wk,go_sem,zA,zC]
     .rintro⟨j,f⟩ ⟨U,b,c,C⟩;simp only at U b c C ⊢
      by_cases d:j<(S.arcs k).length
      .have d2:=dec_lt d;have w:=h.to k hkN j d;have m:=(h.sub k hkN j d).1;have l:=I.arc k hkN H j d;have u:((S.arcs k).getD j (0,0)).2≠k:=fun e=>M.cyc (fun _=>k) 1 ⟨by omega,fun _=>rfl,fun _=>hkN,fun _=>⟨_,by rw[getD_at d];exact zS _,e⟩⟩
       obtain⟨⟨a,t⟩,z⟩:∃p,(S.arcs k).getD j (0,0)=p:=⟨_,rfl⟩;rw[z]at w m l u;simp only at w m l u;have Q:=ybvs (s:=a) (t:=t) (by omega)
       have X:=ydfw a m;have T:=c t u;obtain⟨n,A⟩:∃n:Nat->Nat,(fun q=>if q=k then max (f k) (popP a+f t)else f q)=n:=⟨_,rfl⟩
       have o:n k=max (f k) (popP a+f t):=by rw[<-A];simp
       have v:∀q,q≠k->n q=f q:=fun q e=>by rw[<-A];simp[e]
       have E:∀(i:Nat),i<S.N->(if i=k then[SV.i .i64 (max (f k:Int) ((popP a:Int)+(f t:Int)))]else[SV.i .i64 (f i:Int)])=[SV.i .i64 (n i:Int)]:=fun i _=>by
        by_cases q:i=k
        .subst q;rw[if_pos rfl,o];congr 2;omega
        .rw[if_neg q,v i q]
       simp only[ycfl,ydae,ydch,ycxv,yco,yba,spcO,spcC,ybk,d2,z,clash,go_sem,zA,zB,zC]
       repeat refine ybc ?_
       refine Q.use ?_;simp only[ybj,clash,go_sem,zA,zB]
       repeat refine ybc ?_
       refine yh (j+1,n) ⟨d,fun q D=>?_,fun q e=>by show n q<=_;rw[v q e];exact c q e,by show n k<=_;rw[o];omega⟩ (by show _-(j+1)<_-j;omega) ?_
       .show B q (n q)
        by_cases e:q=k
        .subst e;rw[o];rcases Nat.le_total (f q) (popP a+f t)with r|r
         .rw[Nat.max_eq_right r];exact l _ (b t w)
         .rw[Nat.max_eq_left r];exact b q D
        .rw[v q e];exact b q D
       refine yu ?_;simp only[wk,go_sem,zA,zC];exact⟨by omega,fun i F=>yfy (E i F)⟩
      .obtain rfl:j=(S.arcs k).length:=by omega
       simp only[ycfl,yceg,yco,yba,spcO,spcC,ybk,zL,clash,go_sem,zA,zB]
       repeat refine ybc ?_
       refine yh (i+1,f) ⟨g,b,fun q=>?_⟩ (by show _-(i+1)<_-i;omega) ?_
       .show f q<=24*(i+1)
        by_cases e:q=k
        .rw[e];exact C
        .have:=c q e;omega
       refine yu ?_;simp only[wk,go_sem,zA,zC];omega
  .obtain rfl:i=L.length:=by omega
   simp only[ycjw,ycsq,yco,zL,go_sem,zA,zB];exact⟨f,Sim.refl _,b,fun k _=>by have:=c k;omega⟩
theorem ycjh{S:Spc}(h:S.ok){lg:Nat->Bool}(a:S.free lg){B:Nat->Nat->Prop}(c:MvB S lg B) :
 Ct zD 20 [.ag (spcC S),yba S.N lg] fun r=>∃f:Nat->Nat,Sim r (.tp [.sl 1 S.N fun k=>[.i .i64 (f k:Nat)],.i .i64 0])/\(∀k,k<S.N->B k (f k))/\∀k,k<S.N->f k<=1000000:=by
 refine ydnl _ _ ?_;have b:=ybnq h a c;simp only[spcC,ybk,yba]at b;simp only[c20,ydpm,ydtc,spcC,ybk,yba,clash,go_sem,zA,zB,zC];refine b.fnd (V:=fun f:Nat->Nat=>.tp [.sl 1 S.N fun k=>[.i .i64 (f k:Nat)],.i .i64 0]) (fun r f h=>h.1) fun r f a=>?_;simp only[ybj,clash,go_sem,zA,zB];exact⟨f,Sim.refl _,a.2⟩
end Sh
end
section
def yca(s:Nat):List Nat:=(zI 32).filter s.testBit
theorem ybgs{p q:Nat->Bool}{n t:Nat}(j:t<n)(g:p t=true)(c:∀i,i<t->p i=false)(b:∀i,q i=(p i && !decide (i=t))):(zI n).filter p=t::(zI n).filter q:=by
 obtain⟨d,rfl⟩:∃d,n=t+(d+1):=⟨n-t-1,by omega⟩
 rw[List.range_add,zX,zX,List.range_succ_eq_map];have e:(zI t).filter p=[]:=List.filter_eq_nil_iff.2 fun x a=>by rw[c x (List.mem_range.1 a)];simp
 have f:(zI t).filter q=[]:=List.filter_eq_nil_iff.2 fun x a=>by rw[b,c x (List.mem_range.1 a)];simp
 rw[e,f,List.map_cons,zAL,zAL,zCE,List.filter_cons_of_pos g,List.filter_cons_of_neg (by rw[b];simp)]
 congr 1;refine List.filter_congr fun x a=>?_;obtain⟨y,h,rfl⟩:=List.mem_map.1 a;obtain⟨z,_,rfl⟩:=List.mem_map.1 h;rw[b];have:decide (t+z.succ=t)=false:=decide_eq_false (by omega)
 rw[this];simp
theorem yclr{x:Nat}(l:x≠0)(h:x<2^32):zAV 32 x<32/\x.testBit (zAV 32 x)=true/\(∀i,i<zAV 32 x->x.testBit i=false)/\∀i,(x&&&(x-1)).testBit i=(x.testBit i && !decide (i=zAV 32 x)):=by
 obtain⟨m,c,hk⟩:=Lib.ctzFrom_spec 32 x (by omega) h
 have e:zAV 32 x=zDR 32 x:=by simp[zAV,l]
 rw[e];obtain⟨k,b⟩:∃k,zDR 32 x=k:=⟨_,rfl⟩;rw[b]at c hk ⊢;have p:0<2^k:=zBU k
 have a:∀j,x.testBit j=if j<k then false else(2*m+1).testBit (j-k):=fun j=>by
  have:=zBK (2*m+1) p j;rw[zCE,<-c]at this;rw[this];simp
 have g:x-1=2^k*(2*m)+(2^k-1):=by
  have:2^k*(2*m+1)=2^k*(2*m)+2^k:=by rw[Nat.mul_add,zAR]
  omega
 have f:∀j,(x-1).testBit j=if j<k then(2^k-1).testBit j else(2*m).testBit (j-k):=fun j=>by
  rw[g];exact zBK (2*m) (show 2^k-1<2^k by omega) j
 refine⟨hk,by rw[a,if_neg (by omega),zBB];simp,fun i n=>by rw[a,if_pos n],fun i=>?_⟩
 rw[Nat.testBit_and,a,f]
 by_cases q:i<k
 .rw[if_pos q];simp
 .rw[if_neg q,if_neg q]
  by_cases d:i=k
  .subst d;simp
  .obtain⟨j,o⟩:∃j,i-k=j+1:=⟨i-k-1,by omega⟩
   rw[o,zCO,zCO,show(2*m+1)/2=m by omega,show 2*m/2=m by omega]
   simp[d]
theorem ysa:yca 0=[]:=List.filter_eq_nil_iff.2 fun x _=>by simp
theorem yrj{x:Nat}(a:x≠0)(h:x<2^32):yca x=zAV 32 x::yca (x&&&(x-1)):=by
 obtain⟨b,c,d,e⟩:=yclr a h;exact ybgs b c d e
def yec(s:Nat):Nat->Nat
 |0=>s
 |k+1=>yec s k&&&(yec s k-1)
theorem yqe{s:Nat}(h:s<2^32):∀k,yec s k<2^32
 |0=>h
 |k+1=>Nat.lt_of_le_of_lt Nat.and_le_left (yqe h k)
theorem ysm{s:Nat}(h:s<2^32):∀k,yca (yec s k)=(yca s).drop k
 |0=>by simp[yec]
 | k + 1=>by
   have a:=ysm h k;show yca (yec s k&&&(yec s k-1))=_
   by_cases b:yec s k=0
   .rw[b,ysa]at a;rw[b,Nat.zero_and,ysa,<-zCX,<-a];rfl
   .rw[yrj b (yqe h k)]at a;rw[<-zCX,<-a];rfl
theorem rest_end{s k:Nat}(h:s<2^32)(hk:k<=(yca s).length):yec s k=0↔k=(yca s).length:=by
 have a:=ysm h k;constructor
 .intro e;rw[e,ysa]at a;have:=congrArg List.length a;rw[List.length_drop,zBD]at this;omega
 .intro e;rw[e,List.drop_length]at a;refine zJ fun q=>?_;rw[<-e]at a;rw[yrj q (yqe h k)]at a;cases a
theorem ydij{s k:Nat}(h:s<2^32)(hk:k<(yca s).length):yec s k≠0/\zAV 32 (yec s k)=(yca s).getD k 0:=by
 have a:yec s k≠0:=fun e=>by have:=(rest_end h (Nat.le_of_lt hk)).1 e;omega
 refine⟨a,?_⟩;have b:=ysm h k;rw[yrj a (yqe h k),List.drop_eq_getElem_cons hk]at b;have:=(List.cons.inj b).1;rw[this,List.getD_eq_getElem?_getD,zQ hk];rfl
theorem ycad{s v:Nat}:v∈yca s↔v<32/\s.testBit v=true:=by
 unfold yca;rw[zBC,zBI]
end
section
open Go.RowKit
theorem ydvv(x a:Nat)(g:x<4294967296)(f:x≠0)(c:x&&&(4294967296-x)=a) :
 bits BinOp.and IntKind.u32 (x:Int) (-(x:Int)%4294967296)*125613361%4294967296/134217728=((a*125613361%4294967296/134217728:Nat):Int):=by
 have d:-(x:Int)%4294967296=((4294967296-x:Nat):Int):=by omega
 have e:bits BinOp.and IntKind.u32 (x:Int) ((4294967296-x:Nat):Int)=((x&&&(4294967296-x):Nat):Int):=u32_and (a:=x) (b:=4294967296-x) (by omega) (by omega)
 rw[d,e,c];omega
set_option maxHeartbeats 1000000 in
theorem ydio (x k idx:Nat) (w:World) (b:((x:Int)==0)=false) (key:bits BinOp.and IntKind.u32 (x:Int) (-(x:Int)%4294967296)*125613361%4294967296/134217728=(idx:Int))
 (d:idx<32) (hk:k<32) (a:w.cell? ⟨0,idx,none⟩=some (.int .u8 k)) :
 Calls zD 173 #[.int .u32 x] w fun e c=>e = .returned (.int .i64 k)/\c=w:=by
 go_enter zDH,zDB
 go_wp2_with (simp only[key])
 go_ret
 exact⟨rfl,rfl⟩
theorem ydkj(w:World):Calls zD 173 #[.int .u32 0] w fun e a=>e = .returned (.int .i64 32)/\a=w:=by
 go_enter zDH,zDB
 go_wp2
 go_ret
 exact⟨rfl,rfl⟩
theorem ydyk{w:World}{x:Nat}(k:x<2^32)(f:∃e h,w.heap[0]?=some (.cells Ev.ybjf.toArray e h)) :
 Calls zD 173 #[.int .u32 x] w fun e m=>e = .returned (.int .i64 (zAV 32 x))/\m=w:=by
 by_cases a:x=0
 .subst a;exact ydkj w
 .obtain⟨b,hk⟩:=Lib.lowest_bit 32 x a k;obtain⟨i,c⟩:=Lib.deBruijn32_at _ hk;obtain⟨e,h,f⟩:=f;refine ydio x _ _ w (by simp;omega) (ydvv x _ k a b) i hk ?_
  have d:∀j,j<32->([0,1,28,2,29,14,24,3,30,22,20,15,25,17,4,8,31,27,13,23,21,19,16,7,26,12,18,6,11,5,10,9]:List Int)[j]?=some ((Lib.deBruijn32tab.getD j 0:Nat):Int):=by decide +kernel
  have g:∀j,j<32->Ev.ybjf[j]?=some (.int .u8 (Lib.deBruijn32tab.getD j 0:Nat)):=fun j l=>by
   unfold Ev.ybjf;rw[List.getElem?_map,d j l];rfl
  rw[World.cell?,f];have:=g _ i;rw[c]at this
  simpa using this
namespace Sh
open Ev
end Sh
end
section
namespace Sh
open Go Ev Go.RowKit
section
variable {m:Mem}{F:AM}
theorem row_of{z c p n cp N e u:Nat}{Tb:Ev.T Value}{L:Nat->List Value}(q:m.b.get c=some (.cells Tb N e u))(v:0<n)(r:p+n*z<=N)(f:∀a,a<n->(L a).length=z)(s:∀a,a<n->∀j,j<z->Tb.get (p+a*z+j)=(L a)[j]?) :
 rowOf m z (.slice (some ⟨c,p,none⟩) n cp)=some (ycu L n,[c]):=by
 have i:=ydg f;show(bif zDV n 0 then _ else _)=_;rw[show zDV n 0=false by cases n with|zero=>omega|succ n=>rfl]
 simp only[cond_false];rw[q];simp only;rw[zAB r];simp only[cond_true]
 have g:=yib (T:=Tb) (L:=ycu L n) (o:=p) (fun j h=>by
  rw[i]at h;rcases zBL z with d|d
  .subst d;omega
  .have t:=zCT j z;have k:=zCS j d;have hk:j/z<n:=Nat.div_lt_of_lt_mul (by rwa [zV]at h)
   have l:j=j/z*z+j%z:=by rw[zV];exact t.symm
   rw[l,yhe f _ _ hk k,<-zCB];exact s _ hk _ k)
 rw[i]at g;rw[g]
theorem row_zero{u:Value}(h:Z0 u)(z:Nat):rowOf m z u=some ([],[]):=by
 rcases h with rfl|⟨b,o,c,rfl⟩
 .rfl
 .rfl
theorem in64{n:Int}(h:I64 n):yyl n=true:=by
 unfold I64 at h;unfold yyl;split
 .rename_i k;exact zAB (by simp only[Int.ofNat_eq_natCast]at h;omega)
 .rename_i k;exact zAB (by omega)
theorem yst{a b:Int}(c:I64 a)(d:I64 b):∀{l:List Value}{r:List (Int×Int)},yjf l=some r->yjf (l++[.int .i64 a,.int .i64 b])=some (r++[(a,b)])
 | [],r,h=>by
   cases h
   show(bif yyl a&&yyl b then _ else _)=_;rw[in64 c,in64 d];rfl
 | .int .i64 x :: .int .i64 y::l,r,h=>by
   unfold yjf at h;split at h
   .rename_i g f
    rw[zCP]at h;split at h
    .rename_i e
     cases h
     show(match yjf (l++[.int .i64 a,.int .i64 b])with|some r=>bif yyl x&&yyl y then some ((x,y)::r)else none|none=>none)=_
     rw[yst c d f];simp only[e,cond_true];rfl
    .cases h
   .cases h
theorem ybsk(s:Le F m.b.get){ls:List (Int×Int)}{u:Value}(h:RV F om0 (yx ls) u)(t:∀l∈ls,I64 l.1/\I64 l.2):yos m u=some ls:=by
 unfold yos;rcases h.sl_inv with⟨c,z⟩|⟨B,p,C,T,N,e,H,L,rfl,j,D,k,o,q,r,E⟩
 .rw[row_zero z];have:ls=[]:=zAA c;subst this;rfl
 .rcases zBL ls.length with c|c
  .have:ls=[]:=zAA c;subst this;rfl
  .rw[row_of (s _ _ j) c k o q]
   have:∀n,n<=ls.length->yjf (ycu L n)=some (ls.take n):=by
    intro n
    induction n with
    |zero=>intro _;rfl
    | succ n A =>
      intro G;have a:n<ls.length:=by omega
      have d:=r n a
      have g:L n=[.int .i64 ls[n].1,.int .i64 ls[n].2]:=by
       have f:ls.getD n (0,0)=ls[n]:=by simp[zO,a]
       rw[f]at d;obtain⟨x,y,i,v,w⟩:=rvl2 d;rw[i,v.int_inv,w.int_inv]
      show yjf (ycu L n++L n)=_;rw[g,zK a];have:=t ls[n] (zS a);exact yst this.1 this.2 (A (by omega))
   simp only;rw[this _ (zAP _),zW]
theorem ycib{L:Nat->List Value}{n:Nat}(h:∀a,a<n->(L a).length=1){k:Nat}(hk:k<n):(ycu L n)[k]?=(L k)[0]?:=by
 have:=yhe h k 0 hk (by omega)
 simpa using this
end
end Sh
end
section
namespace Ev
open Go Go.RowKit
theorem ybpf(v:Value):(T.sets .leaf 0 [v]).get 0=some v:=yccn (l:=[v]) (j:=0) (by simp)
noncomputable def ybaz(x:Nat):ABlk:=.cells (T.sets .leaf 0 [.int .u32 x]) 1 77 0
def setAt(b x:Nat)(m:Mem):Prop:=∃c,m.b.get b=some (.cells c 1 77 0)/\c.get 0=some (.int .u32 x)
section
variable {φ:Phi}{M:AM}{w:World}{m:Mem}{b x y:Nat}
theorem ybbr(h:setAt b x m)(q:Rel φ M w)(r:Sub m M):∃l a,φ b=some l/\l.sz=0/\l.base+1<=l.size/\l.ob=none/\w.heap[l.blk]?=some (.cells a 77 (0,0))/\a.size=l.size/\a[l.base]?=some (.int .u32 x):=by
 obtain⟨c,o,p⟩:=h;obtain⟨l,a,A,B,d,f,g,i,j,k,n⟩:=q.cellsAt (r _ _ o);obtain⟨u,v,z⟩:=i (by decide)
 subst u v;obtain⟨C,s,t⟩:=n 0 _ (by omega) p
 have e:=t.eq_simple rfl;subst e;exact⟨l,a.toArray,d,f,g,z,j,by simpa using k,by simpa using s⟩
theorem ydjj(h:setAt b x m)(i:Rel φ M w)(p:Sub m M){l:Loc}(k:φ b=some l) :
 Rel φ (upd M b (some (ybaz y))) (w.setCell ⟨l.blk,l.base,none⟩ (.int .u32 y))/\WG φ M w φ (upd M b (some (ybaz y))) (w.setCell ⟨l.blk,l.base,none⟩ (.int .u32 y)):=by
 obtain⟨B,a,e,r,s,f,g,t,z⟩:=ybbr h i p;rw[k]at e;cases e
 obtain⟨c,u,_⟩:=h;rw[setCell_eq_setRow w l.blk l.base a _ _ _ g];refine i.setRow (p _ _ u) k ⟨r,s,(a.setIfInBounds l.base (.int .u32 y)).toList,77,(0,0),⟨fun _=>⟨rfl,rfl,f⟩,fun o n=>(by rw[f]at n;cases n)⟩,?_,by simpa using t,fun j v A q=>?_⟩
 .rw[Array.toArray_toList];exact setRow_heap w _ _ _ _ _ g
 .obtain rfl:j=0:=by omega
  rw[ybpf]at q;cases q
  refine⟨.int .u32 y,?_,.simple rfl⟩;have d:l.base<a.size:=by omega
  simp[d]
end
noncomputable def ytb(b y:Nat)(m:Mem):Mem:=m.app (.upd b (ybaz y))
theorem ybry(b y:Nat)(m:Mem)(i:Nat):(ytb b y m).b.get i=if i=b then some (ybaz y)else m.b.get i:=by
 unfold ytb;rw[Sh.ybeb];exact T.set_at _ _ _ _
noncomputable def ycxc(b s:Nat):It where
 n:=(yca s).length
 el:=fun k=>[.int .i64 ((yca s).getD k 0:Nat)]
 pre:=fun k m=>setAt b (yec s k) m
 adv:=fun k m=>ytb b (yec s (k+1)) m
 step:=fun k φ M w M' w'=>∃l,φ b=some l/\M'=upd M b (some (ybaz (yec s (k+1))))/\w'=w.setCell ⟨l.blk,l.base,none⟩ (.int .u32 (yec s (k+1):Nat))
theorem ydgi{a:Nat}(d:a≠0)(h:a<2^32):bits BinOp.and IntKind.u32 (a:Int) (IntKind.wrap .u32 ((a:Int)-1))=((a&&&(a-1):Nat):Int):=by
 have e:IntKind.wrap .u32 ((a:Int)-1)=((a-1:Nat):Int):=by
  have c:(a:Int)-1=((a-1:Nat):Int):=by omega
  rw[c];exact yni (by omega)
 rw[e];exact u32_and (a:=a) (b:=a-1) h (by omega)
set_option maxRecDepth 100000 in
set_option maxHeartbeats 2000000 in
theorem ycpi{b s:Nat}(r:s<2^32):ItOk zD 172 [.pointer (some ⟨b,0,none⟩)] (ycxc b s):=by
 refine⟨fun V w=>yby yua zDI rfl V w,fun k m hk hw hp=>?_,?_,?_⟩
 .obtain⟨c,h1,_⟩:=hp;have hb:=hw _ _ h1;show Grow m (ytb b _ m);unfold ytb
  exact⟨ybyg hw (fun i hi=>by
   have hi:i∈[b]:=hi;rw[List.mem_singleton.1 hi];exact⟨_,h1⟩),(yve m _).1⟩
 .rintro k φ M w m U w' hk hw hR hs hp ⟨l,hl,rfl,rfl⟩;obtain⟨r1,r2⟩:=ydjj (y:=yec s (k+1)) hp hR hs hl;obtain⟨c,h1,_⟩:=hp;refine⟨φ.le_refl,fun _ _=>rfl,r1,fun i x B=>?_,fun i hi o=>?_,r2⟩
  .have B:(ytb b (yec s (k+1)) m).b.get i=some x:=B;rw[ybry]at B;show(if i=b then _ else _)=_
   split at B
   .rename_i q;rw[if_pos q];exact B
   .rename_i q;rw[if_neg q];exact hs _ _ B
  .show(if i=b then _ else _)=_
   rw[if_neg fun q=>?_];subst q;rcases o with o|o
   .rw[h1]at o;cases o
   .have o:i<(ytb i (yec s (k+1)) m).low:=o;unfold ytb at o;rw[Sh.ybeb]at o;have o:i<Nat.min m.low i:=o;exact absurd o (Nat.not_lt.2 (Nat.min_le_right m.low i))
 .intro l St b1 φ M w b2 d p n O H;obtain⟨box,rfl,G⟩:=ygo H;obtain⟨C,R,_,rfl⟩:=G.ptr_inv;obtain⟨N,hN⟩:∃N,(yca s).length=N:=⟨_,rfl⟩;have K:=zF d;have J:=zF p;have Hyield:=zF n;have H0:=zF O;have Hlc:=zF R
  have g:Hid (∀k f U W,St k f U W->φ.le f/\W.cell? ⟨C.blk,C.base,none⟩=some (.int .u32 (yec s k:Nat))/\W.frozen? ⟨C.blk,C.base,none⟩=false/\(∃e fz,W.heap[0]?=some (.cells ybjf.toArray e fz))/\C.blk<W.heap.size):=zF fun k f U W t=>by
   obtain⟨a2,m,hR,a8,a4⟩:=d k f U W t;obtain⟨l',cs,Y,g2,g3,g4,L,g6,g7⟩:=ybbr a4 hR a8;rw[a2 _ _ R]at Y;cases Y
   exact⟨a2,by simp[World.cell?,L,g7],by simp[World.frozen?,L],(hR.gl _ rfl).1,(Array.getElem?_eq_some_iff.1 L).1⟩
  clear d p n O G R H
  refine callsIn_of_wp zDI rfl trivial ?_
  simp only[Tryz.ntmps172,zBM,zAH,zBD,zB,zCC,zBE,
   zBF,zBN,zBG,zAL,zBR]
  gi_wp2
  gi_loopg [] N (fun q wr=>∃k:Nat,q+k=N/\Hid (∃f U,φ.le f/\St k f U wr))
  case atStart=>exact⟨0,by omega,zF ⟨φ,M,φ.le_refl,H0.out⟩⟩
  case round =>
   obtain⟨k,hq,t⟩:=hrel;obtain⟨T,M1,h,a⟩:=t.out;obtain⟨_,a1,b5,Q,b3⟩:=g.out _ _ _ _ a
   by_cases b7:k<N
   .obtain⟨O,hz⟩:=ydij r (k:=k) (by omega)
    have A:=yqe r k;have F:=ydgi O A;have E:yec s (k+1)=yec s k&&&(yec s k-1):=rfl;obtain⟨x,B⟩:∃x,yec s k=x:=⟨_,rfl⟩;obtain⟨y,hy⟩:∃y,yec s (k+1)=y:=⟨_,rfl⟩;rw[B]at a1 O hz A F E;rw[hy]at E;rw[<-E]at F;have b8:((x:Int)!=0)=true:=by rw[bne_iff_ne];omega
    have S:=ydyk (w:=wr) (x:=x) A Q;rw[hz]at S;obtain⟨v,hv⟩:∃v,(yca s).getD k 0=v:=⟨_,rfl⟩
    obtain⟨fn,a7,D,X,a5,P⟩:=Hyield.out k T M1 wr [.int .i64 (v:Nat)] (by show k<(yca s).length;omega) a (by
     show VRL T [.int .i64 ((yca s).getD k 0:Nat)] _;rw[hv];exact .cons (.simple rfl) .nil)
    rw[hv]at S;have a6:(Instr.yield l #[.int .i64 (v:Int)]).run zD wr = .ok (.round l fn a7 D X) wr:=a5;have Hst1:=zF a;have Hle1:=zF h;have Hy:=zF hy;have Hx:=zF B
    clear t a h a5 Q hz E B hy
    gi_wp2
    refine⟨trivial,callsIn_wide.2 (S.mono ?_)⟩;rintro e w' ⟨rfl,rfl⟩
    gi_wp2
    refine P.mono ?_;rintro e W3 (⟨rfl,b0,M3,j,⟨m3,Z,a0,a3⟩,I⟩|⟨rfl,u⟩)
    .obtain⟨l',cs,Y,g2,g3,g4,L,g6,g7⟩:=ybbr a3 Z a0;rw[j _ _ (Hle1.out _ _ Hlc.out)]at Y;cases Y
     have b4:W3.cell? ⟨C.blk,C.base,none⟩=some (.int .u32 (x:Nat)):=by
      have a9:yec s k=x:=Hx.out;simp[World.cell?,L,g7,a9]
     have b6:W3.frozen? ⟨C.blk,C.base,none⟩=false:=by simp[World.frozen?,L]
     have Hst3:=zF (I _ _ ⟨C,j _ _ (Hle1.out _ _ Hlc.out),rfl,rfl⟩);have Hle3:=zF j
     clear I j P a6 Z a0 a3 g2 g3 g4 L g6 g7
     gi_wp2
     gi_roundg (gk-1)
     case measure=>omega
     case rel =>
      have z:=Hst3.out;rw[Hy.out]at z;refine⟨k+1,by omega,zF ⟨b0,upd M3 b (some (ybaz y)),Phi.le_trans Hle1.out Hle3.out,?_⟩⟩
      clear K J Hyield H0 g Hst3
      have e1:IntKind.wrap .u32 ((x:Int)-1)=(x:Int)-1:=by
       have e:(x:Int)-1=((x-1:Nat):Int):=by omega
       rw[e];exact yni (by omega)
      rw[e1]at F;rw[F];exact z
    .have Hstop:=zF u
     clear u P a6
     gi_wp2
     refine bodyPost_ret (results_none rfl _ _ _) rfl ?_;exact⟨⟨_,rfl⟩,.inr Hstop.out⟩
   .have hk:k=N:=by omega
    have O:yec s k=0:=(rest_end r (by omega)).2 (by omega)
    rw[O]at a1;have Hst1:=zF a;have Hle1:=zF h
    clear t a h Q
    gi_wp2
    go_end0
    exact⟨⟨_,rfl⟩,.inl ⟨T,M1,by
     have:=Hst1.out;rw[hk,<-hN]at this;exact this⟩⟩
end Ev
end
section
section
variable {nm nc nr:ByteArray}{g:Gr}{c:Conf}{u v s:Nat}
end
end
section
end
section
namespace Sh
open Ev Go.RowKit
def setO(x:Nat):OB:=⟨77,true,1,1,fun _=>[.i .u32 x]⟩
def ycbp(b s:Nat):ItS:=⟨(yca s).length,fun k=>[.i .i64 ((yca s).getD k 0:Nat)],[(b,0)],fun k o=>lookO o (b,0)=some (setO (yec s k)),fun k o=>(SS.own ⟨[],o⟩ (b,0) (some (setO (yec s (k+1))))).o⟩
theorem yces{b s:Nat}(G:s<2^32):ItC zD 172 [.pt (b,0) 0 0] (ycbp b s):=by
 intro Q F U K f m S C E hown;obtain⟨u,rfl,H⟩:=rvl1 E;obtain⟨k,z,hk,rfl⟩:=H.pt_inv;have c:lookO K.o (b,0)=some (setO (yec s 0)):=hown;obtain⟨l,_⟩:=C.ownAt c hk (.inl (show(1:Nat)≠0 by decide))
 have l:z=1:=l;subst l;refine⟨ycxc k s,ycpi G,rfl,fun x p J M R j O n d P a=>?_⟩;have g:=n (b,0) zM _ hk;have a:lookO J.o (b,0)=some (setO (yec s j)):=a;obtain⟨_,Tb,L,y,A⟩:=d.ownAt a g (.inl (show(1:Nat)≠0 by decide))
 obtain⟨N,h,_,B⟩:=A 0 (by show 0<1;omega)
 refine⟨?_,fun D=>⟨.cons .i .nil,?_⟩⟩
 .refine⟨Tb,y,?_⟩;have r:=B 0 (by show 0<1;omega)
  have h:RVL x p [.i .u32 (yec s j:Nat)] (L 0):=h;obtain⟨v,e,I⟩:=rvl1 h;rw[e,I.int_inv]at r;exact r
 .exact d.upd (b:=setO (yec s (j+1))) ⟨_,a⟩ g (show 77≠CU by decide) (Tb:=T.sets .leaf 0 [.int .u32 (yec s (j+1):Nat)]) (L:=fun _=>[.int .u32 (yec s (j+1):Nat)]) fun i t=>by
   have t:i<1:=t;obtain rfl:i=0:=by omega
   refine⟨rfl,.cons .i .nil,rfl,fun q w=>?_⟩;have w:q<1:=w;obtain rfl:q=0:=by omega
   exact ybpf _
theorem yclv{s:Nat}:Cm zD 129 [] [] [.i .u32 s] fun r o=>r = .fn 172 [] [.pt (1,0) 0 0]/\o=[(1,.one (some (setO s)))]:=by
 refine ycmc [] [] _ _ _ ?_;simp only[c129,ydcw,yctx,clash,yhi,go_sem,zA,zB,zC];refine⟨.fn 172 [] [.pt (1,0) 0 0],[(1,.one (some (setO s)))],?_,?_,rfl,rfl⟩
 .refine yu ?_;simp only[setO,wk,go_sem,zC]
 .simp only[setO,ycl,yfm,wk,go_sem]
theorem ycpb{s v:Nat}(b:s<2^24)(h:v∈yca s):v<24/\s.testBit v=true:=by
 have a:=(ycad.1 h).2;refine⟨zJ fun q=>?_,a⟩;rw[zBW (zCG b (zBZ (by omega) (by omega)))]at a
 cases a
theorem getD_mem{l:List Nat}{k:Nat}(h:k<l.length):l.getD k 0∈l:=by rw[getD_at h];exact zS h
end Sh
end
section
namespace Sh
open Ev Go.RowKit
end Sh
end
section
namespace Sh
open Go Ev
end Sh
end
section
structure LdC(g:Gr)(c:Conf):Prop where
 len:c.length=g.ids.length
 row:∀v,v<g.ids.length->(c.getD v []).length=3/\(0<=(c.getD v []).getD 0 0/\(c.getD v []).getD 0 0<=ybsd g)/\(0<=(c.getD v []).getD 1 0/\(c.getD v []).getD 1 0<g.ids.length)/\(-1<=(c.getD v []).getD 2 0/\(c.getD v []).getD 2 0<(g.ports.getD v []).length)
section
variable {nm nl nd np no nj:ByteArray}{g:Gr}{c:Conf}{v:Nat}
end
end
section
section
variable {nm nl nd np no nj:ByteArray}{g:Gr}{c:Conf}{v:Nat}
end
end
section
section
variable {nm nl nd np no nj:ByteArray}{g:Gr}{c:Conf}{v:Nat}
theorem key_eq{a b x y n:Int}(d:0<=x/\x<n)(e:0<=y/\y<n):a*n+x=b*n+y↔a=b/\x=y:=by
 constructor
 .intro h;have f:(a*n+x)/n=a:=by rw[zDJ,zBX _ _ (by omega),zBY d.1 d.2,zDK]
  have i:(b*n+y)/n=b:=by rw[zDJ,zBX _ _ (by omega),zBY e.1 e.2,zDK]
  have j:a=b:=by rw[<-f,<-i,h]
  subst j;exact⟨rfl,by omega⟩
 .rintro⟨rfl,rfl⟩;rfl
end
end
section
namespace Sh
open Ev Go.RowKit
end Sh
end
section
namespace Sh
open Ev Go.RowKit
end Sh
end
section
namespace Sh
open Ev Go.RowKit
end Sh
end
section
def chTo(perm:Nat->Bool)(e n:Nat):List Nat:=(zI n).filter fun s=>decide (s≠0/\s&&&e=s)&&perm s
def chP(perm:Nat->Bool)(e:Nat):List Nat:=chTo perm e 16
def nxB(e s:Nat):Nat:=((s+4294967296-e)%4294967296)&&&e
set_option maxRecDepth 100000 in
theorem ybfw:∀e,e<16->e≠0->(4294967296-e)&&&e≠0/\(4294967296-e)&&&e<16/\((4294967296-e)&&&e)&&&e=(4294967296-e)&&&e/\∀t,t<16->t≠0->t&&&e=t->(4294967296-e)&&&e<=t:=by decide +kernel
set_option maxRecDepth 100000 in
theorem ybns:((zI 16).all fun e=>(zI 16).all fun s=>s==0 || !(s&&&e==s)||(nxB e s==0&&(zI 16).all fun t=>!(t&&&e==t)||zDT t s)||(zCK s (nxB e s)&&zCK (nxB e s) 16&&(nxB e s&&&e==nxB e s)&&(zI 16).all fun t=>!(t&&&e==t)||zDT t s||zDT (nxB e s) t))=true:=by decide +kernel
theorem ybtl(e:Nat)(k:e<16)(s:Nat)(l:s<16)(i:s≠0)(j:s&&&e=s):(nxB e s=0/\∀t,t<16->t&&&e=t->t<=s)\/(s<nxB e s/\nxB e s<16/\nxB e s&&&e=nxB e s/\∀t,t<16->t&&&e=t->s<t->nxB e s<=t):=by
 have h:=List.all_eq_true.1 (List.all_eq_true.1 ybns e (List.mem_range.2 k)) s (List.mem_range.2 l);rw[zAF,zAF,zAF]at h;rcases h with((h|h)|h)|h
 .exact absurd (beq_iff_eq.1 h) i
 .rw[zBO,beq_eq_false_iff_ne]at h;exact absurd j h
 .rw[zAC,beq_iff_eq]at h;refine .inl ⟨h.1,fun t g f=>?_⟩;have:=List.all_eq_true.1 h.2 t (List.mem_range.2 g);rw[zAF,zBO,beq_eq_false_iff_ne]at this;exact this.elim (fun q=>absurd f q) zY
 .rw[zAC,zAC,zAC,beq_iff_eq]at h;obtain⟨⟨⟨a,b⟩,c⟩,d⟩:=h;have a:s+1<=nxB e s:=zY a;have b:nxB e s+1<=16:=zY b;refine .inr ⟨a,b,c,fun t g f m=>?_⟩;have:=List.all_eq_true.1 d t (List.mem_range.2 g);rw[zAF,zAF,zBO,beq_eq_false_iff_ne]at this;rcases this with(q|q)|q
  .exact absurd f q
  .have:=zY q;omega
  .exact zY q
theorem yli{perm:Nat->Bool}{e n:Nat}:∀d,(∀t,n<=t->t<n+d->¬(t≠0/\t&&&e=t))->chTo perm e (n+d)=chTo perm e n
 |0,_=>rfl
 | d+1,h=>by
   have b:=yli (perm:=perm) d fun t a c=>h t a (by omega)
   rw[<-b,<-zCB];unfold chTo;rw[zBA,zX];have:=h (n+d) (by omega) (by omega)
   simp only[zAS,decide_eq_false this,Bool.false_and,zBJ,if_false,zCU,zAE]
theorem ybxi{perm:Nat->Bool}{e s:Nat}(h:s≠0/\s&&&e=s):chTo perm e (s+1)=chTo perm e s++if perm s=true then[s]else[]:=by
 unfold chTo;rw[zBA,zX];congr 1;cases a:perm s<;>simp only[zAS,decide_eq_true h,a,zCY,zCU]<;>rfl
theorem ybpr{perm:Nat->Bool}{e l:Nat}(h:∀t,t<l->¬(t≠0/\t&&&e=t)):chTo perm e l=[]:=by
 have:=yli (perm:=perm) (n:=0) l fun t _ a=>h t (by omega)
 rw[zDD]at this;exact this
theorem ybrf{perm:Nat->Bool}{e n s:Nat}(h:s∈chTo perm e n):s<n/\s≠0/\s&&&e=s/\perm s=true:=by
 unfold chTo at h;rw[zBC,zBI,zAC,decide_eq_true_iff]at h;exact⟨h.1,h.2.1.1,h.2.1.2,h.2.2⟩
theorem yblw(perm:Nat->Bool)(e n:Nat):(chTo perm e n).Pairwise (· < ·):=List.Pairwise.filter _ List.pairwise_lt_range
theorem ybeh(perm:Nat->Bool)(e n:Nat):(chTo perm e n).length<=n:=by
 have:=zAT (fun s=>decide (s≠0/\s&&&e=s)&&perm s) (zI n);unfold chTo
 simpa using this
theorem ybpy(perm:Nat->Bool):chP perm 0=[]:=by
 unfold chP;refine ybpr fun t _ h=>h.1 ?_;rw[<-h.2,Nat.and_zero]
theorem ydsn{perm:Nat->Bool}{e:Nat}(f:e<16)(a:e≠0)(g:perm ((4294967296-e)&&&e)=true):chP perm e≠[]:=fun h=>by
 obtain⟨b,c,d,_⟩:=ybfw e f a
 have:((4294967296-e)&&&e)∈chP perm e:=by
  unfold chP chTo;rw[zBC,zBI,zAC,decide_eq_true_iff];exact⟨c,⟨b,d⟩,g⟩
 rw[h]at this;cases this
theorem ydjq{a b:Nat}(c:a<2^32)(d:b<2^32):IntKind.wrap .u32 ((a:Int)-(b:Int))=(((a+4294967296-b)%4294967296:Nat):Int):=by
 unfold IntKind.wrap;simp[IntKind.bits,IntKind.signed];omega
namespace Sh
open Ev Go.RowKit
def usO(F:Nat)(L:List Nat):Nat×Fam:=(F,.one (some ⟨77,false,1,L.length,fun i=>[.i .u32 ((L.getD i 0:Nat):Int)]⟩))
theorem ydfz(L:List Nat)(x:Nat){i:Nat}(a:i<L.length+1):(if i<L.length then[SV.i .u32 ((L.getD i 0:Nat):Int)]else zCI 1 (zCJ ((i-L.length)*1) [SV.i .u32 (x:Int)]))=[SV.i .u32 (((L++[x]).getD i 0:Nat):Int)]:=by
 by_cases q:i<L.length
 .rw[if_pos q];simp[zO,zU q]
 .obtain rfl:i=L.length:=by omega
  rw[if_neg q,zBB];simp[zO]
set_option maxHeartbeats 1000000 in
theorem ybmc{net:List Nat}{kind:Int}(O:kind=2\/kind=3){e:Nat}(v:e<16){perm:Nat->Bool}(j:∀s,s≠0->s<16->s&&&e=s->Returns zD 171 [usV net,.i .i64 kind,.i .u32 (e:Nat),.i .u32 (s:Nat)] (.b (perm s))) :
 Returns zD 128 [usV net,.i .i64 kind,.i .u32 (e:Nat)] (.tp [usV (chP perm e),.i .i64 0]):=by
 refine Returns.of (ydgk _ _ ?_)
 by_cases D:e=0
 .subst D;rw[ybpy];simp only[c128,ycee,ycgu,ycrv,usV,clash,zCQ,go_sem,zA,zB];exact yyy ⟨yblf,Sim.refl _,trivial⟩
 .have U : ((e:Int)==0)=false:=by rw[beq_eq_false_iff_ne];omega
  have Q:(kind==1)=false:=by rw[beq_eq_false_iff_ne];omega
  have R:(kind==4)=false:=by rw[beq_eq_false_iff_ne];omega
  have M:=ybra (s:=e) (by omega)
  have P:popP e<=10:=(by decide +kernel:∀e,e<16->popP e<=10) e v
  have d1:decide (((popP e:Nat):Int)>10)=false:=by simp;omega
  have K:=u32_neg (a:=e) (by omega) (by omega)
  have q:=u32_and (a:=2^32-e) (b:=e) (by omega) (by omega)
  simp only[IntKind.bits]at q;obtain⟨x,H,I,J⟩:=ybfw e v D
  change ((4294967296-e)&&&e)≠0 at x
  obtain⟨l,F⟩:∃l,(4294967296-e)&&&e=l:=⟨_,rfl⟩;have w:(2^32-e)&&&e=l:=F;rw[F]at x H I J;rw[w]at q;simp only[c128,ycee,ycgu,ycxl,ydcx,ycpy,ycft,ycgc,usV,U,Q,R,clash,go_sem,zA,zB,zC];refine M.use ?_;simp only[ybj,ycao,d1,K,q,IntKind.signed,clash,go_sem,zA,zB]
  refine ybd (σ:=Nat×List Nat) (fun y=>⟨[(10,.i .u32 (y.1:Nat)),(8,.pt (8,0) 0 0),(0,usV net),(1,.i .i64 kind),(2,.i .u32 (e:Nat))],[(8,.one (some ⟨38,true,1,1,fun _=>[.os (70,0) 0 y.2.length true]⟩)),usO 70 y.2]⟩)
   (fun y=>(y.1=0/\y.2=chP perm e)\/(y.1≠0/\y.1<16/\y.1&&&e=y.1/\y.2=chTo perm e y.1)) (fun y=>if y.1=0 then 0 else 16-y.1) (l,[]) (.inr ⟨x,H,I,(ybpr fun t V h=>by have:=J t (by omega) h.1 h.2;omega).symm⟩) ?_ ?_
  .refine ybw [] [70] [] ?_;simp only[usV,usO,wk,go_sem,zA,zC,zDA];exact fun i _=>⟨(70,0),rfl,rfl,rfl⟩
  .rintro⟨s,L⟩ f;simp only at f;rcases f with⟨rfl,rfl⟩|⟨g,k,o,rfl⟩
   .simp only[ybjy,ybxq,usV,usO,zCQ,zAJ,clash,go_sem,zA,zB];exact Sim.refl _
   .simp only at g k o ⊢;have d2:((s:Int)!=0)=true:=by rw[bne_iff_ne];omega
    have C:=ydjq (a:=s) (b:=e) (by omega) (by omega)
    have m:=u32_and (a:=(s+4294967296-e)%4294967296) (b:=e) (by omega) (by omega)
    change _=((nxB e s:Nat):Int)at m
    simp only[IntKind.bits]at m;have E:=j s g k o;have c:=ybxi (perm:=perm) ⟨g,o⟩;have u:=ybeh perm e s
    have d:∀L,L=chTo perm e (s+1)->((nxB e s=0/\L=chP perm e)\/(nxB e s≠0/\nxB e s<16/\nxB e s&&&e=nxB e s/\L=chTo perm e (nxB e s)))/\(if nxB e s=0 then 0 else 16-nxB e s)<(if s=0 then 0 else 16-s):=fun L p=>by
     subst p;rw[if_neg g];rcases ybtl e v s k g o with⟨z,A⟩|⟨z,A,S,T⟩
     .refine⟨.inl ⟨z,?_⟩,by rw[if_pos z];omega⟩
      have:=yli (perm:=perm) (e:=e) (n:=s+1) (16-(s+1)) fun t g k h=>by have:=A t (by omega) h.2;omega
      rw[show s+1+(16-(s+1))=16 by omega]at this
      exact this.symm
     .refine⟨.inr ⟨by omega,A,S,?_⟩,by rw[if_neg (by omega)];omega⟩
      have:=yli (perm:=perm) (e:=e) (n:=s+1) (nxB e s-(s+1)) fun t g k h=>by have:=T t (by omega) h.2 (by omega);omega
      rw[show s+1+(nxB e s-(s+1))=nxB e s by omega]at this
      exact this.symm
    obtain⟨L,p⟩:∃L,chTo perm e s=L:=⟨_,rfl⟩;obtain⟨B,r⟩:∃L,chTo perm e (s+1)=L:=⟨_,rfl⟩;rw[p]at u c;rw[r]at c d;simp only[usV]at E;simp only[ybjy,ybwl,usV,usO,d2,p,clash,go_sem,zA,zB];refine E.use ?_;cases G:perm s with
    | true =>
      rw[G,if_pos rfl]at c;simp only[ybj,ybmj,ycbm,C,m,clash,go_sem,zA,zB,zG,zC]
      repeat refine ybc ?_
      refine yh (nxB e s,B) (d _ rfl).1 (d _ rfl).2 ?_;refine ybw [(70,fun i=>(51,i))] [] [] ?_;simp only[c,zH,wk,go_sem,zA,zC];exact fun i N=>yfy (ydfz L s N)
    | false =>
      rw[G,if_neg (by decide),zAE]at c
      simp only[ybj,ybmj,C,m,clash,go_sem,zA,zB]
      repeat refine ybc ?_
      refine yh (nxB e s,B) (d _ rfl).1 (d _ rfl).2 ?_;refine yu ?_;simp only[c,wk,go_sem,zA,zC]
theorem ybpl{s e:Nat}(h:s&&&e=s):difB s e=0:=by
 unfold difB;rw[h,Nat.xor_self]
end Sh
end
section
namespace Ev
open Go Go.RowKit
noncomputable def ybha(m:Mem)(A:Addr):Option Value:=match A.spot,m.b.get A.block with
 |none,some (.cells c n _ _)=>bif zCK A.off n then c.get A.off else none
 |_,_=>none
section
variable {φ φ':Phi}{M:AM}{w:World}{m:Mem}
theorem ybdk{A:Addr}{v box:Value}(h:ybha m A=some v)(r:VR φ (.pointer (some A)) box)(i:Rel φ M w)(p:Sub m M) :
 ∃b o s,box = .pointer (some ⟨b,o,none⟩)/\w.cell? ⟨b,o,none⟩=some s/\VR φ v s:=by
 unfold ybha at h;split at h
 .rename_i c n e z q j
  rw[zCP]at h;split at h
  .rename_i a
   have a:A.off<n:=zY a;obtain⟨F,x,y,B,d,C,D,_,f,E,g⟩:=i.cellsAt (p _ _ j);obtain⟨s,t,u⟩:=g _ _ a h;cases r with
   |simple l=>cases l
   | ptr k =>
     rw[k]at d;cases d
     exact⟨_,_,s,rfl,cell_of f t,u⟩
  .cases h
 .cases h
end
abbrev ydjr(x:Int×Int):Value:=.agg #[.int .i64 x.1,.int .i64 x.2]
set_option maxRecDepth 100000 in
set_option maxHeartbeats 1000000 in
theorem ycmi{A:Addr}{v:Value}{us:List Value}:ItOk zD 133 [.pointer (some A)]
 ⟨us.length,fun k=>[.int .i64 ((us.length-1-k:Nat):Int),us.getD (us.length-1-k) undef],fun _ m=>ybha m A=some v/\∃ft,rowOf m 1 v=some (us,ft),fun _ m=>m,fun _ _ M w R w'=>R=M/\w'=w⟩:=by
 refine⟨fun E w=>yby yua zDL rfl E w,fun k m hk hw _=>Grow.refl hw,?_,?_⟩
 .rintro k φ M w m R w' hk hw G K hp ⟨rfl,rfl⟩;exact Good.refl G K
 .intro l St a2 φ M w a3 a C d U H;obtain⟨box,rfl,f⟩:=ygo H;obtain⟨m,G,K,N,ft,O⟩:=(a 0 φ M w U).2;obtain⟨b,o,s,rfl,V,L⟩:=ybdk N f G K;obtain⟨As,cs,rfl,b0,b1⟩:=ycc (yczt O L G K);have Hread:=zF a;have Hyield:=zF d;have Hbox:=zF f;have H0:=zF U
  clear a C d L U f G K N O
  refine callsIn_of_wp zDL rfl trivial ?_
  simp only[Tryz.ntmps133,zBM,zAH,zBD,zB,zCC,zBE,
   zBF,zBN,zBG,zAL,zBR]
  gi_wp2
  gi_loopg [3] us.length (fun q t wr=>∃k:Nat,q+k=us.length/\t = .int .i64 ((us.length:Int)-1-k)/\Hid (∃φ' R,φ.le φ'/\St k φ' R wr))
  case atStart=>exact⟨0,by omega,by simp,zF ⟨φ,M,φ.le_refl,H0.out⟩⟩
  case round =>
   obtain⟨k,hq,rfl,D⟩:=hrel
   by_cases X:k<us.length
   .obtain⟨Q,M1,g,c⟩:=D.out;obtain⟨m1,z,h,N,a7,O⟩:=(Hread.out _ _ _ _ c).2;obtain⟨b',o',s',e1,S,y⟩:=ybdk N (Hbox.out.mono g) z h;cases e1
    obtain⟨a5,a6,rfl,e2,e3,e4⟩:=yczt O y z h;obtain⟨rb,ro,rfl,a9,e5⟩:=e4 (by omega)
    obtain⟨j,hj⟩:∃j,us.length-1-k=j:=⟨_,rfl⟩;have W:(us.length:Int)-1-k=(j:Int):=by omega
    have I:j<us.length:=by omega
    rw[W];obtain⟨r,Y,J⟩:=e5 j _ (zQ I);rw[zAR]at Y;have a8:(decide ((j:Int)>=0))=true:=by simp
    obtain⟨fn,P,n,F,T,B⟩:=Hyield.out k Q M1 wr [.int .i64 (j:Int),r] X c (by
     show VRL Q [.int .i64 ((us.length-1-k:Nat):Int),us.getD (us.length-1-k) undef] _;rw[hj,Sh.getD_at I];exact .cons (.simple rfl) (.cons J .nil))
    have T:(Instr.yield l #[.int .i64 (j:Int),r]).run zD wr = .ok (.round l fn P n F) wr:=T;have a1:=zF c;have Hle1:=zF g
    clear D c g N O z h y e5 e4 J
    gi_wp2
    refine B.mono ?_;rintro e W3 (⟨rfl,a0,M3,p,_,x⟩|⟨rfl,i⟩)
    .have Hst3:=zF (x _ _ ⟨rfl,rfl⟩);have Hle3:=zF p
     clear x p B T
     gi_wp2
     gi_roundg (gk-1)
     case measure=>omega
     case rel =>
      refine⟨k+1,by omega,?_,zF ⟨a0,M3,Phi.le_trans Hle1.out Hle3.out,Hst3.out⟩⟩
      congr 1;omega
    .have Hstop:=zF i
     clear i B T
     gi_wp2
     refine bodyPost_ret (results_none rfl _ _ _) rfl ?_;exact⟨⟨_,rfl⟩,.inr Hstop.out⟩
   .gi_wp2
    obtain⟨Z,M2,a4,u⟩:=D.out
    go_end0
    have hk:k=us.length:=by omega
    rw[hk]at u;exact⟨⟨_,rfl⟩,.inl ⟨Z,M2,u⟩⟩
set_option maxRecDepth 100000 in
set_option maxHeartbeats 1000000 in
theorem ycmk{A:Addr}{v:Value}{ls:List (Int×Int)}:ItOk zD 134 [.pointer (some A)]
 ⟨ls.length,fun k=>[.int .i64 ((ls.length-1-k:Nat):Int),ydjr (ls.getD (ls.length-1-k) (0,0))],fun _ m=>ybha m A=some v/\yos m v=some ls,fun _ m=>m,fun _ _ M w P w'=>P=M/\w'=w⟩:=by
 refine⟨fun E w=>yby yua zDM rfl E w,fun k m hk hw _=>Grow.refl hw,?_,?_⟩
 .rintro k φ M w m P w' hk hw G I hp ⟨rfl,rfl⟩;exact Good.refl G I
 .intro l St a1 φ M w a2 a C d S H;obtain⟨box,rfl,f⟩:=ygo H;obtain⟨m,G,I,K,L⟩:=(a 0 φ M w S).2;obtain⟨b,o,s,rfl,T,J⟩:=ybdk K f G I;obtain⟨As,cs,rfl,b0,b1⟩:=ycc (yrf L J G I);have Hread:=zF a;have Hyield:=zF d;have Hbox:=zF f;have H0:=zF S
  clear a C d J S f G I K L
  refine callsIn_of_wp zDM rfl trivial ?_
  simp only[Tryz.ntmps134,zBM,zAH,zBD,zB,zCC,zBE,
   zBF,zBN,zBG,zAL,zBR]
  gi_wp2
  gi_loopg [3] ls.length (fun q t wr=>∃k:Nat,q+k=ls.length/\t = .int .i64 ((ls.length:Int)-1-k)/\Hid (∃φ' P,φ.le φ'/\St k φ' P wr))
  case atStart=>exact⟨0,by omega,by simp,zF ⟨φ,M,φ.le_refl,H0.out⟩⟩
  case round =>
   obtain⟨k,hq,rfl,D⟩:=hrel
   by_cases W:k<ls.length
   .obtain⟨O,M1,g,c⟩:=D.out;obtain⟨m1,z,h,K,L⟩:=(Hread.out _ _ _ _ c).2;obtain⟨b',o',s',e1,Q,y⟩:=ybdk K (Hbox.out.mono g) z h;cases e1
    obtain⟨a4,a5,rfl,e2,e3,e4⟩:=yrf L y z h;obtain⟨rb,ro,rfl,a9,e5⟩:=e4 (by omega)
    obtain⟨j,hj⟩:∃j,ls.length-1-k=j:=⟨_,rfl⟩;have U:(ls.length:Int)-1-k=(j:Int):=by omega
    have V:j<ls.length:=by omega
    rw[U];obtain⟨x,hx⟩:∃x,ls[j]?=some x:=⟨_,zQ V⟩;obtain⟨a6,a7,_,_⟩:=e5 j x hx;have X:ls.getD j (0,0)=x:=by simp[zO,hx]
    have a8:(decide ((j:Int)>=0))=true:=by simp
    obtain⟨fn,N,n,F,R,B⟩:=Hyield.out k O M1 wr [.int .i64 (j:Int),.agg #[.int .i64 x.1,.int .i64 x.2]] W c (by
     show VRL O [.int .i64 ((ls.length-1-k:Nat):Int),ydjr (ls.getD (ls.length-1-k) (0,0))] _;rw[hj,X];exact .cons (.simple rfl) (.cons (VR.ydl (v:=ydjr x) rfl) .nil))
    have R:(Instr.yield l #[.int .i64 (j:Int),.agg #[.int .i64 x.1,.int .i64 x.2]]).run zD wr = .ok (.round l fn N n F) wr:=R;have a0:=zF c;have Hle1:=zF g
    clear D c g K L z h y e5 e4
    gi_wp2
    refine B.mono ?_;rintro e W3 (⟨rfl,Z,M3,p,_,u⟩|⟨rfl,i⟩)
    .have Hst3:=zF (u _ _ ⟨rfl,rfl⟩);have Hle3:=zF p
     clear u p B R
     gi_wp2
     gi_roundg (gk-1)
     case measure=>omega
     case rel =>
      refine⟨k+1,by omega,?_,zF ⟨Z,M3,Phi.le_trans Hle1.out Hle3.out,Hst3.out⟩⟩
      congr 1;omega
    .have Hstop:=zF i
     clear i B R
     gi_wp2
     refine bodyPost_ret (results_none rfl _ _ _) rfl ?_;exact⟨⟨_,rfl⟩,.inr Hstop.out⟩
   .gi_wp2
    obtain⟨Y,M2,a3,r⟩:=D.out
    go_end0
    have hk:k=ls.length:=by omega
    rw[hk]at r;exact⟨⟨_,rfl⟩,.inl ⟨Y,M2,r⟩⟩
end Ev
namespace Sh
open Ev
def bwdS(n:Nat)(e:Nat->SV):ItS:=⟨n,fun k=>[.i .i64 ((n-1-k:Nat):Int),e (n-1-k)],[],fun _ _=>True,fun _ o=>o⟩
theorem ybjh{ls:List (Int×Int)}(t:∀l∈ls,I64 l.1/\I64 l.2):ItC zD 134 [.rf [yx ls]] (bwdS ls.length fun k=>.ag [.i .i64 (ls.getD k (0,0)).1,.i .i64 (ls.getD k (0,0)).2]):=by
 intro H F O s f m J G x _;obtain⟨u,rfl,y⟩:=rvl1 x;obtain⟨j,p,T,N,e,K,L,rfl,n,o,q,r,E⟩:=y.rf_inv;obtain⟨v,rfl,z⟩:=rvl1 r;have h:RV F om0 (yx ls) v:=z
 have c:∀d:Mem,Le F d.b.get->ybha d ⟨j,p,none⟩=some v:=fun d g=>by
  unfold ybha;simp only;rw[g _ _ n];simp only;rw[show zCK p N=true from zAB (show p+1<=N by simp at o;omega)]
  simp only[cond_true];exact q 0 (by simp)
 exact⟨_,ycmk (A:=⟨j,p,none⟩) (v:=v) (ls:=ls),rfl,fun C B I D d k g _ a hk _=>⟨⟨c d (g.trans a.sub),ybsk (g.trans a.sub) h t⟩,fun hk=>⟨.cons .i (.cons (.ag (.cons .i (.cons .i .nil))) .nil),a⟩⟩⟩
theorem ybin{n:Nat}{e:Nat->SV}:ItC zD 133 [.rf [.sl 1 n fun k=>[e k]]] (bwdS n e):=by
 intro O F ω s f m us hc hr _;obtain⟨u,rfl,hu⟩:=rvl1 hr;obtain⟨C,p,T,N,ee,zz,L,rfl,X,Y,Z,h4,h5⟩:=hu.rf_inv;obtain⟨v,rfl,J⟩:=rvl1 h4
 have r:∀c:Mem,Le F c.b.get->ybha c ⟨C,p,none⟩=some v:=fun c g=>by
  unfold ybha;simp only;rw[g _ _ X];simp only;rw[show zCK p N=true from zAB (show p+1<=N by simp at Y;omega)]
  simp only[cond_true];exact Z 0 (by simp)
 have d:∀(us:List Value) (G:List Nat),(∀m:Mem,Le F m.b.get->rowOf m 1 v=some (us,G))->us.length=n->(∀(k:Nat) x,us[k]?=some x->RV F om0 (e k) x) ->
  ∃ T : It,ItOk zD 133 [.pointer (some ⟨C,p,none⟩)] T/\T.n=n /\
    ∀ (l:AM) (a:Om) (y:SS) (E:Fr) (c:Mem) (k:Nat),Le F l->(∀P∈(bwdS n e).pr,∀x,ω P=some x->a P=some x)->Conc O l a y E c->k<=n->(bwdS n e).own k y.o ->
      T.pre k c/\(k<n->RVL l a ((bwdS n e).el k) (T.el k)/\Conc O l a ⟨y.f,(bwdS n e).adv k y.o⟩ E (T.adv k c)):=fun us G t hl I=>by
  subst hl;refine⟨_,ycmi (A:=⟨C,p,none⟩) (v:=v) (us:=us),rfl,fun l a y E c k g _ j hk _=>⟨⟨r c (g.trans j.sub),G,t c (g.trans j.sub)⟩,fun hk=>⟨.cons .i (.cons ?_ .nil),j⟩⟩⟩;have K:us.length-1-k<us.length:=by omega
  have h:=I (us.length-1-k) _ (zQ K);rw[getD_at K];exact h.mono g (ysz _)
 rcases J.sl_inv with⟨k0,hz⟩|⟨D,p',cp,T',N',e',a0,Q,rfl,S,g2,U,z,V,W,g7⟩
 .subst k0;exact d [] [] (fun m _=>row_zero hz 1) rfl (fun k x q=>by simp at q)
 .rcases zBL n with H|H
  .subst H;exact d [] [] (fun m _=>rfl) rfl (fun k x q=>by simp at q)
  .refine d (ycu Q n) [D] (fun m g=>row_of (g _ _ S) H U z V) (by rw[ydg z,zAR]) fun k x B=>?_
   have hk:k<n:=by
    have:=(List.getElem?_eq_some_iff.1 B).1;rw[ydg z,zAR]at this;exact this
   rw[ycib z hk]at B;obtain⟨v,R,J⟩:=rvl1 (W k hk);rw[R]at B;cases B
   exact J
theorem ybjp{n:Nat}{e:Nat->SV}:Returns zD 67 [.sl 1 n fun k=>[e k]] (.fn 133 [] [.rf [.sl 1 n fun k=>[e k]]]):=by
 refine Returns.of (ydzp _ _ ?_);simp only[c67,ydvb,ydum,go_sem,zA,zB,zG,zC];exact Sim.refl _
theorem ybjo{ls:List (Int×Int)}:Returns zD 68 [yx ls] (.fn 134 [] [.rf [yx ls]]):=by
 refine Returns.of (ydxv _ _ ?_);simp only[c68,ydwj,ydrg,go_sem,zA,zB,zG,zC];exact Sim.refl _
end Sh
end
section
def yoy(S:Spc)(p s t:Nat):Nat:=difB p s&&&S.en t
def ygh(S:Spc)(p s t:Nat):Nat:=if yoy S p s t=0 then S.en t else yoy S p s t
namespace Sh
open Ev Go.RowKit
theorem yvd{S:Spc}(h:S.ok){k p s t:Nat}(e:p<2^32)(j:s<2^32)(l:t<S.N) :
 Returns zD 76 [.ag (spcC S),.ag [.i .i64 (k:Nat),.i .u32 (p:Nat)],.ag [.i .u32 (s:Nat),.i .i64 (t:Nat)]] (.tp [.ag [.i .i64 (t:Nat),.i .u32 (ygh S p s t:Nat)],.b (decide (yoy S p s t=0))]):=by
 refine Returns.of (ydsh _ _ ?_);have g:=h.le;have n:=h.lt t l;have d:=u32_andNot (a:=p) (b:=s) e j;have f:difB p s<2^32:=yvh e;have c:=u32_and (a:=difB p s) (b:=S.en t) f (by omega)
 change _=((yoy S p s t:Nat):Int)at c
 simp only[IntKind.bits]at d c;obtain⟨x,m⟩:∃x,yoy S p s t=x:=⟨_,rfl⟩;unfold ygh;rw[m]at c ⊢
 by_cases q:x=0
 .have d1:((x:Int)==0)=true:=by rw[q];rfl
  rw[if_pos q,decide_eq_true q];simp only[c76,ydmd,ydfq,ydki,ydnt,spcC,ybk,d,c,d1,splice,clash,go_sem,zA,zB,zG,zC]
  repeat refine ybc ?_
  exact Sim.refl _
 .have d1:((x:Int)==0)=false:=by rw[beq_eq_false_iff_ne];omega
  rw[if_neg q,decide_eq_false q];simp only[c76,ydmd,ydfq,ydki,ydpe,spcC,ybk,d,c,d1,splice,clash,go_sem,zA,zB,zG,zC]
  repeat refine ybc ?_
  exact Sim.refl _
def ygk(Q:List (Nat×Nat)):Fam:=.one (some ⟨109,false,2,Q.length,fun i=>[.i .i64 ((Q.getD i (0,0)).1:Nat),.i .u32 ((Q.getD i (0,0)).2:Nat)]⟩)
def yfs(N:Nat)(lg:Nat->Bool)(seen:Nat->Bool)(Q:List (Nat×Nat)):Own :=
 [(301,.one (some ⟨45,true,1,1,fun _=>[yba N lg]⟩)),(302,.one (some ⟨166,true,1,1,fun _=>[.mr (303,0)]⟩)),(303,.one (some ⟨CU,true,0,0,fun c=>[.b (seen c)]⟩)),
  (304,.one (some ⟨167,true,1,1,fun _=>[.os (305,0) 0 Q.length true]⟩)),(305,ygk Q)]
def addS(seen:Nat->Bool)(c:Nat):Nat->Bool:=fun d=>if d=c then true else seen d
theorem ycdq(Q:List (Nat×Nat))(x:Nat×Nat){i:Nat}(a:i<Q.length+1):(if i<Q.length then[SV.i .i64 ((Q.getD i (0,0)).1:Nat),SV.i .u32 ((Q.getD i (0,0)).2:Nat)]else zCI 2 (zCJ ((i-Q.length)*2) [SV.i .i64 (x.1:Int),SV.i .u32 (x.2:Int)]))=[SV.i .i64 (((Q++[x]).getD i (0,0)).1:Nat),SV.i .u32 (((Q++[x]).getD i (0,0)).2:Nat)]:=by
 by_cases q:i<Q.length
 .rw[if_pos q];simp[zO,zU q]
 .obtain rfl:i=Q.length:=by omega
  rw[if_neg q,zBB];simp[zO]
theorem ypx{h:Nm->Nm}{a:List Nat}{c O:Own}{X:List SV}{k b:IntKind}{x y:Int}(e:X=[.i k x,.i b y]):telL h a [] c O X [.i k x,.i b y]:=by
 subst e;exact⟨.inl ⟨(yif _ _ _).2 trivial,by rw[yej];exact Sim.refl _,rfl⟩,rfl,.inl ⟨(yif _ _ _).2 trivial,by rw[yej];exact Sim.refl _,rfl⟩,rfl,trivial⟩
theorem yeeg(x:Bool):mval 0 (.b x)=true:=rfl
theorem yebw(n:Int):mval 1 (.i .i64 n)=true:=rfl
set_option maxHeartbeats 1000000 in
theorem ydwh{N:Nat}{lg:Nat->Bool}{seen:Nat->Bool}{Q:List (Nat×Nat)}(f:Q.length<=300000){k s:Nat}(hk:k<N)(d:N<=32768)(g:s<2^32) :
 Cm zD 137 [(301,0),(302,0),(304,0)] (yfs N lg seen Q) [.ag [.i .i64 (k:Nat),.i .u32 (s:Nat)],.pt (301,0) 0 0,.pt (302,0) 0 0,.pt (304,0) 0 0]
  fun r o=>r = .tp []/\o=if lg k=false/\seen (mkey k s)=false then yfs N lg (addS seen (mkey k s)) (Q++[(k,s)])else yfs N lg seen Q:=by
 refine ycoa [(301,0),(302,0),(304,0)] [] _ _ _ ?_;cases c:lg k with
 | true =>
   rw[if_neg (fun q=>by cases q.1)]
   simp only[c137,ybof,ybpb,yfs,ygk,yba,c,clash,yhi,go_sem,zA,zB,zG,zC]
   repeat refine ybc ?_
   refine⟨.tp [],yfs N lg seen Q,?_,?_,rfl,rfl⟩
   .refine ybn [] [] [] ?_;simp only[yfs,ygk,yba,wk,go_sem,zA,zC]
   .simp only[yfs,ygk,yba,ycl,yfm,wk,go_sem,zA]
 | false =>
   cases a:seen (mkey k s)with
   | true =>
     rw[if_neg (fun q=>by cases q.2)]
     simp only[c137,ybof,ybpb,yfs,ygk,yba,c,a,clash,zCV,yhi,go_sem,zA,zB,zG,zC]
     repeat refine ybc ?_
     refine⟨.tp [],yfs N lg seen Q,?_,?_,rfl,rfl⟩
     .refine ybn [] [] [] ?_;simp only[yfs,ygk,yba,wk,go_sem,zA,zC]
     .simp only[yfs,ygk,yba,ycl,yfm,wk,go_sem,zA]
   | false =>
     rw[if_pos ⟨rfl,rfl⟩];simp only[c137,ybof,ybpb,ycse,yczv,yfs,ygk,yba,c,a,splice,clash,zCV,yeeg,yhi,go_sem,zA,zB,zG,zC]
     repeat refine ybc ?_
     refine⟨.tp [],yfs N lg (addS seen (mkey k s)) (Q++[(k,s)]),?_,?_,rfl,rfl⟩
     .refine ybn [(305,fun i=>(22,i))] [] [] ?_;simp only[yfs,ygk,yba,zH,wk,go_sem,zA,zC];refine⟨⟨fun i=>?_,fun i b=>absurd b (by omega)⟩,fun i b=>ypx (ycdq Q (k,s) b)⟩
      unfold addS
      by_cases e:i=mkey k s
      .rw[if_pos e,if_pos e]
      .rw[if_neg e,if_neg e]
     .simp only[yfs,ygk,yba,ycl,yfm,wk,go_sem,zA]
def yym(lg:Nat->Bool)(x:(Nat->Bool)×List (Nat×Nat))(k s:Nat):(Nat->Bool)×List (Nat×Nat):=if lg k=false/\x.1 (mkey k s)=false then(addS x.1 (mkey k s),x.2++[(k,s)])else x
theorem ybes{N:Nat}{lg:Nat->Bool}{x:(Nat->Bool)×List (Nat×Nat)}(d:x.2.length<=300000){k s:Nat}(hk:k<N)(c:N<=32768)(e:s<2^32) :
 Cm zD 137 [(301,0),(302,0),(304,0)] (yfs N lg x.1 x.2) [.ag [.i .i64 (k:Nat),.i .u32 (s:Nat)],.pt (301,0) 0 0,.pt (302,0) 0 0,.pt (304,0) 0 0]
  fun r o=>r = .tp []/\o=yfs N lg (yym lg x k s).1 (yym lg x k s).2:=by
 refine(ydwh d hk c e).mono fun r o ⟨a,b⟩=>⟨a,b.trans ?_⟩;unfold yym
 by_cases q:lg k=false/\x.1 (mkey k s)=false
 .rw[if_pos q,if_pos q]
 .rw[if_neg q,if_neg q]
structure QI(N n:Nat)(lg:Nat->Bool)(x:(Nat->Bool)×List (Nat×Nat)):Prop where
 nd:x.2.Nodup
 lt:∀p∈x.2,p.1<N/\p.2<2^n/\lg p.1=false
 seen:∀p∈x.2,x.1 (mkey (p.1:Nat) (p.2:Nat))=true
theorem QI.start(N n:Nat)(lg:Nat->Bool):QI N n lg (fun _=>false,[]):=⟨List.nodup_nil,fun _ h=>(nomatch h),fun _ h=>(nomatch h)⟩
theorem QI.step{N n:Nat}{lg:Nat->Bool}{x:(Nat->Bool)×List (Nat×Nat)}(h:QI N n lg x){k s:Nat}(hk:k<N)(g:s<2^n):QI N n lg (yym lg x k s):=by
 unfold yym
 by_cases q:lg k=false/\x.1 (mkey k s)=false
 .rw[if_pos q];refine⟨List.nodup_append.2 ⟨h.nd,zBS _ _,fun a d b f=>?_⟩,fun p c=>?_,fun p c=>?_⟩
  .rw[List.mem_singleton.1 f];rintro rfl;have:=h.seen _ d;rw[q.2]at this;cases this
  .rcases List.mem_append.1 c with r|r
   .exact h.lt p r
   .rw[List.mem_singleton.1 r];exact⟨hk,g,q.1⟩
  .show(if _ then true else _)=true
   split
   .rfl
   .rcases List.mem_append.1 c with r|r
    .exact h.seen p r
    .rename_i e
     rw[List.mem_singleton.1 r]at e;exact absurd rfl e
 .rw[if_neg q];exact h
theorem ybre{lg:Nat->Bool}{x:(Nat->Bool)×List (Nat×Nat)}{k s:Nat}:x.2.length<=(yym lg x k s).2.length:=by
 unfold yym;split
 .show _<=(x.2++[(k,s)]).length;rw[zH];omega
 .exact zAP _
theorem QI.len{N n:Nat}{lg:Nat->Bool}{x:(Nat->Bool)×List (Nat×Nat)}(h:QI N n lg x):x.2.length<=N*2^n:=by
 have g:∀p∈x.2,∀q∈x.2,p.1*2^n+p.2=q.1*2^n+q.2->p=q:=fun p f q t e=>by
  have c:=(h.lt p f).2.1;have j:=(h.lt q t).2.1;have k:(p.1*2^n+p.2)/2^n=p.1:=by rw[zV,zCW (zBU n),zBP c];omega
  have l:(q.1*2^n+q.2)/2^n=q.1:=by rw[zV,zCW (zBU n),zBP j];omega
  have i:p.1=q.1:=by rw[<-k,e,l]
  refine Prod.ext i ?_;rw[i]at e;omega
 have s:(x.2.map fun p=>p.1*2^n+p.2).Nodup:=by
  unfold List.Nodup;rw[zAO];exact h.nd.imp_of_mem fun {a b} o r d e=>d (g a o b r e)
 have:=yll (l2:=zI (N*2^n)) s fun y u=>by
  obtain⟨p,f,rfl⟩:=List.mem_map.1 u;obtain⟨c,j,-⟩:=h.lt p f;refine List.mem_range.2 ?_;have m:(p.1+1)*2^n<=N*2^n:=zAY _ c;rw[zCM]at m;omega
 simpa using this
end Sh
end
section
def tabT(n:Nat)(a:List VarR)(b:Nat->VarR->Int×Int):List (List (Int×Int)):=(zI n).map fun v=>a.map (b v)
theorem yhq(n:Nat)(a:List VarR)(b:Nat->VarR->Int×Int):(tabT n a b).length=n:=by simp[tabT]
theorem ybkh{n:Nat}{a:List VarR}{b:Nat->VarR->Int×Int}{v:Nat}(c:v<n):(tabT n a b).getD v []=a.map (b v):=by simp[tabT,zO,c]
structure TabOk(T:List (List (Int×Int))):Prop where
 bd:bdT T
 sm:∀r∈T,∀b∈r,-1000000<=b.1/\b.2<=1000000
 len:T.length<=24
 row:∀r∈T,0<r.length/\r.length<=6
 tot:ybl T<=32768
theorem yit:∀(a b:List (Int×Int)),ybq (a++b)=ybq a*ybq b
 |[],b=>by simp[ybq]
 | x::a,b=>by
   show szP x*ybq (a++b)=szP x*ybq a*ybq b;rw[yit a b,zAD]
theorem ygv:∀(a b:List (List (Int×Int))),ybl (a++b)=ybl a*ybl b
 |[],b=>by simp[ybl]
 | x::a,b=>by
   show ybq x*ybl (a++b)=ybq x*ybl a*ybl b;rw[ygv a b,zAD]
def pTo(T:List (List (Int×Int)))(v i:Nat):Nat:=ybl (T.take v)*ybq ((T.getD v []).take i)
section
variable {T:List (List (Int×Int))}{v i:Nat}
theorem yio{a:Type}{l:List a}{k:Nat}{d:a}(h:k<l.length):l.getD k d=l[k]:=by simp[zO,h]
theorem ycjf:pTo T 0 0=1:=by simp[pTo,ybl,ybq]
theorem yclz(a:i<(T.getD v []).length):pTo T v (i+1)=pTo T v i*szP ((T.getD v []).getD i (0,0)):=by
 unfold pTo;rw[zK a,yit,yio a,zAD];simp[ybq]
theorem ycjn(a:v<T.length):pTo T v (T.getD v []).length=pTo T (v+1) 0:=by
 unfold pTo;rw[zW,zK a,ygv,yio a];simp[ybl,ybq]
theorem ydmt:pTo T T.length 0=ybl T:=by simp[pTo,ybq]
theorem ycin(h:bdT T):bdR (T.getD v []):=by
 by_cases a:v<T.length
 .rw[yio a];exact h _ (zS _)
 .rw[zO,List.getElem?_eq_none (by omega)];exact fun _ h=>nomatch h
theorem ybuo(h:bdR (T.getD v []))(i:Nat):ybq ((T.getD v []).take i)<=ybq (T.getD v []):=by
 conv=>rhs;rw[<-zAU i (T.getD v []),yit]
 exact zAN _ (ymh fun b a=>h b (zCA a))
theorem ydxr(h:bdT T)(a:v<T.length)(i:Nat):pTo T v i<=ybl T:=by
 have c:pTo T v i<=ybl (T.take (v+1)):=by
  rw[zK a,ygv];unfold pTo;have:=ybuo (T:=T) (v:=v) (ycin h) i;rw[yio a]at this ⊢;have e:ybl [T[v]]=ybq T[v]:=by simp[ybl]
  rw[e];exact Nat.mul_le_mul_left _ this
 refine zCF c ?_
 conv=>rhs;rw[<-zAU (v+1) T,ygv]
 exact zAN _ (ypo fun b d=>h b (zCA d))
theorem TabOk.at_(h:TabOk T)(f:v<T.length):(0<(T.getD v []).length/\(T.getD v []).length<=6)/\∀i,i<(T.getD v []).length->((T.getD v []).getD i (0,0)).1<=((T.getD v []).getD i (0,0)).2 /\ -1000000<=((T.getD v []).getD i (0,0)).1/\((T.getD v []).getD i (0,0)).2<=1000000:=by
 have e:=yio (d:=[]) f;have a:T.getD v []∈T:=by rw[e];exact zS _
 refine⟨h.row _ a,fun i c=>?_⟩;have b:(T.getD v []).getD i (0,0)∈T.getD v []:=by rw[yio c];exact zS _
 exact⟨h.bd _ a _ b,h.sm _ a _ b⟩
end
theorem yom:∀{bs:List (Int×Int)}{xs:List Int},inR bs xs↔xs.length=bs.length/\∀i,i<bs.length->(bs.getD i (0,0)).1<=xs.getD i 0/\xs.getD i 0<=(bs.getD i (0,0)).2
 |[],[]=>⟨fun _=>⟨rfl,fun i h=>by simp at h⟩,fun _=>trivial⟩
 |[],_::_=>⟨fun h=>h.elim,fun h=>by simp at h⟩
 |_::_,[]=>⟨fun h=>h.elim,fun h=>by simp at h⟩
 | b :: bs,x::xs=>by
   show(_/\inR bs xs)↔_;rw[yom];constructor
   .rintro⟨c,a,e⟩;refine⟨by simp[a],fun i d=>?_⟩
    cases i with
    |zero=>exact c
    |succ i=>exact e i (by simpa using d)
   .rintro⟨c,a⟩;exact⟨a 0 (by simp),by simpa using c,fun i d=>a (i+1) (by simpa using d)⟩
theorem ymk:∀{rs:List (List (Int×Int))}{c:Conf},inT rs c↔c.length=rs.length/\∀v,v<rs.length->inR (rs.getD v []) (c.getD v [])
 |[],[]=>⟨fun _=>⟨rfl,fun i h=>by simp at h⟩,fun _=>trivial⟩
 |[],_::_=>⟨fun h=>h.elim,fun h=>by simp at h⟩
 |_::_,[]=>⟨fun h=>h.elim,fun h=>by simp at h⟩
 | b :: f,x::j=>by
   show(_/\inT f j)↔_;rw[ymk];constructor
   .rintro⟨d,a,g⟩;refine⟨by simp[a],fun i e=>?_⟩
    cases i with
    |zero=>exact d
    |succ i=>exact g i (by simpa using e)
   .rintro⟨d,a⟩;exact⟨a 0 (by simp),by simpa using d,fun i e=>a (i+1) (by simpa using e)⟩
def tabP(p:ProgT)(g:Gr):List (List (Int×Int)):=tabT g.ids.length p.vars (ybh g)
theorem yiw{p:ProgT}{g:Gr}{c:Conf}:ydd p g c=true↔inT (tabP p g) c:=by
 unfold ydd;rw[ygx,ymk];unfold tabP;rw[yhq];refine and_congr_right fun r=>⟨fun h v j=>?_,fun h v n e=>?_⟩
 .rw[ybkh j];obtain⟨a,k⟩:=h v (c.getD v []) (by rw[yio (by omega)];exact zQ (by omega))
  refine yom.2 ⟨a,fun i f=>?_⟩;have a:(c.getD v []).length=(p.vars.map (ybh g v)).length:=a;have d:i<(c.getD v []).length:=by omega
  exact k i _ _ (by rw[yio f];exact zQ f) (by rw[yio d];exact zQ d)
 .have j:v<g.ids.length:=by have:=(List.getElem?_eq_some_iff.1 e).1;omega
  have a:=h v j;rw[ybkh j,show c.getD v []=n by simp[zO,e]]at a
  obtain⟨k,o⟩:=yom.1 a;refine⟨k,fun i b x m q=>?_⟩;have f:=(List.getElem?_eq_some_iff.1 m).1;have l:=o i f;rw[show(p.vars.map (ybh g v)).getD i (0,0)=b by simp only[zO,m,zCR],show n.getD i 0=x by simp only[zO,q,zCR]]at l
  exact l
end
end Go.Proofs.YthclbjjgfcgbgaaGreatDoor
