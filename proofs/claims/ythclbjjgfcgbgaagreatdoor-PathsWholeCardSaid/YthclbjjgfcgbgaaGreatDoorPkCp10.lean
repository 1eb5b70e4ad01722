/- Joined. -/
import Derived.Test.YthclbjjgfcgbgaaGreatDoorPkCp9
set_option linter.unusedSimpArgs false
set_option linter.unusedVariables false
set_option maxRecDepth 8000
open Nat renaming reduceEqDiff->zA,reduceAdd->zB,reduceLT->zC,reduceLeDiff->zD,reduceBEq->zF,zero_le->zG,pow_le_pow_right->zJ,le_trans->zS,le_refl->zU,le_mul_of_pos_left->zV,not_lt_zero->zY,reduceMul->zZ,sub_self->zAD,mul_le_mul_left->zAF,lt_of_lt_of_le->zAO,mul_assoc->zAS,mul_comm->zAT,sub_zero->zAV,le_mul_of_pos_right->zAW,testBit_lt_two_pow->zAX,ble_eq_true_of_le->zAY,mul_le_mul->zBA,mul_one->zBM,div_eq_of_lt->zBP,lt_succ_self->zBR,max_eq_right->zBS,mul_add_div->zBV,two_pow_pos->zBW,div_le_self->zBX,testBit_and->zBZ,max_eq_left->zCA,reduceSub->zCD,le_total->zCH,lt_trans->zCI,blt->zCK
open Go.Proofs.Tryz renaming prog->zH,func133->zCE,func134->zCF
open Int renaming lt_irrefl->zI,reduceBNe->zQ,reduceToNat->zX,mul_le_mul_of_nonneg_right->zAI,toNat_natCast->zAJ,reduceNeg->zBF,natCast_mul->zBY,reduceGE->zCG,le_trans->zCJ
open List renaming getElem?_eq_getElem->zK,mem_cons_self->zL,getD->zN,getElem_mem->zO,length_append->zW,getD_eq_getElem?_getD->zAA,mem_cons_of_mem->zAB,take_succ_eq_append_getElem->zAE,getElem_of_mem->zAG,length_map->zAH,take_append_drop->zAK,not_mem_nil->zAM,headD_cons->zAN,drop_length->zAP,range->zAQ,mem_map_of_mem->zAR,take_length->zAU,getElem?_eq_none->zAZ,mem_of_mem_drop->zBD,mem_of_mem_take->zBE,append_toArray->zBG,size_toArray->zBJ,push_toArray->zBK,getElem?_map->zBL,length_cons->zBN,cons_append->zBO,length_nil->zBT,nil_append->zBU,take->zCB,drop->zCC
open Go.Lib renaming hid->zM
open Bool renaming and_eq_true->zT,false_eq_true->zBH,false_ne_true->zBI
open Classical renaming byContradiction->zAC
open And renaming intro->zAL
open Array renaming replicate_succ->zBB,replicate_zero->zBC
open Option renaming getD_some->zBQ
open Go
namespace Go.Proofs.YthclbjjgfcgbgaaGreatDoor
section
namespace Ev
open Go Go.RowKit
noncomputable def ybgl(m:Mem)(A:Addr):Option Value:=match A.spot,m.b.get A.block with
 |none,some (.cells c n _ _)=>bif zCK A.off n then c.get A.off else none
 |_,_=>none
section
variable {φ φ':Phi}{M:AM}{w:World}{m:Mem}
theorem ybdg{A:Addr}{v box:Value}(h:ybgl m A=some v)(r:VR φ (.pointer (some A)) box)(i:Rel φ M w)(p:Sub m M) :
 ∃b o s,box = .pointer (some ⟨b,o,none⟩)/\w.cell? ⟨b,o,none⟩=some s/\VR φ v s:=by
 unfold ybgl at h;split at h
 .rename_i c n e z q j
  rw[Bool.cond_eq_ite]at h;split at h
  .rename_i a
   have a:A.off<n:=Nat.le_of_ble_eq_true a;obtain⟨F,x,y,B,d,C,D,_,f,E,g⟩:=i.cellsAt (p _ _ j);obtain⟨s,t,u⟩:=g _ _ a h;cases r with
   |simple l=>cases l
   | ptr k =>
     rw[k]at d;cases d
     exact⟨_,_,s,rfl,cell_of f t,u⟩
  .cases h
 .cases h
end
abbrev ydnx(x:Int×Int):Value:=.agg #[.int .i64 x.1,.int .i64 x.2]
set_option maxRecDepth 100000 in
set_option maxHeartbeats 1000000 in
theorem ycly{A:Addr}{v:Value}{us:List Value}:ItOk zH 133 [.pointer (some A)]
 ⟨us.length,fun k=>[.int .i64 ((us.length-1-k:Nat):Int),us.getD (us.length-1-k) undef],fun _ m=>ybgl m A=some v/\∃ft,rowOf m 1 v=some (us,ft),fun _ m=>m,fun _ _ M w R w'=>R=M/\w'=w⟩:=by
 refine⟨fun E w=>ybw ytd zCE rfl E w,fun k m hk hw _=>Grow.refl hw,?_,?_⟩
 .rintro k φ M w m R w' hk hw G K hp ⟨rfl,rfl⟩;exact Good.refl G K
 .intro l St a2 φ M w a3 a C d U H;obtain⟨box,rfl,f⟩:=ygg H;obtain⟨m,G,K,N,ft,O⟩:=(a 0 φ M w U).2;obtain⟨b,o,s,rfl,V,L⟩:=ybdg N f G K;obtain⟨As,cs,rfl,b0,b1⟩:=ycc (ybqd O L G K);have Hread:=zM a;have Hyield:=zM d;have Hbox:=zM f;have H0:=zM U
  clear a C d L U f G K N O
  refine callsIn_of_wp zCE rfl trivial ?_
  simp only[Tryz.ntmps133,zBJ,zBN,zBT,zB,zCD,zBB,
   zBC,zBK,zBG,zBU,zBO]
  gi_wp2
  gi_loopg [3] us.length (fun q t wr=>∃k:Nat,q+k=us.length/\t = .int .i64 ((us.length:Int)-1-k)/\Hid (∃φ' R,φ.le φ'/\St k φ' R wr))
  case atStart=>exact⟨0,by omega,by simp,zM ⟨φ,M,φ.le_refl,H0.out⟩⟩
  case round =>
   obtain⟨k,hq,rfl,D⟩:=hrel
   by_cases X:k<us.length
   .obtain⟨Q,M1,g,c⟩:=D.out;obtain⟨m1,z,h,N,a7,O⟩:=(Hread.out _ _ _ _ c).2;obtain⟨b',o',s',e1,S,y⟩:=ybdg N (Hbox.out.mono g) z h;cases e1
    obtain⟨a5,a6,rfl,e2,e3,e4⟩:=ybqd O y z h;obtain⟨rb,ro,rfl,a9,e5⟩:=e4 (by omega)
    obtain⟨j,hj⟩:∃j,us.length-1-k=j:=⟨_,rfl⟩;have W:(us.length:Int)-1-k=(j:Int):=by omega
    have I:j<us.length:=by omega
    rw[W];obtain⟨r,Y,J⟩:=e5 j _ (zK I);rw[zBM]at Y;have a8:(decide ((j:Int)>=0))=true:=by simp
    obtain⟨fn,P,n,F,T,B⟩:=Hyield.out k Q M1 wr [.int .i64 (j:Int),r] X c (by
     show VRL Q [.int .i64 ((us.length-1-k:Nat):Int),us.getD (us.length-1-k) undef] _;rw[hj,Sh.getD_at I];exact .cons (.simple rfl) (.cons J .nil))
    have T:(Instr.yield l #[.int .i64 (j:Int),r]).run zH wr = .ok (.round l fn P n F) wr:=T;have a1:=zM c;have Hle1:=zM g
    clear D c g N O z h y e5 e4 J
    gi_wp2
    refine B.mono ?_;rintro e W3 (⟨rfl,a0,M3,p,_,x⟩|⟨rfl,i⟩)
    .have Hst3:=zM (x _ _ ⟨rfl,rfl⟩);have Hle3:=zM p
     clear x p B T
     gi_wp2
     gi_roundg (gk-1)
     case measure=>omega
     case rel =>
      refine⟨k+1,by omega,?_,zM ⟨a0,M3,Phi.le_trans Hle1.out Hle3.out,Hst3.out⟩⟩
      congr 1;omega
    .have Hstop:=zM i
     clear i B T
     gi_wp2
     refine bodyPost_ret (results_none rfl _ _ _) rfl ?_;exact⟨⟨_,rfl⟩,.inr Hstop.out⟩
   .gi_wp2
    obtain⟨Z,M2,a4,u⟩:=D.out
    go_end0
    have hk:k=us.length:=by omega
    rw[hk]at u;exact⟨⟨_,rfl⟩,.inl ⟨Z,M2,u⟩⟩
set_option maxRecDepth 100000 in
set_option maxHeartbeats 1000000 in
theorem ycke{A:Addr}{v:Value}{ls:List (Int×Int)}:ItOk zH 134 [.pointer (some A)]
 ⟨ls.length,fun k=>[.int .i64 ((ls.length-1-k:Nat):Int),ydnx (ls.getD (ls.length-1-k) (0,0))],fun _ m=>ybgl m A=some v/\ykz m v=some ls,fun _ m=>m,fun _ _ M w P w'=>P=M/\w'=w⟩:=by
 refine⟨fun E w=>ybw ytd zCF rfl E w,fun k m hk hw _=>Grow.refl hw,?_,?_⟩
 .rintro k φ M w m P w' hk hw G I hp ⟨rfl,rfl⟩;exact Good.refl G I
 .intro l St a1 φ M w a2 a C d S H;obtain⟨box,rfl,f⟩:=ygg H;obtain⟨m,G,I,K,L⟩:=(a 0 φ M w S).2;obtain⟨b,o,s,rfl,T,J⟩:=ybdg K f G I;obtain⟨As,cs,rfl,b0,b1⟩:=ycc (ykb L J G I);have Hread:=zM a;have Hyield:=zM d;have Hbox:=zM f;have H0:=zM S
  clear a C d J S f G I K L
  refine callsIn_of_wp zCF rfl trivial ?_
  simp only[Tryz.ntmps134,zBJ,zBN,zBT,zB,zCD,zBB,
   zBC,zBK,zBG,zBU,zBO]
  gi_wp2
  gi_loopg [3] ls.length (fun q t wr=>∃k:Nat,q+k=ls.length/\t = .int .i64 ((ls.length:Int)-1-k)/\Hid (∃φ' P,φ.le φ'/\St k φ' P wr))
  case atStart=>exact⟨0,by omega,by simp,zM ⟨φ,M,φ.le_refl,H0.out⟩⟩
  case round =>
   obtain⟨k,hq,rfl,D⟩:=hrel
   by_cases W:k<ls.length
   .obtain⟨O,M1,g,c⟩:=D.out;obtain⟨m1,z,h,K,L⟩:=(Hread.out _ _ _ _ c).2;obtain⟨b',o',s',e1,Q,y⟩:=ybdg K (Hbox.out.mono g) z h;cases e1
    obtain⟨a4,a5,rfl,e2,e3,e4⟩:=ykb L y z h;obtain⟨rb,ro,rfl,a9,e5⟩:=e4 (by omega)
    obtain⟨j,hj⟩:∃j,ls.length-1-k=j:=⟨_,rfl⟩;have U:(ls.length:Int)-1-k=(j:Int):=by omega
    have V:j<ls.length:=by omega
    rw[U];obtain⟨x,hx⟩:∃x,ls[j]?=some x:=⟨_,zK V⟩;obtain⟨a6,a7,_,_⟩:=e5 j x hx;have X:ls.getD j (0,0)=x:=by simp[zN,hx]
    have a8:(decide ((j:Int)>=0))=true:=by simp
    obtain⟨fn,N,n,F,R,B⟩:=Hyield.out k O M1 wr [.int .i64 (j:Int),.agg #[.int .i64 x.1,.int .i64 x.2]] W c (by
     show VRL O [.int .i64 ((ls.length-1-k:Nat):Int),ydnx (ls.getD (ls.length-1-k) (0,0))] _;rw[hj,X];exact .cons (.simple rfl) (.cons (VR.ydd (v:=ydnx x) rfl) .nil))
    have R:(Instr.yield l #[.int .i64 (j:Int),.agg #[.int .i64 x.1,.int .i64 x.2]]).run zH wr = .ok (.round l fn N n F) wr:=R;have a0:=zM c;have Hle1:=zM g
    clear D c g K L z h y e5 e4
    gi_wp2
    refine B.mono ?_;rintro e W3 (⟨rfl,Z,M3,p,_,u⟩|⟨rfl,i⟩)
    .have Hst3:=zM (u _ _ ⟨rfl,rfl⟩);have Hle3:=zM p
     clear u p B R
     gi_wp2
     gi_roundg (gk-1)
     case measure=>omega
     case rel =>
      refine⟨k+1,by omega,?_,zM ⟨Z,M3,Phi.le_trans Hle1.out Hle3.out,Hst3.out⟩⟩
      congr 1;omega
    .have Hstop:=zM i
     clear i B R
     gi_wp2
     refine bodyPost_ret (results_none rfl _ _ _) rfl ?_;exact⟨⟨_,rfl⟩,.inr Hstop.out⟩
   .gi_wp2
    obtain⟨Y,M2,a3,r⟩:=D.out
    go_end0
    have hk:k=ls.length:=by omega
    rw[hk]at r;exact⟨⟨_,rfl⟩,.inl ⟨Y,M2,r⟩⟩
end Ev
namespace Sh
open Ev
def bwdS(n:Nat)(e:Nat->SV):ItS:=⟨n,fun k=>[.i .i64 ((n-1-k:Nat):Int),e (n-1-k)],[],fun _ _=>True,fun _ o=>o⟩
theorem ybhh{ls:List (Int×Int)}(t:∀l∈ls,I64 l.1/\I64 l.2):ItC zH 134 [.rf [ybc ls]] (bwdS ls.length fun k=>.ag [.i .i64 (ls.getD k (0,0)).1,.i .i64 (ls.getD k (0,0)).2]):=by
 intro H F O s f m J G x _;obtain⟨u,rfl,y⟩:=rvl1 x;obtain⟨j,p,T,N,e,K,L,rfl,n,o,q,r,E⟩:=y.rf_inv;obtain⟨v,rfl,z⟩:=rvl1 r;have h:RV F om0 (ybc ls) v:=z
 have c:∀d:Mem,Le F d.b.get->ybgl d ⟨j,p,none⟩=some v:=fun d g=>by
  unfold ybgl;simp only;rw[g _ _ n];simp only;rw[show zCK p N=true from zAY (show p+1<=N by simp at o;omega)]
  simp only[cond_true];exact q 0 (by simp)
 exact⟨_,ycke (A:=⟨j,p,none⟩) (v:=v) (ls:=ls),rfl,fun C B I D d k g _ a hk _=>⟨⟨c d (g.trans a.sub),ybao (g.trans a.sub) h t⟩,fun hk=>⟨.cons .i (.cons (.ag (.cons .i (.cons .i .nil))) .nil),a⟩⟩⟩
theorem ybig{n:Nat}{e:Nat->SV}:ItC zH 133 [.rf [.sl 1 n fun k=>[e k]]] (bwdS n e):=by
 intro O F ω s f m us hc hr _;obtain⟨u,rfl,hu⟩:=rvl1 hr;obtain⟨C,p,T,N,ee,zz,L,rfl,X,Y,Z,h4,h5⟩:=hu.rf_inv;obtain⟨v,rfl,J⟩:=rvl1 h4
 have r:∀c:Mem,Le F c.b.get->ybgl c ⟨C,p,none⟩=some v:=fun c g=>by
  unfold ybgl;simp only;rw[g _ _ X];simp only;rw[show zCK p N=true from zAY (show p+1<=N by simp at Y;omega)]
  simp only[cond_true];exact Z 0 (by simp)
 have d:∀(us:List Value) (G:List Nat),(∀m:Mem,Le F m.b.get->rowOf m 1 v=some (us,G))->us.length=n->(∀(k:Nat) x,us[k]?=some x->RV F om0 (e k) x) ->
  ∃ T : It,ItOk zH 133 [.pointer (some ⟨C,p,none⟩)] T/\T.n=n /\
    ∀ (l:AM) (a:Om) (y:SS) (E:Fr) (c:Mem) (k:Nat),Le F l->(∀P∈(bwdS n e).pr,∀x,ω P=some x->a P=some x)->Conc O l a y E c->k<=n->(bwdS n e).own k y.o ->
      T.pre k c/\(k<n->RVL l a ((bwdS n e).el k) (T.el k)/\Conc O l a ⟨y.f,(bwdS n e).adv k y.o⟩ E (T.adv k c)):=fun us G t hl I=>by
  subst hl;refine⟨_,ycly (A:=⟨C,p,none⟩) (v:=v) (us:=us),rfl,fun l a y E c k g _ j hk _=>⟨⟨r c (g.trans j.sub),G,t c (g.trans j.sub)⟩,fun hk=>⟨.cons .i (.cons ?_ .nil),j⟩⟩⟩;have K:us.length-1-k<us.length:=by omega
  have h:=I (us.length-1-k) _ (zK K);rw[getD_at K];exact h.mono g (yul _)
 rcases J.sl_inv with⟨k0,hz⟩|⟨D,p',cp,T',N',e',a0,Q,rfl,S,g2,U,z,V,W,g7⟩
 .subst k0;exact d [] [] (fun m _=>row_zero hz 1) rfl (fun k x q=>by simp at q)
 .rcases Nat.eq_zero_or_pos n with H|H
  .subst H;exact d [] [] (fun m _=>rfl) rfl (fun k x q=>by simp at q)
  .refine d (ycq Q n) [D] (fun m g=>row_of (g _ _ S) H U z V) (by rw[yct z,zBM]) fun k x B=>?_
   have hk:k<n:=by
    have:=(List.getElem?_eq_some_iff.1 B).1;rw[yct z,zBM]at this;exact this
   rw[ybim z hk]at B;obtain⟨v,R,J⟩:=rvl1 (W k hk);rw[R]at B;cases B
   exact J
theorem ybhe{n:Nat}{e:Nat->SV}:Returns zH 67 [.sl 1 n fun k=>[e k]] (.fn 133 [] [.rf [.sl 1 n fun k=>[e k]]]):=by
 refine Returns.of (ydph _ _ ?_);simp only[c67,ydst,yeco,go_sem,zA,zB,zD,zC];exact Sim.refl _
theorem ybfz{ls:List (Int×Int)}:Returns zH 68 [ybc ls] (.fn 134 [] [.rf [ybc ls]]):=by
 refine Returns.of (ydom _ _ ?_);simp only[c68,ydqz,yeat,go_sem,zA,zB,zD,zC];exact Sim.refl _
end Sh
end
section
def ypb(S:Spc)(p s t:Nat):Nat:=difB p s&&&S.en t
def ygh(S:Spc)(p s t:Nat):Nat:=if ypb S p s t=0 then S.en t else ypb S p s t
namespace Sh
open Ev Go.RowKit
theorem yww{S:Spc}(h:S.ok){k p s t:Nat}(e:p<2^32)(j:s<2^32)(l:t<S.N) :
 Returns zH 76 [.ag (spcC S),.ag [.i .i64 (k:Nat),.i .u32 (p:Nat)],.ag [.i .u32 (s:Nat),.i .i64 (t:Nat)]] (.tp [.ag [.i .i64 (t:Nat),.i .u32 (ygh S p s t:Nat)],.b (decide (ypb S p s t=0))]):=by
 refine Returns.of (ydsh _ _ ?_);have g:=h.le;have n:=h.lt t l;have d:=u32_andNot (a:=p) (b:=s) e j;have f:difB p s<2^32:=ywr e;have c:=u32_and (a:=difB p s) (b:=S.en t) f (by omega)
 change _=((ypb S p s t:Nat):Int)at c
 simp only[IntKind.bits]at d c;obtain⟨x,m⟩:∃x,ypb S p s t=x:=⟨_,rfl⟩;unfold ygh;rw[m]at c ⊢
 by_cases q:x=0
 .have d1:((x:Int)==0)=true:=by rw[q];rfl
  rw[if_pos q,decide_eq_true q];simp only[c76,ydhm,ydmx,ydnd,ydyn,spcC,ybl,d,c,d1,splice,clash,go_sem,zA,zB,zD,zC]
  repeat refine ybd ?_
  exact Sim.refl _
 .have d1:((x:Int)==0)=false:=by rw[beq_eq_false_iff_ne];omega
  rw[if_neg q,decide_eq_false q];simp only[c76,ydhm,ydmx,ydnd,ydpf,spcC,ybl,d,c,d1,splice,clash,go_sem,zA,zB,zD,zC]
  repeat refine ybd ?_
  exact Sim.refl _
def ygl(Q:List (Nat×Nat)):Fam:=.one (some ⟨109,false,2,Q.length,fun i=>[.i .i64 ((Q.getD i (0,0)).1:Nat),.i .u32 ((Q.getD i (0,0)).2:Nat)]⟩)
def yfp(N:Nat)(lg:Nat->Bool)(seen:Nat->Bool)(Q:List (Nat×Nat)):Own :=
 [(301,.one (some ⟨45,true,1,1,fun _=>[ybb N lg]⟩)),(302,.one (some ⟨166,true,1,1,fun _=>[.mr (303,0)]⟩)),(303,.one (some ⟨CU,true,0,0,fun c=>[.b (seen c)]⟩)),
  (304,.one (some ⟨167,true,1,1,fun _=>[.os (305,0) 0 Q.length true]⟩)),(305,ygl Q)]
def addS(seen:Nat->Bool)(c:Nat):Nat->Bool:=fun d=>if d=c then true else seen d
theorem ycdw(Q:List (Nat×Nat))(x:Nat×Nat){i:Nat}(a:i<Q.length+1):(if i<Q.length then[SV.i .i64 ((Q.getD i (0,0)).1:Nat),SV.i .u32 ((Q.getD i (0,0)).2:Nat)]else zCB 2 (zCC ((i-Q.length)*2) [SV.i .i64 (x.1:Int),SV.i .u32 (x.2:Int)]))=[SV.i .i64 (((Q++[x]).getD i (0,0)).1:Nat),SV.i .u32 (((Q++[x]).getD i (0,0)).2:Nat)]:=by
 by_cases q:i<Q.length
 .rw[if_pos q];simp[zN,List.getElem?_append_left q]
 .obtain rfl:i=Q.length:=by omega
  rw[if_neg q,zAD];simp[zN]
theorem yqm{h:Nm->Nm}{a:List Nat}{c O:Own}{X:List SV}{k b:IntKind}{x y:Int}(e:X=[.i k x,.i b y]):telL h a [] c O X [.i k x,.i b y]:=by
 subst e;exact⟨.inl ⟨(yii _ _ _).2 trivial,by rw[yeh];exact Sim.refl _,rfl⟩,rfl,.inl ⟨(yii _ _ _).2 trivial,by rw[yeh];exact Sim.refl _,rfl⟩,rfl,trivial⟩
theorem yefi(x:Bool):mval 0 (.b x)=true:=rfl
theorem yedo(n:Int):mval 1 (.i .i64 n)=true:=rfl
set_option maxHeartbeats 1000000 in
theorem ydxg{N:Nat}{lg:Nat->Bool}{seen:Nat->Bool}{Q:List (Nat×Nat)}(f:Q.length<=300000){k s:Nat}(hk:k<N)(d:N<=32768)(g:s<2^32) :
 Cm zH 137 [(301,0),(302,0),(304,0)] (yfp N lg seen Q) [.ag [.i .i64 (k:Nat),.i .u32 (s:Nat)],.pt (301,0) 0 0,.pt (302,0) 0 0,.pt (304,0) 0 0]
  fun r o=>r = .tp []/\o=if lg k=false/\seen (mkey k s)=false then yfp N lg (addS seen (mkey k s)) (Q++[(k,s)])else yfp N lg seen Q:=by
 refine ycpw [(301,0),(302,0),(304,0)] [] _ _ _ ?_;cases c:lg k with
 | true =>
   rw[if_neg (fun q=>by cases q.1)]
   simp only[c137,ybpp,ybqt,yfp,ygl,ybb,c,clash,yhi,go_sem,zA,zB,zD,zC]
   repeat refine ybd ?_
   refine⟨.tp [],yfp N lg seen Q,?_,?_,rfl,rfl⟩
   .refine ybi [] [] [] ?_;simp only[yfp,ygl,ybb,wk,go_sem,zA,zC]
   .simp only[yfp,ygl,ybb,ycl,yfj,wk,go_sem,zA]
 | false =>
   cases a:seen (mkey k s)with
   | true =>
     rw[if_neg (fun q=>by cases q.2)]
     simp only[c137,ybpp,ybqt,yfp,ygl,ybb,c,a,clash,zAN,yhi,go_sem,zA,zB,zD,zC]
     repeat refine ybd ?_
     refine⟨.tp [],yfp N lg seen Q,?_,?_,rfl,rfl⟩
     .refine ybi [] [] [] ?_;simp only[yfp,ygl,ybb,wk,go_sem,zA,zC]
     .simp only[yfp,ygl,ybb,ycl,yfj,wk,go_sem,zA]
   | false =>
     rw[if_pos ⟨rfl,rfl⟩];simp only[c137,ybpp,ybqt,ydap,ycty,yfp,ygl,ybb,c,a,splice,clash,zAN,yefi,yhi,go_sem,zA,zB,zD,zC]
     repeat refine ybd ?_
     refine⟨.tp [],yfp N lg (addS seen (mkey k s)) (Q++[(k,s)]),?_,?_,rfl,rfl⟩
     .refine ybi [(305,fun i=>(22,i))] [] [] ?_;simp only[yfp,ygl,ybb,zW,wk,go_sem,zA,zC];refine⟨⟨fun i=>?_,fun i b=>absurd b (by omega)⟩,fun i b=>yqm (ycdw Q (k,s) b)⟩
      unfold addS
      by_cases e:i=mkey k s
      .rw[if_pos e,if_pos e]
      .rw[if_neg e,if_neg e]
     .simp only[yfp,ygl,ybb,ycl,yfj,wk,go_sem,zA]
def yzd(lg:Nat->Bool)(x:(Nat->Bool)×List (Nat×Nat))(k s:Nat):(Nat->Bool)×List (Nat×Nat):=if lg k=false/\x.1 (mkey k s)=false then(addS x.1 (mkey k s),x.2++[(k,s)])else x
theorem ybce{N:Nat}{lg:Nat->Bool}{x:(Nat->Bool)×List (Nat×Nat)}(d:x.2.length<=300000){k s:Nat}(hk:k<N)(c:N<=32768)(e:s<2^32) :
 Cm zH 137 [(301,0),(302,0),(304,0)] (yfp N lg x.1 x.2) [.ag [.i .i64 (k:Nat),.i .u32 (s:Nat)],.pt (301,0) 0 0,.pt (302,0) 0 0,.pt (304,0) 0 0]
  fun r o=>r = .tp []/\o=yfp N lg (yzd lg x k s).1 (yzd lg x k s).2:=by
 refine(ydxg d hk c e).mono fun r o ⟨a,b⟩=>⟨a,b.trans ?_⟩;unfold yzd
 by_cases q:lg k=false/\x.1 (mkey k s)=false
 .rw[if_pos q,if_pos q]
 .rw[if_neg q,if_neg q]
structure QI(N n:Nat)(lg:Nat->Bool)(x:(Nat->Bool)×List (Nat×Nat)):Prop where
 nd:x.2.Nodup
 lt:∀p∈x.2,p.1<N/\p.2<2^n/\lg p.1=false
 seen:∀p∈x.2,x.1 (mkey (p.1:Nat) (p.2:Nat))=true
theorem QI.start(N n:Nat)(lg:Nat->Bool):QI N n lg (fun _=>false,[]):=⟨List.nodup_nil,fun _ h=>(nomatch h),fun _ h=>(nomatch h)⟩
theorem QI.step{N n:Nat}{lg:Nat->Bool}{x:(Nat->Bool)×List (Nat×Nat)}(h:QI N n lg x){k s:Nat}(hk:k<N)(g:s<2^n):QI N n lg (yzd lg x k s):=by
 unfold yzd
 by_cases q:lg k=false/\x.1 (mkey k s)=false
 .rw[if_pos q];refine⟨List.nodup_append.2 ⟨h.nd,List.pairwise_singleton _ _,fun a d b f=>?_⟩,fun p c=>?_,fun p c=>?_⟩
  .rw[List.mem_singleton.1 f];rintro rfl;have:=h.seen _ d;rw[q.2]at this;cases this
  .rcases List.mem_append.1 c with r|r
   .exact h.lt p r
   .rw[List.mem_singleton.1 r];exact⟨hk,g,q.1⟩
  .show(if _ then true else _)=true
   split
   .rfl
   .rcases List.mem_append.1 c with r|r
    .exact h.seen p r
    .rename_i e
     rw[List.mem_singleton.1 r]at e;exact absurd rfl e
 .rw[if_neg q];exact h
theorem ybow{lg:Nat->Bool}{x:(Nat->Bool)×List (Nat×Nat)}{k s:Nat}:x.2.length<=(yzd lg x k s).2.length:=by
 unfold yzd;split
 .show _<=(x.2++[(k,s)]).length;rw[zW];omega
 .exact zU _
theorem QI.len{N n:Nat}{lg:Nat->Bool}{x:(Nat->Bool)×List (Nat×Nat)}(h:QI N n lg x):x.2.length<=N*2^n:=by
 have g:∀p∈x.2,∀q∈x.2,p.1*2^n+p.2=q.1*2^n+q.2->p=q:=fun p f q t e=>by
  have c:=(h.lt p f).2.1;have j:=(h.lt q t).2.1;have k:(p.1*2^n+p.2)/2^n=p.1:=by rw[zAT,zBV (zBW n),zBP c];omega
  have l:(q.1*2^n+q.2)/2^n=q.1:=by rw[zAT,zBV (zBW n),zBP j];omega
  have i:p.1=q.1:=by rw[<-k,e,l]
  refine Prod.ext i ?_;rw[i]at e;omega
 have s:(x.2.map fun p=>p.1*2^n+p.2).Nodup:=by
  unfold List.Nodup;rw[List.pairwise_map];exact h.nd.imp_of_mem fun {a b} o r d e=>d (g a o b r e)
 have:=ymw (l2:=zAQ (N*2^n)) s fun y u=>by
  obtain⟨p,f,rfl⟩:=List.mem_map.1 u;obtain⟨c,j,-⟩:=h.lt p f;refine List.mem_range.2 ?_;have m:(p.1+1)*2^n<=N*2^n:=Nat.mul_le_mul_right _ c;rw[Nat.add_mul]at m;omega
 simpa using this
end Sh
end
section
def tabT(n:Nat)(a:List VarR)(b:Nat->VarR->Int×Int):List (List (Int×Int)):=(zAQ n).map fun v=>a.map (b v)
theorem yhn(n:Nat)(a:List VarR)(b:Nat->VarR->Int×Int):(tabT n a b).length=n:=by simp[tabT]
theorem ybnt{n:Nat}{a:List VarR}{b:Nat->VarR->Int×Int}{v:Nat}(c:v<n):(tabT n a b).getD v []=a.map (b v):=by simp[tabT,zN,c]
structure TabOk(T:List (List (Int×Int))):Prop where
 bd:bdT T
 sm:∀r∈T,∀b∈r,-1000000<=b.1/\b.2<=1000000
 len:T.length<=24
 row:∀r∈T,0<r.length/\r.length<=6
 tot:ybm T<=32768
theorem yix:∀(a b:List (Int×Int)),ybs (a++b)=ybs a*ybs b
 |[],b=>by simp[ybs]
 | x::a,b=>by
   show szP x*ybs (a++b)=szP x*ybs a*ybs b;rw[yix a b,zAS]
theorem yha:∀(a b:List (List (Int×Int))),ybm (a++b)=ybm a*ybm b
 |[],b=>by simp[ybm]
 | x::a,b=>by
   show ybs x*ybm (a++b)=ybs x*ybm a*ybm b;rw[yha a b,zAS]
def pTo(T:List (List (Int×Int)))(v i:Nat):Nat:=ybm (T.take v)*ybs ((T.getD v []).take i)
section
variable {T:List (List (Int×Int))}{v i:Nat}
theorem yin{a:Type}{l:List a}{k:Nat}{d:a}(h:k<l.length):l.getD k d=l[k]:=by simp[zN,h]
theorem ycnu:pTo T 0 0=1:=by simp[pTo,ybm,ybs]
theorem ycpp(a:i<(T.getD v []).length):pTo T v (i+1)=pTo T v i*szP ((T.getD v []).getD i (0,0)):=by
 unfold pTo;rw[zAE a,yix,yin a,zAS];simp[ybs]
theorem ycme(a:v<T.length):pTo T v (T.getD v []).length=pTo T (v+1) 0:=by
 unfold pTo;rw[zAU,zAE a,yha,yin a];simp[ybm,ybs]
theorem ydit:pTo T T.length 0=ybm T:=by simp[pTo,ybs]
theorem ycbc(h:bdT T):bdR (T.getD v []):=by
 by_cases a:v<T.length
 .rw[yin a];exact h _ (zO _)
 .rw[zN,zAZ (by omega)];exact fun _ h=>nomatch h
theorem ybwe(h:bdR (T.getD v []))(i:Nat):ybs ((T.getD v []).take i)<=ybs (T.getD v []):=by
 conv=>rhs;rw[<-zAK i (T.getD v []),yix]
 exact zAW _ (ymy fun b a=>h b (zBD a))
theorem ydqa(h:bdT T)(a:v<T.length)(i:Nat):pTo T v i<=ybm T:=by
 have c:pTo T v i<=ybm (T.take (v+1)):=by
  rw[zAE a,yha];unfold pTo;have:=ybwe (T:=T) (v:=v) (ycbc h) i;rw[yin a]at this ⊢;have e:ybm [T[v]]=ybs T[v]:=by simp[ybm]
  rw[e];exact zAF _ this
 refine zS c ?_
 conv=>rhs;rw[<-zAK (v+1) T,yha]
 exact zAW _ (yqv fun b d=>h b (zBD d))
theorem TabOk.at_(h:TabOk T)(f:v<T.length):(0<(T.getD v []).length/\(T.getD v []).length<=6)/\∀i,i<(T.getD v []).length->((T.getD v []).getD i (0,0)).1<=((T.getD v []).getD i (0,0)).2 /\ -1000000<=((T.getD v []).getD i (0,0)).1/\((T.getD v []).getD i (0,0)).2<=1000000:=by
 have e:=yin (d:=[]) f;have a:T.getD v []∈T:=by rw[e];exact zO _
 refine⟨h.row _ a,fun i c=>?_⟩;have b:(T.getD v []).getD i (0,0)∈T.getD v []:=by rw[yin c];exact zO _
 exact⟨h.bd _ a _ b,h.sm _ a _ b⟩
end
theorem yph:∀{bs:List (Int×Int)}{xs:List Int},inR bs xs↔xs.length=bs.length/\∀i,i<bs.length->(bs.getD i (0,0)).1<=xs.getD i 0/\xs.getD i 0<=(bs.getD i (0,0)).2
 |[],[]=>⟨fun _=>⟨rfl,fun i h=>by simp at h⟩,fun _=>trivial⟩
 |[],_::_=>⟨fun h=>h.elim,fun h=>by simp at h⟩
 |_::_,[]=>⟨fun h=>h.elim,fun h=>by simp at h⟩
 | b :: bs,x::xs=>by
   show(_/\inR bs xs)↔_;rw[yph];constructor
   .rintro⟨c,a,e⟩;refine⟨by simp[a],fun i d=>?_⟩
    cases i with
    |zero=>exact c
    |succ i=>exact e i (by simpa using d)
   .rintro⟨c,a⟩;exact⟨a 0 (by simp),by simpa using c,fun i d=>a (i+1) (by simpa using d)⟩
theorem ynd:∀{rs:List (List (Int×Int))}{c:Conf},inT rs c↔c.length=rs.length/\∀v,v<rs.length->inR (rs.getD v []) (c.getD v [])
 |[],[]=>⟨fun _=>⟨rfl,fun i h=>by simp at h⟩,fun _=>trivial⟩
 |[],_::_=>⟨fun h=>h.elim,fun h=>by simp at h⟩
 |_::_,[]=>⟨fun h=>h.elim,fun h=>by simp at h⟩
 | b :: f,x::j=>by
   show(_/\inT f j)↔_;rw[ynd];constructor
   .rintro⟨d,a,g⟩;refine⟨by simp[a],fun i e=>?_⟩
    cases i with
    |zero=>exact d
    |succ i=>exact g i (by simpa using e)
   .rintro⟨d,a⟩;exact⟨a 0 (by simp),by simpa using d,fun i e=>a (i+1) (by simpa using e)⟩
def tabP(p:ProgT)(g:Gr):List (List (Int×Int)):=tabT g.ids.length p.vars (ybj g)
theorem yiz{p:ProgT}{g:Gr}{c:Conf}:ydo p g c=true↔inT (tabP p g) c:=by
 unfold ydo;rw[yid,ynd];unfold tabP;rw[yhn];refine and_congr_right fun r=>⟨fun h v j=>?_,fun h v n e=>?_⟩
 .rw[ybnt j];obtain⟨a,k⟩:=h v (c.getD v []) (by rw[yin (by omega)];exact zK (by omega))
  refine yph.2 ⟨a,fun i f=>?_⟩;have a:(c.getD v []).length=(p.vars.map (ybj g v)).length:=a;have d:i<(c.getD v []).length:=by omega
  exact k i _ _ (by rw[yin f];exact zK f) (by rw[yin d];exact zK d)
 .have j:v<g.ids.length:=by have:=(List.getElem?_eq_some_iff.1 e).1;omega
  have a:=h v j;rw[ybnt j,show c.getD v []=n by simp[zN,e]]at a
  obtain⟨k,o⟩:=yph.1 a;refine⟨k,fun i b x m q=>?_⟩;have f:=(List.getElem?_eq_some_iff.1 m).1;have l:=o i f;rw[show(p.vars.map (ybj g v)).getD i (0,0)=b by simp only[zN,m,zBQ],show n.getD i 0=x by simp only[zN,q,zBQ]]at l
  exact l
end
section
theorem ybjy:∀(bs:List (Int×Int)) (k:Nat),(unR bs k).1.length=bs.length
 |[],_=>rfl
 |b::bs,k=>by show(unR bs k).1.length+1=_;rw[ybjy bs k];rfl
theorem ychz:∀(rs:List (List (Int×Int))) (k:Nat),(unT rs k).1.length=rs.length
 |[],_=>rfl
 |r::rs,k=>by show(unT rs k).1.length+1=_;rw[ychz rs k];rfl
theorem ychk:∀(rs:List (List (Int×Int))) (k v:Nat),v<rs.length->((unT rs k).1.getD v []).length=(rs.getD v []).length
 |[],_,_,h=>by simp at h
 |r::rs,k,0,_=>ybjy r _
 |r::rs,k,v+1,h=>ychk rs k v (by simpa using h)
def rowU(bs:List (Int×Int))(k x t:Nat):Int:=if t<bs.length-x then(bs.getD t (0,0)).1 else(unR (bs.drop (bs.length-x)) k).1.getD (t-(bs.length-x)) 0
def kU(bs:List (Int×Int))(k x:Nat):Nat:=(unR (bs.drop (bs.length-x)) k).2
theorem ydif(bs:List (Int×Int))(k:Nat):kU bs k 0=k:=by unfold kU;rw[zAV,zAP];rfl
theorem ydok(bs:List (Int×Int))(k:Nat):kU bs k bs.length=(unR bs k).2:=by unfold kU;rw[zAD];rfl
theorem ybxl(bs:List (Int×Int))(k:Nat){t:Nat}(a:t<bs.length):rowU bs k 0 t=(bs.getD t (0,0)).1:=by unfold rowU;rw[if_pos (by omega)]
theorem ycnf(bs:List (Int×Int))(k t:Nat):rowU bs k bs.length t=(unR bs k).1.getD t 0:=by unfold rowU;rw[if_neg (by omega),zAD];rfl
section
variable {bs:List (Int×Int)}{k x i:Nat}
theorem drop_at{b:Type}{l:List b}{i:Nat}(d:b)(a:i<l.length):l.drop i=l.getD i d::l.drop (i+1):=by rw[List.drop_eq_getElem_cons a,yin a]
theorem ybyq(d:x<bs.length)(c:i=bs.length-1-x):unR (bs.drop (bs.length-(x+1))) k=(((bs.getD i (0,0)).1+((kU bs k x%szP (bs.getD i (0,0)):Nat):Int))::(unR (bs.drop (bs.length-x)) k).1,kU bs k x/szP (bs.getD i (0,0))):=by
 have a:bs.length-(x+1)=i:=by omega
 have b:bs.length-x=i+1:=by omega
 unfold kU;rw[a,b,drop_at (0,0) (show i<bs.length by omega)]
 rfl
theorem ydlw(b:x<bs.length)(a:i=bs.length-1-x):kU bs k (x+1)=kU bs k x/szP (bs.getD i (0,0)):=by
 show(unR _ k).2=_;rw[ybyq b a]
theorem ychm(b:x<bs.length)(a:i=bs.length-1-x)(t:Nat):rowU bs k (x+1) t=if t=i then(bs.getD i (0,0)).1+((kU bs k x%szP (bs.getD i (0,0)):Nat):Int)else rowU bs k x t:=by
 unfold rowU
 by_cases e:t=i
 .rw[if_pos e,if_neg (by omega),ybyq b a,show t-(bs.length-(x+1))=0 by omega]
  rfl
 .rw[if_neg e]
  by_cases q:t<i
  .rw[if_pos (by omega),if_pos (by omega)]
  .rw[if_neg (by omega),if_neg (by omega),ybyq b a,show t-(bs.length-(x+1))=(t-(bs.length-x))+1 by omega]
   rfl
theorem yckw(b:x<bs.length)(a:i=bs.length-1-x):rowU bs k x i=(bs.getD i (0,0)).1:=by unfold rowU;rw[if_pos (by omega)]
end
def lowT(T:List (List (Int×Int)))(v:Nat):List Int:=(T.getD v []).map (·.1)
theorem yben(T:List (List (Int×Int)))(v:Nat):(lowT T v).length=(T.getD v []).length:=by simp[lowT]
theorem ydij{T:List (List (Int×Int))}{v t:Nat}(a:t<(T.getD v []).length):(lowT T v).getD t 0=((T.getD v []).getD t (0,0)).1:=by
 unfold lowT;rw[yin (by simpa using a),yin a];simp
theorem yyh{T:List (List (Int×Int))}{v:Nat}(a:v<T.length):(yqe T).getD v []=lowT T v:=by
 unfold yqe lowT;rw[yin (by simpa using a),yin a];simp
def cU(T:List (List (Int×Int)))(k q j:Nat):List Int:=if j<T.length-q then lowT T j else(unT (T.drop (T.length-q)) k).1.getD (j-(T.length-q)) []
def kT(T:List (List (Int×Int)))(k q:Nat):Nat:=(unT (T.drop (T.length-q)) k).2
theorem ydks(T:List (List (Int×Int)))(k:Nat):kT T k 0=k:=by unfold kT;rw[zAV,zAP];rfl
theorem ycgv(T:List (List (Int×Int)))(k:Nat){j:Nat}(a:j<T.length):cU T k 0 j=lowT T j:=by unfold cU;rw[if_pos (by omega)]
theorem ydra(T:List (List (Int×Int)))(k j:Nat):cU T k T.length j=(unT T k).1.getD j []:=by unfold cU;rw[if_neg (by omega),zAD];rfl
section
variable {T:List (List (Int×Int))}{k q v:Nat}
theorem ycjq(c:q<T.length)(d:v=T.length-1-q):unT (T.drop (T.length-(q+1))) k=((unR (T.getD v []) (kT T k q)).1::(unT (T.drop (T.length-q)) k).1,(unR (T.getD v []) (kT T k q)).2):=by
 have a:T.length-(q+1)=v:=by omega
 have b:T.length-q=v+1:=by omega
 unfold kT;rw[a,b,drop_at [] (show v<T.length by omega)]
 rfl
theorem ydkp(a:q<T.length)(b:v=T.length-1-q):kT T k (q+1)=(unR (T.getD v []) (kT T k q)).2:=by
 show(unT _ k).2=_;rw[ycjq a b]
theorem ydnz(a:q<T.length)(b:v=T.length-1-q)(j:Nat):cU T k (q+1) j=if j=v then(unR (T.getD v []) (kT T k q)).1 else cU T k q j:=by
 unfold cU
 by_cases e:j=v
 .rw[if_pos e,if_neg (by omega),ycjq a b,show j-(T.length-(q+1))=0 by omega]
  rfl
 .rw[if_neg e]
  by_cases w:j<v
  .rw[if_pos (by omega),if_pos (by omega)]
  .rw[if_neg (by omega),if_neg (by omega),ycjq a b,show j-(T.length-(q+1))=(j-(T.length-q))+1 by omega]
   rfl
theorem ydpa(a:q<T.length)(b:v=T.length-1-q):cU T k q v=lowT T v:=by unfold cU;rw[if_pos (by omega)]
theorem ydoj(c:q<=T.length){j:Nat}(b:j<T.length):(cU T k q j).length=(T.getD j []).length:=by
 unfold cU;split
 .exact yben T j
 .rename_i w
  have a:=ychk (T.drop (T.length-q)) k (j-(T.length-q)) (by rw[List.length_drop];omega)
  rw[a];congr 1;simp only[zN,List.getElem?_drop];rw[show T.length-q+(j-(T.length-q))=j by omega]
theorem ydmi:∀(bs:List (Int×Int)) (k:Nat),(unR bs k).2<=k
 |[],_=>zU _
 |b::bs,k=>zS (zBX _ _) (ydmi bs k)
theorem ydyt:∀(rs:List (List (Int×Int))) (k:Nat),(unT rs k).2<=k
 |[],_=>zU _
 |r::rs,k=>zS (ydmi r _) (ydyt rs k)
end
def ybuv(bs:List (Int×Int))(xs:List Int)(i:Nat):Prop:=∀t,i<=t->t<bs.length->¬xs.getD t 0<(bs.getD t (0,0)).2
def ycei(T:List (List (Int×Int)))(c:Conf)(v:Nat):Prop:=∀j,v<=j->j<T.length->ybuv (T.getD j []) (c.getD j []) 0
theorem yxp:∀{bs:List (Int×Int)}{xs:List Int},xs.length=bs.length->ybuv bs xs 0->advR bs xs=(bs.map (·.1),false)
 |[],[],_,_=>rfl
 |[],_::_,h,_=>by simp at h
 |_::_,[],h,_=>by simp at h
 | b::bs,x::xs,h,a=>by
   have e:=yxp (bs:=bs) (xs:=xs) (by simpa using h) fun t _ d=>a (t+1) (by omega) (by simpa using d)
   have c:¬x<b.2:=a 0 (by omega) (by simp)
   unfold advR;rw[e];simp[c]
theorem yzv:∀{bs:List (Int×Int)}{xs:List Int}{i:Nat},xs.length=bs.length->i<bs.length->ybuv bs xs (i+1)->xs.getD i 0<(bs.getD i (0,0)).2 ->
 (advR bs xs).2=true/\(advR bs xs).1.length=bs.length/\∀t,t<bs.length->(advR bs xs).1.getD t 0=if t<i then xs.getD t 0 else if t=i then xs.getD i 0+1 else(bs.getD t (0,0)).1
 |[],_,i,_,h,_,_=>by simp at h
 |_::_,[],_,h,_,_,_=>by simp at h
 | b :: bs,x::xs,0,h,_,c,e=>by
   have d:xs.length=bs.length:=by simpa using h
   have p:=yxp d fun t _ a=>c (t+1) (by omega) (by simpa using a)
   have j:x<b.2:=e;unfold advR;rw[p];simp only[zBH,if_false,if_pos j];refine⟨trivial,by simp,fun t a=>?_⟩
   cases t with
   |zero=>rfl
   | succ t =>
     rw[if_neg (by omega),if_neg (by omega)]
     show(bs.map (·.1)).getD t 0=(bs.getD t (0,0)).1;rw[yin (by simpa using a),yin (by simpa using a)];simp
 | b :: bs,x::xs,i+1,h,o,c,e=>by
   have d:xs.length=bs.length:=by simpa using h
   obtain⟨f,l,m⟩:=yzv (i:=i) d (by simpa using o) (fun t f a=>c (t+1) (by omega) (by simpa using a)) e
   unfold advR;rw[f];simp only[if_true];refine⟨trivial,by simp[l],fun t a=>?_⟩
   cases t with
   |zero=>rw[if_pos (by omega)];rfl
   | succ t =>
     have n:=m t (by simpa using a)
     show(advR bs xs).1.getD t 0=_;rw[n]
     by_cases q:t<i
     .rw[if_pos q,if_pos (by omega)];rfl
     .by_cases g:t=i
      .rw[if_neg q,if_pos g,if_neg (by omega),if_pos (by omega)];rfl
      .rw[if_neg q,if_neg g,if_neg (by omega),if_neg (by omega)];rfl
theorem yxz:∀{T:List (List (Int×Int))}{c:Conf},c.length=T.length->(∀j,j<T.length->(c.getD j []).length=(T.getD j []).length)->ycei T c 0->advT T c=(yqe T,false)
 |[],[],_,_,_=>rfl
 |[],_::_,h,_,_=>by simp at h
 |_::_,[],h,_,_=>by simp at h
 | b::bs,x::xs,h,d,a=>by
   have l:=yxz (T:=bs) (c:=xs) (by simpa using h) (fun j f=>d (j+1) (by simpa using f)) fun t _ g=>a (t+1) (by omega) (by simpa using g)
   have e:=yxp (bs:=b) (xs:=x) (d 0 (by simp)) (a 0 (by omega) (by simp))
   unfold advT;rw[l,e];simp[yqe]
theorem ybbi:∀{T:List (List (Int×Int))}{c:Conf}{v:Nat},c.length=T.length->(∀j,j<T.length->(c.getD j []).length=(T.getD j []).length)->v<T.length->ycei T c (v+1)->(advR (T.getD v []) (c.getD v [])).2=true ->
 (advT T c).2=true/\(advT T c).1.length=T.length/\∀j,j<T.length->(advT T c).1.getD j []=if j<v then c.getD j []else if j=v then(advR (T.getD v []) (c.getD v [])).1 else lowT T j
 |[],_,i,_,_,h,_,_=>by simp at h
 |_::_,[],_,h,_,_,_,_=>by simp at h
 | b :: bs,x::d,0,h,l,_,e,m=>by
   have g:d.length=bs.length:=by simpa using h
   have y:=yxz g (fun j f=>l (j+1) (by simpa using f)) fun t _ a=>e (t+1) (by omega) (by simpa using a)
   have p:(advR b x).2=true:=m;unfold advT;rw[y];simp only[zBH,if_false];refine⟨p,by simp[yqe],fun t a=>?_⟩
   cases t with
   |zero=>rfl
   | succ t =>
     rw[if_neg (by omega),if_neg (by omega)]
     exact yyh (T:=bs) (by simpa using a)
 | b :: bs,x::d,i+1,h,l,w,e,m=>by
   have g:d.length=bs.length:=by simpa using h
   obtain⟨n,r,s⟩:=ybbi (v:=i) g (fun j f=>l (j+1) (by simpa using f)) (by simpa using w) (fun t n a=>e (t+1) (by omega) (by simpa using a)) m
   unfold advT;rw[n];simp only[if_true];refine⟨trivial,by simp[r],fun t a=>?_⟩
   cases t with
   |zero=>rw[if_pos (by omega)];rfl
   | succ t =>
     have u:=s t (by simpa using a)
     show(advT bs d).1.getD t []=_;rw[u]
     by_cases q:t<i
     .rw[if_pos q,if_pos (by omega)];rfl
     .by_cases o:t=i
      .rw[if_neg q,if_pos o,if_neg (by omega),if_pos (by omega)];rfl
      .rw[if_neg q,if_neg o,if_neg (by omega),if_neg (by omega)];rfl
end
section
namespace Sh
open Ev Go.RowKit
theorem ybwf(n:Nat)(a:List VarR)(b:Nat->VarR->Int×Int):Sim (ybap n a b) (yu (tabT n a b)):=by
 unfold ybap yu;rw[yhn];refine yec fun v d=>⟨⟨?_,trivial⟩,rfl⟩;rw[ybnt d];unfold ybc;rw[zAH];refine ybre fun i c=>?_
 have e:(a.map (b v)).getD i (0,0)=b v (a.getD i default):=by
  rw[yin (by simpa using c),yin c];simp
 rw[e]
theorem ynv{b c:(Nat->Option ABlk)->Value->Prop}{p:ProgT}{g:Gr}(h:Checked b c p g):Returns zH 63 [.ag (yfs b c p.raw),grV g] (yu (tabP p g)):=by
 have a:=h.hp;unfold ProgT.ok at a;simp only[zT,decide_eq_true_eq]at a;have d:=ybgg p.raw h.hg a.1.1.2 a.1.1.1.2;exact Returns.of ((d.use (ybwf _ _ _)).simL ⟨ybip _ _ _,Sim.refl _,trivial⟩)
theorem ybbn{T:List (List (Int×Int))}(h:TabOk T):Returns zH 64 [yu T] (.tp [.i .i64 (ybm T:Nat),.i .i64 0]):=by
 refine Returns.of (yecp _ _ ?_);have q:=h.len;have t:=h.tot;simp only[c64,ydwo,ydsn,ydws,yu,clash,go_sem,zB,↓reduceIte,reduceCtorEq];refine ybf (σ:=Nat) (fun v=>⟨[(11,.i .i64 v),(10,.i .i64 (T.length:Nat)),(9,yu T),(4,.i .i64 (pTo T v 0:Nat))],[]⟩) (fun v=>v<=T.length) (fun v=>T.length-v) 0 (zG _) ?_ ?_
 .refine yw ?_;simp only[yu,ycnu,wk,go_sem,zA,↓reduceIte,reduceCtorEq];rfl
 .intro v B
  by_cases c:v<T.length
  .have d1:=dec_lt c;obtain⟨y,p⟩:=h.at_ c;have g:=fun i=>ydqa h.bd c i;have k:=fun i=>ycpp (T:=T) (v:=v) (i:=i);have j:=ycme c;obtain⟨row,d⟩:∃r,T.getD v []=r:=⟨_,rfl⟩;rw[d]at y p k j;simp only[ydkb,ydpo,ydvq,yu,ybc,d1,d,clash,go_sem,zA,zB,↓reduceIte,reduceCtorEq]
   repeat refine ybd ?_
   refine ybf (σ:=Nat) (fun i=>⟨[(17,.i .i64 i),(16,.i .i64 (row.length:Nat)),(15,ybc row),(11,.i .i64 v),(10,.i .i64 (T.length:Nat)),(9,yu T),(4,.i .i64 (pTo T v i:Nat))],[]⟩) (fun i=>i<=row.length) (fun i=>row.length-i) 0 (zG _) ?_ ?_
   .refine yw ?_;simp only[yu,ybc,wk,go_sem,zA,↓reduceIte,reduceCtorEq]
   .intro i z
    by_cases a:i<row.length
    .have d2:=dec_lt a;obtain⟨m,n,o⟩:=p i a;have A:=g (i+1);have x:=g i;have s:=k i a;obtain⟨⟨u,f⟩,e⟩:∃b,row.getD i (0,0)=b:=⟨_,rfl⟩;rw[e]at m n o s;simp only at m n o;have l:=(ypz (b:=(u,f)) m).2;simp only at l;have w:((pTo T v i:Nat):Int)*(f-u+1)=((pTo T v (i+1):Nat):Int):=by rw[s,zBY,l]
     have d3:decide (((pTo T v (i+1):Nat):Int)>32768)=false:=by simp;omega
     simp only[ydia,ydog,ydqp,yduz,ydce,yu,ybc,d2,e,w,d3,splice,clash,go_sem,zX,zA,zB,zD,zC,zZ,↓reduceIte,reduceCtorEq]
     repeat refine ybd ?_
     refine yj (i+1) a (by omega) ?_
     refine yw ?_;simp only[wk,go_sem,zA,↓reduceIte,reduceCtorEq];omega
    .obtain rfl:i=row.length:=by omega
     simp only[ydia,ydej,yu,ybc,zI,clash,go_sem,zA,zB,↓reduceIte,reduceCtorEq]
     repeat refine ybd ?_
     refine yj (v+1) c (by omega) ?_
     refine yw ?_;simp only[j,wk,go_sem,zA,↓reduceIte,reduceCtorEq];omega
  .obtain rfl:v=T.length:=by omega
   simp only[ydkb,ycxy,zI,ydit,go_sem,zA,zB,↓reduceIte,reduceCtorEq];exact Sim.refl _
theorem ycjk{b c:(Nat->Option ABlk)->Value->Prop}{p:ProgT}{g:Gr}(h:Checked b c p g)(f:TabOk (tabP p g)):Returns zH 56 [.ag (yfs b c p.raw),grV g] (.tp [.i .i64 (ybm (tabP p g):Nat),.i .i64 0]):=by
 refine Returns.of (ydvn _ _ ?_);have d:=ybdb p h.hg h.hp h.hf h.hV h.gv;have a:=ynv h;have e:=ybbn f;simp only[yfs,grV]at d a;simp only[c56,ydrx,ydqq,yfs,grV,clash,go_sem,zA,zB,zC];refine d.use ?_;simp only[ybk,ydrn,ydys,clash,zQ,go_sem,zA,zB];refine a.use ?_;simp only[go_sem];refine e.use ?_;simp only[go_sem];exact Sim.refl _
theorem ygk{ρ:List (Nat×(Nat->Nm))}{b O:Own}{a:Nm}{p n:Nat}{ap:Bool}{X:List SV}(d:live O a=true)(c:X=[.os (rid ρ a) p n ap]):telL (rid ρ) [] [] b O X [.os a p n ap]:=by
 subst c;refine⟨.inl ⟨(yii _ _ _).2 trivial,by rw[yeh];exact Sim.refl _,?_⟩,rfl,trivial⟩
 show(live O a && !(List.elem a.1 []))=true;rw[d];rfl
theorem yjf{h:Nm->Nm}{b O:Own}{X:List SV}(c:X=[.a (.slice none 0 0)]):telL h [] [] b O X [.a (.slice none 0 0)]:=by
 subst c;exact⟨.inl ⟨(yii _ _ _).2 trivial,by rw[yeh];exact Sim.refl _,rfl⟩,rfl,trivial⟩
def intO(l:List Int):OB:=⟨3,false,1,l.length,fun i=>[.i .i64 (l.getD i 0)]⟩
theorem yci{l:List Int}{c:OB}{h:Nm->Nm}{b d:Own}(a:(c.e=3/\c.bx=false/\c.z=1/\c.n=l.length)/\∀i,i<l.length->c.g i=[.i .i64 (l.getD i 0)]) :
 (c.e=(intO l).e/\c.bx=(intO l).bx/\c.z=(intO l).z/\c.n=(intO l).n)/\(mapE (intO l).e=true->∀i,c.g i=(intO l).g i)/\∀i,i<(intO l).n->telL h [] [] b d (c.g i) ((intO l).g i) :=
 ⟨a.1,fun q=>absurd (show false=true from q) zBI,fun i f=>yfw (a.2 i f)⟩
theorem ycr(l:List Int):((intO l).e=3/\(intO l).bx=false/\(intO l).z=1/\(intO l).n=l.length)/\∀i,i<l.length->(intO l).g i=[.i .i64 (l.getD i 0)]:=⟨⟨rfl,rfl,rfl,rfl⟩,fun _ _=>rfl⟩
theorem ycy{i n:Nat}{x b:OB}(h:(if i<n then some x else none)=some b):i<n/\b=x:=by
 split at h
 .cases h;exact⟨by assumption,rfl⟩
 .cases h
def ycu(n:Nat)(w:Nat->List Int):Fam:=.many fun v=>if v<n then some (intO (w v))else none
def ybu(F G n:Nat)(w:Nat->List Int):Own:=[(F,.one (some ⟨22,false,1,n,fun v=>[.os (G,v) 0 (w v).length true]⟩)),(G,ycu n w)]
theorem ycpm{ρ:List (Nat×(Nat->Nm))}{G n v:Nat}{w:Nat->List Int}{a O:Own}{X:List SV}(d:v<n)(b:lookO O (G,v)=if v<n then some (intO (w v))else none)(c:X=[.os (rid ρ (G,v)) 0 (w v).length true]):telL (rid ρ) [] [] a O X [.os (G,v) 0 (w v).length true] :=
 ygk (by unfold live;rw[b,if_pos d];rfl) c
theorem ylf{l:List Int}{p:Nm->Bool}:∀i,i<(intO l).n->((intO l).g i).all (cln p 5)=true:=fun _ _=>rfl
theorem ydu{h:Nm->Nm}{a d:Own}{n i:Nat}{w:Nat->List Int}{b:OB}(f:(if i<n then some (intO (w i))else none)=some b):∃c,(if i<n then some (intO (w i))else none)=some c/\(c.e=b.e/\c.bx=b.bx/\c.z=b.z/\c.n=b.n)/\(mapE b.e=true->∀i,c.g i=b.g i)/\∀i,i<b.n->telL h [] [] a d (c.g i) (b.g i):=by
 obtain⟨j,rfl⟩:=ycy f;exact⟨_,if_pos j,yci (ycr _)⟩
theorem yjv{h h':Nm->Nm}{a d:Own}{n i:Nat}{w:Nat->List Int}{b:OB}(f:(if i<n then some (intO (w i))else none)=some b):∃c,(match (if i<n then some (intO (w i))else none)with|some b=>some (OB.ren h' b)|none=>none)=some c/\(c.e=b.e/\c.bx=b.bx/\c.z=b.z/\c.n=b.n)/\(mapE b.e=true->∀i,c.g i=b.g i)/\∀i,i<b.n->telL h [] [] a d (c.g i) (b.g i):=by
 obtain⟨j,rfl⟩:=ycy f;exact⟨OB.ren h' (intO (w i)),by rw[if_pos j],yci ⟨⟨rfl,rfl,rfl,rfl⟩,fun _ _=>rfl⟩⟩
def boxT(F:Nat)(T:List (List (Int×Int))):Nat×Fam:=(F,.one (some ⟨84,true,1,1,fun _=>[yu T]⟩))
set_option maxHeartbeats 1000000 in
theorem yboz{T:List (List (Int×Int))}(h:TabOk T){f:FuncId}(z:∀v,v<T.length->∀i,i<(T.getD v []).length->Returns zH f [.i .i64 (v:Nat),.i .i64 (i:Nat),.rf [yu T]] (.i .i64 ((T.getD v []).getD i (0,0)).1)) :
 Cm zH 65 [(301,0)] [boxT 301 T] [yu T,.fn f [] [.pt (301,0) 0 0]] fun r o=>r = .os (302,0) 0 T.length true/\o=boxT 301 T::ybu 302 303 T.length (lowT T):=by
 refine ydio [(301,0)] [] _ _ _ ?_;have y:=h.len;have s:∀v,(lowT T v).length=(T.getD v []).length:=yben T;simp only[c65,ydxm,ydrz,ydwz,yu,boxT,clash,go_sem,zA,zB,zC,↓reduceIte,reduceCtorEq]
 repeat refine ybd ?_
 let p:Nat->Nat×Fam:=fun k=>(303,.many fun v=>if v<k then some (intO (lowT T v))else none)
 refine ybf (σ:=Nat) (fun k=>⟨[(13,.i .i64 k),(12,.i .i64 (T.length:Nat)),(0,yu T),(1,.fn f [] [.pt (301,0) 0 0]),(5,.os (10,0) 0 T.length true),(11,yu T)],
  [boxT 301 T,(10,.one (some ⟨22,false,1,T.length,fun v=>if v<k then[.os (303,v) 0 (T.getD v []).length true]else[.a (.slice none 0 0)]⟩)),p k]⟩) (fun k=>k<=T.length) (fun k=>T.length-k) 0 (zG _) ?_ ?_
 .refine ybi [] [] [] ?_;simp only[p,boxT,yu,zY,wk,go_sem,zA,zC,↓reduceIte,reduceCtorEq]
 .intro k hk
  by_cases n:k<T.length
  .have d1 := dec_lt n;obtain⟨B,g⟩:=h.at_ n;obtain⟨row,d⟩:∃r,T.getD k []=r:=⟨_,rfl⟩;rw[d]at B g;have A:lowT T k=row.map (·.1):=by unfold lowT;rw[d]
   simp only[ydjp,ydrm,yeak,ydsl,p,boxT,yu,ybc,d1,d,clash,go_sem,zA,zB,zC,↓reduceIte,reduceCtorEq]
   repeat refine ybd ?_
   refine ybf (σ:=Nat) (fun i=>⟨[(30,.i .i64 i),(29,.i .i64 (row.length:Nat)),(6,.i .i64 k),(13,.i .i64 k),(12,.i .i64 (T.length:Nat)),(0,yu T),(1,.fn f [] [.pt (301,0) 0 0]),(5,.os (10,0) 0 T.length true),(11,yu T)],
    [boxT 301 T,(10,.one (some ⟨22,false,1,T.length,fun v=>if v=k then[.os (23,0) 0 row.length true]else if v<k then[.os (303,v) 0 (T.getD v []).length true]else[.a (.slice none 0 0)]⟩)),(23,.one (some ⟨3,false,1,row.length,fun j=>[.i .i64 (if j<i then(row.getD j (0,0)).1 else 0)]⟩)),p k]⟩) (fun i=>i<=row.length) (fun i=>row.length-i) 0 (zG _) ?_ ?_
   .refine ybi [] [] [] ?_;simp only[p,boxT,yu,ybc,zY,wk,go_sem,zA,zC,↓reduceIte,reduceCtorEq];refine⟨fun _ _ _ _ e=>e,fun v u=>?_,fun v b g=>⟨b,g,?_⟩⟩
    .by_cases q:v=k
     .simp only[if_pos q];exact ygk rfl rfl
     .by_cases m:v<k
      .simp only[if_neg q,if_pos m];exact ygk (by show(if v<k then some (intO (lowT T v))else none).isSome=true;rw[if_pos m];rfl) rfl
      .simp only[if_neg q,if_neg m];exact yjf rfl
    .obtain⟨q,rfl⟩:=ycy g;exact yci (ycr _)
   .intro i t
    by_cases l:i<row.length
    .have d2:=dec_lt l;have w:=z k n i (by rw[d];exact l)
     rw[d]at w;simp only[yu,ybc]at w;simp only[ydli,ydov,ydxt,ycxw,p,boxT,yu,ybc,d2,clash,go_sem,zA,zB,zD,↓reduceIte,reduceCtorEq]
     repeat refine ybd ?_
     refine .inl (w.use ?_);simp only[ybk,splice,clash,go_sem,zA,zB,↓reduceIte,reduceCtorEq]
     repeat refine ybd ?_
     refine yj (i+1) l (by omega) ?_
     refine ybi [] [] [] ?_;simp only[wk,go_sem,zA,zC,↓reduceIte,reduceCtorEq];refine⟨fun _ _ _ _ e=>e,by omega,fun v u=>?_,fun j C=>yfw ?_,fun v b g=>⟨b,g,?_⟩⟩
     .by_cases q:v=k
      .simp only[if_pos q];exact ygk rfl rfl
      .by_cases m:v<k
       .simp only[if_neg q,if_pos m];exact ygk (by show(if v<k then some (intO (lowT T v))else none).isSome=true;rw[if_pos m];rfl) rfl
       .simp only[if_neg q,if_neg m];exact yjf rfl
     .by_cases e:j=i
      .subst e;rw[if_pos rfl,if_pos (by omega)]
      .rw[if_neg e]
       by_cases x:j<i
       .rw[if_pos x,if_pos (by omega)]
       .rw[if_neg x,if_neg (by omega)]
     .obtain⟨q,rfl⟩:=ycy g;exact yci (ycr _)
    .obtain rfl:i=row.length:=by omega
     simp only[ydli,ydbf,p,boxT,yu,ybc,zI,clash,go_sem,zA,zB,↓reduceIte,reduceCtorEq]
     repeat refine ybd ?_
     refine yj (k+1) n (by omega) ?_
     refine ybi [(303,fun v=>if v=k then(23,0)else(303,v))] [] [] ?_
     simp only[wk,go_sem,zA,zC,↓reduceIte,reduceCtorEq];refine⟨?_,by omega,fun v u=>?_,fun v b g=>?_⟩
     .repeat' apply zAL
      all_goals first|exact fun i _=>ybew (by decide) (by decide)|exact fun i _=>yts (by decide) (by decide)|exact fun i _ j _=>ybaz (by decide)
     .by_cases q:v=k
      .subst q;simp only[↓reduceIte,if_pos (zBR v),d];exact ygk (by show(if v<v+1 then some (intO (lowT T v))else none).isSome=true;rw[if_pos (by omega)];rfl) (by simp only[go_sem,↓reduceIte])
      .by_cases m:v<k
       .simp only[if_neg q,if_pos m,if_pos (show v<k+1 by omega)]
        exact ygk (by show(if v<k+1 then some (intO (lowT T v))else none).isSome=true;rw[if_pos (by omega)];rfl) (by simp only[q,go_sem,↓reduceIte])
       .simp only[if_neg q,if_neg m,if_neg (show ¬v<k+1 by omega)];exact yjf rfl
     .obtain⟨u,rfl⟩:=ycy g
      by_cases q:v=k
      .subst q;simp only[go_sem,zA,↓reduceIte];refine yci (c:=⟨3,false,1,row.length,fun j=>[.i .i64 (if j<row.length then(row.getD j (0,0)).1 else 0)]⟩) ⟨⟨rfl,rfl,rfl,by rw[s,d]⟩,fun i t=>?_⟩
       have t:i<row.length:=by rw[s,d]at t;exact t
       rw[ydij (by rw[d];exact t),d]
       simp only[if_pos t]
      .simp only[q,go_sem,zA,↓reduceIte];exact⟨_,if_pos (by omega),yci (ycr _)⟩
  .obtain rfl:k=T.length:=by omega
   simp only[ydjp,yddm,p,boxT,yu,zI,yhi,go_sem,zA,zB,↓reduceIte,reduceCtorEq];refine⟨.os (302,0) 0 T.length true,boxT 301 T::ybu 302 303 T.length (lowT T),?_,?_,rfl,rfl⟩
   .refine ybi [(302,fun i=>(10,i))] [] [] ?_;simp only[ybu,ycu,boxT,yu,wk,go_sem,zA,zC,↓reduceIte,reduceCtorEq];refine⟨fun _ _ _ _ e=>e,fun v u=>?_,fun v b g=>ydu g⟩;rw[if_pos u,<-yben];exact ycpm u rfl rfl
   .simp only[ybu,boxT,yu,ycu,ycl,yfj,wk,go_sem,zA,↓reduceIte];exact⟨fun k hk=>by rw[if_pos hk],fun i b g=>(ycy g).2▸ylf⟩
theorem ybtp{T:List (List (Int×Int))}{v i:Nat}(b:v<T.length)(a:i<(T.getD v []).length):Returns zH 125 [.i .i64 (v:Nat),.i .i64 (i:Nat),.rf [yu T]] (.i .i64 ((T.getD v []).getD i (0,0)).1):=by
 refine Returns.of (ydla _ _ ?_);simp only[c125,ycsw,ydaf,yu,ybc,clash,go_sem,zX,zA,zB,zD,zZ]
 repeat refine ybd ?_
 exact Sim.refl _
theorem ybkk{T:List (List (Int×Int))}{v i:Nat}(b:v<T.length)(a:i<(T.getD v []).length):Returns zH 66 [.i .i64 (v:Nat),.i .i64 (i:Nat),.rf [yu T]] (.i .i64 ((T.getD v []).getD i (0,0)).1):=by
 refine Returns.of (ydtz _ _ ?_);simp only[c66,yebe,ydtj,yu,ybc,clash,go_sem,zX,zA,zB,zD,zZ]
 repeat refine ybd ?_
 exact Sim.refl _
set_option maxHeartbeats 1000000 in
theorem ycnt{j l:(Nat->Option ABlk)->Value->Prop}{p:ProgT}{g:Gr}(h:Checked j l p g)(q:TabOk (tabP p g)) :
 Cm zH 59 [] [] [.ag (yfs j l p.raw),grV g] fun r o=>r = .tp [.os (302,0) 0 (tabP p g).length true,.i .i64 0]/\o=ybu 302 303 (tabP p g).length (lowT (tabP p g)):=by
 refine ydja [] [65] _ _ _ ?_;have n:=ybdb p h.hg h.hp h.hf h.hV h.gv;have a:=ynv h;have m:=yboz q (f:=125) fun v d i s=>ybtp d s
 generalize tabP p g=T at a m q
 simp only[yfs,grV]at n a;simp only[c59,ydya,ydzl,yfs,grV,clash,go_sem,zA,zB,zC,zF,↓reduceIte,reduceCtorEq];refine n.use ?_;simp only[ybk,ydwv,ydqb,ydwi,clash,zQ,go_sem,zA,zB,zC,zF,↓reduceIte,reduceCtorEq];refine a.use ?_;simp only[go_sem,↓reduceIte]
 repeat refine ybd ?_
 refine yeu m [(301,7),(302,72),(303,73)] 400 [] [] ?_ ?_
 .simp only[boxT,to1,okN,ycl,yfj,yek,ydx,wk,go_sem,zB,zC,↓reduceIte,reduceCtorEq]
 rintro r t ⟨rfl,rfl⟩;simp only[boxT,ybu,yoy,ymm,nuF,nu,difN,yek,ydx,Fam.ren,OB.ren,dim,yjw,go_sem,zA,zB,zF,↓reduceIte,reduceCtorEq];simp only[yhi,go_sem];refine⟨.tp [.os (302,0) 0 T.length true,.i .i64 0],ybu 302 303 T.length (lowT T),?_,?_,rfl,rfl⟩
 .refine ybi [(302,fun i=>(72,i)),(303,fun i=>(73,i))] [] [] ?_;simp only[ybu,ycu,wk,go_sem,zA,zC,↓reduceIte,reduceCtorEq];exact⟨fun _ _ _ _ e=>e,fun v d=>by rw[if_pos d],fun i b c=>yjv (h':=nu [(301,7),(302,72),(303,73)] 400) c⟩
 .simp only[ybu,ycu,ycl,yfj,wk,go_sem,zA,↓reduceIte];exact⟨fun k hk=>by rw[if_pos hk],fun i b c=>(ycy c).2▸ylf⟩
end Sh
end
section
def rowL(bs:List (Int×Int))(k x:Nat):List Int:=(zAQ bs.length).map (rowU bs k x)
theorem ybfa(bs:List (Int×Int))(k x:Nat):(rowL bs k x).length=bs.length:=by simp[rowL]
theorem yxk{bs:List (Int×Int)}{k x t:Nat}(a:t<bs.length):(rowL bs k x).getD t 0=rowU bs k x t:=by simp[rowL,zN,a]
theorem yvj{l l':List Int}(h:l.length=l'.length)(c:∀t,t<l.length->l.getD t 0=l'.getD t 0):l=l':=by
 refine List.ext_getElem h fun t a b=>?_;have:=c t a
 rwa [yin a,yin b]at this
theorem ybze(bs:List (Int×Int))(k:Nat):rowL bs k 0=bs.map (·.1):=yvj (by simp[rowL]) fun t a=>by
 have a:t<bs.length:=by simpa[rowL]using a
 rw[yxk a,ybxl bs k a];simp[zN,a]
theorem yckl(bs:List (Int×Int))(k:Nat):rowL bs k bs.length=(unR bs k).1:=yvj (by rw[ybfa,ybjy]) fun t a=>by
 rw[yxk (by simpa[rowL]using a),ycnf]
namespace Sh
open Ev Go.RowKit
section
variable {Q1 Q2:(Nat->Option ABlk)->Value->Prop}{p:ProgT}{g:Gr}
set_option maxHeartbeats 4000000 in
theorem ybtl(h:Checked Q1 Q2 p g)(O:TabOk (tabP p g)){k0:Nat}(hk:k0<ybm (tabP p g)):Returns zH 15 [.ag (yfs Q1 Q2 p.raw),grV g,.i .i64 (k0:Nat)] (.tp [ycn (unT (tabP p g) k0).1,.i .i64 0]):=by
 refine Returns.of (ydls [65] _ _ ?_);have hF:=ybdb p h.hg h.hp h.hf h.hV h.gv;have I:=ynv h;have hB:=yboz O (f:=66) fun v z i F=>ybkk z F;have hC:=ybbn O;have H:=O.tot;have X:=O.len
 generalize tabP p g=T at I hB O hC hk H X ⊢
 obtain⟨N,hN⟩:∃N,ybm T=N:=⟨_,rfl⟩;rw[hN]at hC hk H;simp only[yfs,grV]at hF I;have d1:decide ((k0:Int)<0)=false:=by simp
 have d2:decide ((k0:Int)>=(N:Int))=false:=by simp;omega
 simp only[c15,ydtq,yecc,yfs,grV,clash,go_sem,zA,zB,zC,zF];refine hF.use ?_;simp only[ybk,ydvi,yebg,ydur,clash,zQ,go_sem,zA,zB,zC,zF];refine I.use ?_;simp only[go_sem]
 repeat refine ybd ?_
 refine hC.use ?_;simp only[ydzk,ydzc,ycsa,clash,zQ,d1,d2,go_sem,zA,zB]
 repeat refine ybd ?_
 refine yeu hB [(301,9),(302,72),(303,73)] 400 [9,5] [5] ?_ ?_
 .simp only[boxT,to1,okN,ycl,yfj,yek,ydx,wk,go_sem,zA,zB,zC,zF]
 rintro r o' ⟨rfl,rfl⟩;simp only[boxT,ybu,yoy,ymm,nuF,nu,difN,yek,ydx,Fam.ren,OB.ren,dim,yjw,go_sem,zA,zB,zC,zF];simp only[ycxa,yu,go_sem,zA,zB,zF]
 repeat refine ybd ?_
 refine(ybhe (n:=T.length) (e:=fun v=>ybc (T.getD v []))).use ?_;simp only[ybk,clash,go_sem]
 let d:(Nat->List Int)->Nat->Own:=fun w k=>(5,.one (some ⟨3,true,1,1,fun _=>[.i .i64 (k:Nat)]⟩))::(12,.one (some ⟨46,true,1,1,fun _=>[.os (72,0) 0 T.length true]⟩))::ybu 72 73 T.length w
 refine yky (ybig (n:=T.length) (e:=fun v=>ybc (T.getD v []))) [(12,0),(5,0)] (fun q (_:Unit)=>⟨[(46,.fn 133 [] [.rf [yu T]]),(12,.pt (12,0) 0 0),(5,.pt (5,0) 0 0)],d (cU T k0 q) (kT T k0 q)⟩)
  (fun q _=>q<=T.length) () (zG _) ⟨fun _ h=>absurd h zAM,fun β h=>absurd h zAM⟩ ?_ (fun _=>rfl) ?_ ?_ ?_
 .refine yw ?_;simp only[d,ybu,ycu,yu,ydks,wk,go_sem,zA,zC];refine⟨fun _ _ _ _ e=>e,fun v z=>?_,fun v b B=>?_⟩
  .rw[ycgv T k0 z];exact⟨Sim.refl _,by rw[if_pos z]⟩
  .obtain⟨z,rfl⟩:=ycy B;rw[ycgv T k0 z];exact yjv (w:=lowT T) (h':=nu [(301,9),(302,72),(303,73)] 400) (if_pos z)
 .intro i _ F _;refine⟨trivial,?_⟩;simp only[yu,wk,go_sem,zA]
 .intro q _ hq C;have C:q<T.length:=C;obtain⟨v,z⟩:∃v,T.length-1-q=v:=⟨_,rfl⟩;have a3:v<T.length:=by omega
  refine⟨_,rfl,?_⟩;simp only[bwdS,z];simp only[ydci,ycrv,ydar,d,ybu,yu,splice,clash,go_sem,zA,zB,zC,zF];refine(ybfz (ls:=T.getD v [])).use ?_;obtain⟨hr,B⟩:=O.at_ a3
  have hI:∀l∈T.getD v [],I64 l.1/\I64 l.2:=fun l hl=>by
   obtain⟨i,F,rfl⟩:=zAG hl;have:=B i F;rw[yin F]at this;unfold I64;omega
  have J:=ydnz (k:=k0) C z.symm;have a4:=ydpa (k:=k0) C z.symm;have L:=ydkp (k:=k0) C z.symm;have Y:lowT T v=(T.getD v []).map (·.1):=rfl;have S:=fun {j}=>ydoj (k:=k0) (q:=q) hq (j:=j);have a6:kT T k0 q<=k0:=ydyt _ _;obtain⟨m,W⟩:∃m,kT T k0 q=m:=⟨_,rfl⟩;rw[W]at J L a6;obtain⟨a,R⟩:∃a,T.getD v []=a:=⟨_,rfl⟩;rw[R]at hr B hI J L Y;simp only[ybk,clash,R,go_sem]
  refine yky (ybhh (ls:=a) hI) [(12,0),(5,0),(13,0)] (fun x (_:Unit)=>⟨[(50,.fn 134 [] [.rf [ybc a]]),(12,.pt (12,0) 0 0),(5,.pt (5,0) 0 0),(13,.pt (13,0) 0 0)],(13,.one (some ⟨3,true,1,1,fun _=>[.i .i64 (v:Nat)]⟩))::d (fun j=>if j=v then rowL a m x else cU T k0 q j) (kU a m x)⟩)
   (fun x _=>x<=a.length) () (zG _) ⟨fun β h=>(by rcases List.mem_cons.1 h with r|r;rw[r];exact zL;rw[List.mem_singleton.1 r];exact zAB _ zL),fun β h=>absurd h zAM⟩ ?_ (fun _=>rfl) ?_ ?_ ?_
  .refine ybi [] [] [] ?_
   have e0:∀j,(if j=v then rowL a m 0 else cU T k0 q j)=cU T k0 q j:=fun j=>by
    by_cases e:j=v
    .rw[if_pos e,ybze,e,a4,Y]
    .rw[if_neg e]
   simp only[d,ybu,ycu,ydif,e0,W,wk,go_sem,zA,zC];exact⟨fun _ _ _ _ e=>e,fun j u=>by rw[if_pos u],fun j b B=>ydu B⟩
  .intro x _ hx _;refine⟨trivial,?_⟩;simp only[ybc,wk,go_sem,zA]
  .intro x _ hx o;have o:x<a.length:=o;obtain⟨i,F⟩:∃i,a.length-1-x=i:=⟨_,rfl⟩;have V:i<a.length:=by omega
   refine⟨_,rfl,?_⟩;simp only[bwdS,F];obtain⟨b1,b2,b3⟩:=B i V;have D:=ychm (k:=m) o F.symm;have M:=yckw (k:=m) o F.symm;have s:=ydlw (k:=m) o F.symm;obtain⟨⟨P,K⟩,Q⟩:∃b,a.getD i (0,0)=b:=⟨_,rfl⟩;rw[Q]at b1 b2 b3 D M s;simp only at b1 b2 b3 M;have G:=ypz (b:=(P,K)) b1;obtain⟨A,a2⟩:∃A,szP (P,K)=A:=⟨_,rfl⟩;rw[a2]at G D s;simp only at G D;have a1:K-P+1=(A:Int):=G.2.symm;have a5:kU a m x<=m:=ydmi _ _;obtain⟨y,hy⟩:∃y,kU a m x=y:=⟨_,rfl⟩
   rw[hy]at D s a5;have Z:(y:Int).tmod (A:Int)=((y%A:Nat):Int):=rfl;have U:(y:Int).tdiv (A:Int)=((y/A:Nat):Int):=rfl;have a7:(rowL a m x).getD i 0=P:=by rw[yxk V,M]
   have a0:=ybfa a m x;have b0:y%A<A:=Nat.mod_lt _ G.1;have a9:y/A<=y:=zBX _ _;simp only[yddv,ycvf,ycvc,ycus,ydad,d,ybu,ycu,intO,if_pos a3,a0,hy,a7,Q,a1,Z,U,splice,clash,go_sem,zX,zA,zB,zD,zC,zZ]
   repeat refine ybd ?_
   refine zAL ⟨by omega,ikw (by omega) (by omega)⟩ ?_
   repeat refine ybd ?_
   refine ybi [] [] [] ?_
   have hw:∀t,t<a.length->(if t=i then[SV.i .i64 (P+((y%A:Nat):Int))]else[SV.i .i64 ((rowL a m x).getD t 0)])=[SV.i .i64 ((rowL a m (x+1)).getD t 0)]:=fun t ht=>by
    rw[yxk ht,yxk ht,D]
    by_cases e:t=i
    .rw[if_pos e,if_pos e]
    .rw[if_neg e,if_neg e]
   have E:=ybfa a m (x+1);simp only[s,wk,go_sem,zA,zC];refine⟨fun _ _ _ _ e=>e,fun j u=>?_,fun j b B=>?_⟩
   .by_cases e:j=v
    .subst e;simp only[a0,E,if_pos u,wk,go_sem]
    .simp only[e,if_pos u,wk,go_sem]
   .obtain⟨u,rfl⟩:=ycy (x:=intO (if j=v then rowL a m (x+1)else cU T k0 q j)) B
    by_cases e:j=v
    .subst e;simp only[go_sem];exact yci (l:=rowL a m (x+1)) (c:=⟨3,false,1,a.length,fun t=>if t=i then[SV.i .i64 (P+((y%A:Nat):Int))]else[SV.i .i64 ((rowL a m x).getD t 0)]⟩) ⟨⟨rfl,rfl,rfl,E.symm⟩,fun t ht=>hw t (by rw[E]at ht;exact ht)⟩
    .simp only[e,go_sem];exact⟨_,if_pos u,yci (l:=cU T k0 q j) (ycr _)⟩
  .intro _ _
   have e0:∀j,(if j=v then rowL a m a.length else cU T k0 q j)=cU T k0 (q+1) j:=fun j=>by
    rw[J]
    by_cases e:j=v
    .rw[if_pos e,if_pos e,yckl]
    .rw[if_neg e,if_neg e]
   simp only[bwdS,go_sem]
   repeat refine ybd ?_
   refine ybi [] [] [] ?_;simp only[d,ybu,ycu,ydok,e0,L,wk,go_sem,zA,zC];exact⟨fun _ _ _ _ e=>e,fun j u=>by rw[if_pos u],fun j b B=>ydu B⟩
 .intro _ _;simp only[ydct,bwdS,d,ybu,clash,go_sem,zA,zB];have S:∀j,j<T.length->(unT T k0).1.getD j []=cU T k0 T.length j:=fun j _=>(ydra T k0 j).symm;have a8:=ychz T k0;refine⟨fun j u=>?_,ybbp ⟨?_,Sim.refl _,trivial⟩⟩
  .simp only[ycu,intO,if_pos u,go_sem]
  .unfold ycn yba;rw[a8];refine yec fun j u=>?_;simp only[ycu,intO,if_pos u,SimL,S j u,go_sem];exact Sim.refl _
end
end Sh
end
section
def rowD(bs:List (Int×Int))(xs:List Int)(x:Nat):List Int:=(zAQ bs.length).map fun t=>if t<bs.length-x then xs.getD t 0 else(bs.getD t (0,0)).1
theorem ypt(bs:List (Int×Int))(xs:List Int)(x:Nat):(rowD bs xs x).length=bs.length:=by simp[rowD]
theorem ysn{bs:List (Int×Int)}{xs:List Int}{x t:Nat}(a:t<bs.length):(rowD bs xs x).getD t 0=if t<bs.length-x then xs.getD t 0 else(bs.getD t (0,0)).1:=by simp[rowD,zN,a]
theorem ybxx{bs:List (Int×Int)}{xs:List Int}(h:xs.length=bs.length):rowD bs xs 0=xs:=yvj (by rw[ypt,h]) fun t a=>by
 have a:t<bs.length:=by rwa [ypt]at a
 rw[ysn a,if_pos (by omega)]
theorem ycki(bs:List (Int×Int))(xs:List Int):rowD bs xs bs.length=bs.map (·.1):=yvj (by simp[rowD]) fun t a=>by
 have a:t<bs.length:=by rwa [ypt]at a
 rw[ysn a,if_neg (by omega)]
 simp[zN,a]
def cD(T:List (List (Int×Int)))(c:Conf)(q j:Nat):List Int:=if j<T.length-q then c.getD j []else lowT T j
namespace Sh
open Ev Go.RowKit
set_option maxHeartbeats 4000000 in
theorem ybuu{T:List (List (Int×Int))}(hT:TabOk T){c:Conf}(hc:inT T c) :
 Cm zH 61 [(302,0)] (ybu 302 303 T.length fun j=>c.getD j []) [yu T,.os (302,0) 0 T.length true] fun r o=>r = .tp []/\o=ybu 302 303 T.length fun j=>(advT T c).1.getD j []:=by
 refine ydlk [(302,0)] [] _ _ _ ?_;have a8:=hT.len;obtain⟨Y,Z⟩:=ynd.1 hc;have N:∀j,j<T.length->(c.getD j []).length=(T.getD j []).length:=fun j a=>(yph.1 (Z j a)).1;simp only[c61,ydpx,ydyg,yu,ybu,go_sem,zA,zB,zC];refine(ybhe (n:=T.length) (e:=fun v=>ybc (T.getD v []))).use ?_;simp only[ybk,clash,go_sem]
 let f:(Nat->List Int)->Own:=fun w=>(3,.one (some ⟨46,true,1,1,fun _=>[.os (302,0) 0 T.length true]⟩))::ybu 302 303 T.length w
 refine yky (ybig (n:=T.length) (e:=fun v=>ybc (T.getD v []))) [(302,0),(3,0)] (fun q (_:Unit)=>⟨[(9,.fn 133 [] [.rf [yu T]]),(3,.pt (3,0) 0 0)],f (cD T c q)⟩)
  (fun q _=>q<=T.length/\ycei T c (T.length-q)) () ⟨zG _,fun j O J=>absurd O (by omega)⟩ ⟨fun β h=>by rw[List.mem_singleton.1 h];exact zL,fun β h=>absurd h zAM⟩ ?_ (fun _=>rfl) ?_ ?_ ?_
 .refine ybi [] [] [] ?_;have I:∀j,j<T.length->cD T c 0 j=c.getD j []:=fun j a=>by unfold cD;rw[if_pos (by omega)]
  simp only[f,ybu,ycu,yu,wk,go_sem,zA,zC];refine⟨fun _ _ _ _ e=>e,fun j a=>?_,fun j b m=>?_⟩
  .rw[I j a];exact⟨Sim.refl _,by rw[if_pos a]⟩
  .obtain⟨a,rfl⟩:=ycy (x:=intO (cD T c 0 j)) m;rw[I j a];exact⟨_,if_pos a,yci (ycr _)⟩
 .intro i _ hi _;refine⟨trivial,?_⟩;simp only[yu,wk,go_sem,zA]
 .rintro q _ ⟨hq,B⟩ U;have U:q<T.length:=U;obtain⟨v,hv⟩:∃v,T.length-1-q=v:=⟨_,rfl⟩;have F:v<T.length:=by omega
  refine⟨_,rfl,?_⟩;simp only[bwdS,hv];simp only[ydtw,yece,ydoo,f,ybu,yu,splice,clash,go_sem,zA,zB,zC];refine(ybfz (ls:=T.getD v [])).use ?_;obtain⟨hr,m⟩:=hT.at_ F
  have hI:∀l∈T.getD v [],I64 l.1/\I64 l.2:=fun l hl=>by
   obtain⟨i,hi,rfl⟩:=zAG hl;have:=m i hi;rw[yin hi]at this;unfold I64;omega
  have a1:ycei T c (v+1):=fun j O J=>B j (by omega) J
  have a0:cD T c q v=c.getD v []:=by unfold cD;rw[if_pos (by omega)]
  have a5:∀j,cD T c (q+1) j=if j=v then lowT T v else cD T c q j:=fun j=>by
   unfold cD
   by_cases e:j=v
   .rw[if_pos e,if_neg (by omega),e]
   .rw[if_neg e]
    by_cases w:j<v
    .rw[if_pos (by omega),if_pos (by omega)]
    .rw[if_neg (by omega),if_neg (by omega)]
  have R:∀j,j<T.length->cD T c q j=if j<v then c.getD j []else if j=v then c.getD v []else lowT T j:=fun j a=>by
   unfold cD
   by_cases w:j<v
   .rw[if_pos (by omega),if_pos w]
   .by_cases e:j=v
    .rw[if_pos (by omega),if_neg w,if_pos e,e]
    .rw[if_neg (by omega),if_neg w,if_neg e]
  have p:=ybbi Y N F a1;have a2:lowT T v=(T.getD v []).map (·.1):=rfl;have C:=yph.1 (Z v F);obtain⟨d,P⟩:∃d,T.getD v []=d:=⟨_,rfl⟩;obtain⟨g,a4⟩:∃g,c.getD v []=g:=⟨_,rfl⟩;rw[P]at hr m hI a2 p C;rw[a4]at p C a0 R;obtain⟨a3,a7⟩:=C;simp only[ybk,clash,P,go_sem]
  refine yky (ybhh (ls:=d) hI) [(302,0),(3,0),(4,0)] (fun x (_:Unit)=>⟨[(13,.fn 134 [] [.rf [ybc d]]),(3,.pt (3,0) 0 0),(4,.pt (4,0) 0 0)],(4,.one (some ⟨3,true,1,1,fun _=>[.i .i64 (v:Nat)]⟩))::f (fun j=>if j=v then rowD d g x else cD T c q j)⟩)
   (fun x _=>x<=d.length/\ybuv d g (d.length-x)) () ⟨zG _,fun j O J=>absurd O (by omega)⟩ ⟨fun β h=>(by rcases List.mem_cons.1 h with r|r;rw[r];exact zL;rw[List.mem_singleton.1 r];exact zAB _ zL),fun β h=>absurd h zAM⟩ ?_ (fun _=>rfl) ?_ ?_ ?_
  .refine ybi [] [] [] ?_
   have I:∀j,(if j=v then rowD d g 0 else cD T c q j)=cD T c q j:=fun j=>by
    by_cases e:j=v
    .rw[if_pos e,ybxx a3,e,a0]
    .rw[if_neg e]
   simp only[f,ybu,ycu,I,wk,go_sem,zA,zC];exact⟨fun _ _ _ _ e=>e,fun j a=>by rw[if_pos a],fun j b m=>ydu m⟩
  .rintro x _ hx _;refine⟨trivial,?_⟩;simp only[ybc,wk,go_sem,zA]
  .rintro x _ ⟨hx,u⟩ D;have D:x<d.length:=D;obtain⟨i,hi⟩:∃i,d.length-1-x=i:=⟨_,rfl⟩;have K:i<d.length:=by omega
   refine⟨_,rfl,?_⟩;simp only[bwdS,hi];obtain⟨b1,b2,b3⟩:=m i K;have W:=a7 i K;have a6:ybuv d g (i+1):=fun t O J=>u t (by omega) J
   have M:=yzv a3 K a6;have V:(rowD d g x).getD i 0=g.getD i 0:=by rw[ysn K,if_pos (by omega)]
   have L:=ypt d g x;have E:=ypt d g (x+1);obtain⟨⟨lo,S⟩,A⟩:∃b,d.getD i (0,0)=b:=⟨_,rfl⟩;rw[A]at b1 b2 b3 W M;simp only at b1 b2 b3 W M;obtain⟨y,hy⟩:∃y,g.getD i 0=y:=⟨_,rfl⟩;rw[hy]at W M V
   by_cases s:y<S
   .have d1:decide (y<S)=true:=decide_eq_true s;simp only[ydml,ydgr,ydkc,ydyr,f,ybu,ycu,intO,if_pos F,L,V,A,d1,splice,clash,yhi,go_sem,zX,zA,zB,zC,zZ]
    repeat refine ybd ?_
    obtain⟨w1,w2,w3⟩:=M s;obtain⟨_,_,H⟩:=p w1
    have Q:∀t,t<d.length->(if t=i then[SV.i .i64 (y+1)]else[SV.i .i64 ((rowD d g x).getD t 0)])=[SV.i .i64 ((advR d g).1.getD t 0)]:=fun t z=>by
     rw[w3 t z]
     by_cases e:t=i
     .rw[if_pos e,if_neg (by omega),if_pos e]
     .rw[if_neg e,if_neg e,ysn z]
      by_cases w:t<i
      .rw[if_pos (by omega),if_pos w]
      .rw[if_neg (by omega),if_neg w]
    refine⟨.tp [],ybu 302 303 T.length (fun j=>(advT T c).1.getD j []),?_,?_,rfl,rfl⟩
    .refine ybi [] [] [] ?_;simp only[ybu,ycu,wk,go_sem,zA,zC];refine⟨fun _ _ _ _ e=>e,fun j a=>?_,fun j b m=>?_⟩
     .have G:=H j a
      by_cases e:j=v
      .subst e;rw[if_neg (by omega),if_pos rfl]at G
       simp only[L,G,w2,if_pos a,wk,go_sem]
      .rw[if_neg e]at G;have:=R j a;rw[if_neg e,<-G]at this;simp only[e,this,if_pos a,wk,go_sem]
     .obtain⟨a,rfl⟩:=ycy (x:=intO ((advT T c).1.getD j [])) m;have G:=H j a
      by_cases e:j=v
      .subst e;rw[if_neg (by omega),if_pos rfl]at G
       rw[G];simp only[go_sem];exact yci (l:=(advR d g).1) (c:=⟨3,false,1,d.length,fun t=>if t=i then[SV.i .i64 (y+1)]else[SV.i .i64 ((rowD d g x).getD t 0)]⟩) ⟨⟨rfl,rfl,rfl,w2.symm⟩,fun t z=>Q t (by rw[w2]at z;exact z)⟩
      .rw[if_neg e]at G;have:=R j a;rw[if_neg e,<-G]at this;rw[<-this];simp only[e,go_sem];exact⟨_,if_pos a,yci (l:=cD T c q j) (ycr _)⟩
    .simp only[ybu,ycu,ycl,yfj,wk,go_sem,zA];exact⟨fun k hk=>by rw[if_pos hk],fun i b m=>(ycy m).2▸ylf⟩
   .have d1:decide (y<S)=false:=decide_eq_false s;simp only[ydml,ydgr,ydkc,ydqd,f,ybu,ycu,intO,if_pos F,L,V,A,d1,splice,clash,go_sem,zX,zA,zB,zD,zC,zZ]
    repeat refine ybd ?_
    refine zAL ⟨D,fun t O J=>?_⟩ ?_
    .by_cases e:t=i
     .rw[e,hy,A];exact s
     .exact u t (by omega) J
    refine ybi [] [] [] ?_
    have hw:∀t,t<d.length->(if t=i then[SV.i .i64 lo]else[SV.i .i64 ((rowD d g x).getD t 0)])=[SV.i .i64 ((rowD d g (x+1)).getD t 0)]:=fun t z=>by
     rw[ysn z,ysn z]
     by_cases e:t=i
     .rw[if_pos e,if_neg (by omega),e,A]
     .rw[if_neg e]
      by_cases w:t<i
      .rw[if_pos (by omega),if_pos (by omega)]
      .rw[if_neg (by omega),if_neg (by omega)]
    simp only[wk,go_sem,zA,zC];refine⟨fun _ _ _ _ e=>e,fun j a=>?_,fun j b m=>?_⟩
    .by_cases e:j=v
     .subst e;simp only[L,E,if_pos a,wk,go_sem]
     .simp only[e,if_pos a,wk,go_sem]
    .obtain⟨a,rfl⟩:=ycy (x:=intO (if j=v then rowD d g (x+1)else cD T c q j)) m
     by_cases e:j=v
     .subst e;simp only[go_sem];exact yci (l:=rowD d g (x+1)) (c:=⟨3,false,1,d.length,fun t=>if t=i then[SV.i .i64 lo]else[SV.i .i64 ((rowD d g x).getD t 0)]⟩) ⟨⟨rfl,rfl,rfl,E.symm⟩,fun t z=>hw t (by rw[E]at z;exact z)⟩
     .simp only[e,go_sem];exact⟨_,if_pos a,yci (l:=cD T c q j) (ycr _)⟩
  .rintro _ ⟨_,u⟩
   have I:∀j,(if j=v then rowD d g d.length else cD T c q j)=cD T c (q+1) j:=fun j=>by
    rw[a5]
    by_cases e:j=v
    .rw[if_pos e,if_pos e,ycki,a2]
    .rw[if_neg e,if_neg e]
   have u:ybuv d g (d.length-d.length):=u;simp only[bwdS,go_sem];refine zAL ⟨U,fun j O J=>?_⟩ ?_
   .by_cases e:j=v
    .subst e;rw[P,a4];exact fun t _ z=>u t (by omega) z
    .exact a1 j (by omega) J
   refine ybi [] [] [] ?_;simp only[f,ybu,ycu,I,wk,go_sem,zA,zC];exact⟨fun _ _ _ _ e=>e,fun j a=>by rw[if_pos a],fun j b m=>ydu m⟩
 .rintro _ ⟨_,B⟩;simp only[bwdS,f,ybu,yhi,go_sem];have B:ycei T c (T.length-T.length):=B;have X:=yxz Y N fun j _ a=>B j (by omega) a
  have I:∀j,j<T.length->cD T c T.length j=(advT T c).1.getD j []:=fun j a=>by
   rw[X,yyh a];unfold cD;rw[if_neg (by omega)]
  refine⟨.tp [],ybu 302 303 T.length (fun j=>(advT T c).1.getD j []),?_,?_,rfl,rfl⟩
  .refine ybi [] [] [] ?_;simp only[ybu,ycu,wk,go_sem,zA,zC];refine⟨fun _ _ _ _ e=>e,fun j a=>?_,fun j b m=>?_⟩
   .rw[I j a];exact⟨Sim.refl _,by rw[if_pos a]⟩
   .obtain⟨a,rfl⟩:=ycy (x:=intO ((advT T c).1.getD j [])) m;rw[<-I j a];exact⟨_,if_pos a,yci (ycr _)⟩
  .simp only[ybu,ycu,ycl,yfj,wk,go_sem,zA];exact⟨fun k hk=>by rw[if_pos hk],fun i b m=>(ycy m).2▸ylf⟩
end Sh
end
section
def rowP(bs:List (Int×Int))(p x t:Nat):Int:=if t<bs.length-x then 0 else(plR (bs.drop (bs.length-x)) p).1.getD (t-(bs.length-x)) 0
def pP(bs:List (Int×Int))(p x:Nat):Nat:=(plR (bs.drop (bs.length-x)) p).2
theorem ydga(bs:List (Int×Int))(p:Nat):pP bs p 0=p:=by unfold pP;rw[zAV,zAP];rfl
theorem yecu(bs:List (Int×Int))(p:Nat):pP bs p bs.length=(plR bs p).2:=by unfold pP;rw[zAD];rfl
theorem ycij(bs:List (Int×Int))(p:Nat){t:Nat}(a:t<bs.length):rowP bs p 0 t=0:=by unfold rowP;rw[if_pos (by omega)]
theorem ycmf(bs:List (Int×Int))(p t:Nat):rowP bs p bs.length t=(plR bs p).1.getD t 0:=by unfold rowP;rw[if_neg (by omega),zAD];rfl
section
variable {bs:List (Int×Int)}{p x i:Nat}
theorem ybxa(d:x<bs.length)(c:i=bs.length-1-x):plR (bs.drop (bs.length-(x+1))) p=(((pP bs p x:Nat):Int)::(plR (bs.drop (bs.length-x)) p).1,pP bs p x*szP (bs.getD i (0,0))):=by
 have a:bs.length-(x+1)=i:=by omega
 have b:bs.length-x=i+1:=by omega
 unfold pP;rw[a,b,drop_at (0,0) (show i<bs.length by omega)]
 rfl
theorem ydnn(b:x<bs.length)(a:i=bs.length-1-x):pP bs p (x+1)=pP bs p x*szP (bs.getD i (0,0)):=by
 show(plR _ p).2=_;rw[ybxa b a]
theorem rowP_step(b:x<bs.length)(a:i=bs.length-1-x)(t:Nat):rowP bs p (x+1) t=if t=i then((pP bs p x:Nat):Int)else rowP bs p x t:=by
 unfold rowP
 by_cases e:t=i
 .rw[if_pos e,if_neg (by omega),ybxa b a,show t-(bs.length-(x+1))=0 by omega]
  rfl
 .rw[if_neg e]
  by_cases q:t<i
  .rw[if_pos (by omega),if_pos (by omega)]
  .rw[if_neg (by omega),if_neg (by omega),ybxa b a,show t-(bs.length-(x+1))=(t-(bs.length-x))+1 by omega]
   rfl
theorem yedm:pP bs p x=p*ybs (bs.drop (bs.length-x)):=ysz _ _
theorem yeej(h:bdR bs):pP bs p x<=p*ybs bs:=by
 rw[yedm];refine zAF _ ?_
 conv=>rhs;rw[<-zAK (bs.length-x) bs,yix]
 exact zV _ (ymy fun b a=>h b (zBE a))
end
def cP(T:List (List (Int×Int)))(q j:Nat):List Int:=if j<T.length-q then[]else(plT (T.drop (T.length-q)) 1).1.getD (j-(T.length-q)) []
def ppT(T:List (List (Int×Int)))(q:Nat):Nat:=(plT (T.drop (T.length-q)) 1).2
theorem ycqj(T:List (List (Int×Int))):ppT T 0=1:=by unfold ppT;rw[zAV,zAP];rfl
theorem ydxe(T:List (List (Int×Int)))(j:Nat):cP T T.length j=(plT T 1).1.getD j []:=by unfold cP;rw[if_neg (by omega),zAD];rfl
section
variable {T:List (List (Int×Int))}{q v:Nat}
theorem yche(c:q<T.length)(d:v=T.length-1-q):plT (T.drop (T.length-(q+1))) 1=((plR (T.getD v []) (ppT T q)).1::(plT (T.drop (T.length-q)) 1).1,(plR (T.getD v []) (ppT T q)).2):=by
 have a:T.length-(q+1)=v:=by omega
 have b:T.length-q=v+1:=by omega
 unfold ppT;rw[a,b,drop_at [] (show v<T.length by omega)]
 rfl
theorem ybqk(a:q<T.length)(b:v=T.length-1-q):ppT T (q+1)=(plR (T.getD v []) (ppT T q)).2:=by
 show(plT _ 1).2=_;rw[yche a b]
theorem ydlv(a:q<T.length)(b:v=T.length-1-q)(j:Nat):cP T (q+1) j=if j=v then(plR (T.getD v []) (ppT T q)).1 else cP T q j:=by
 unfold cP
 by_cases e:j=v
 .rw[if_pos e,if_neg (by omega),yche a b,show j-(T.length-(q+1))=0 by omega]
  rfl
 .rw[if_neg e]
  by_cases w:j<v
  .rw[if_pos (by omega),if_pos (by omega)]
  .rw[if_neg (by omega),if_neg (by omega),yche a b,show j-(T.length-(q+1))=(j-(T.length-q))+1 by omega]
   rfl
theorem ydyo:ppT T q=ybm (T.drop (T.length-q)):=by unfold ppT;rw[ybdu,Nat.one_mul]
theorem ydoq(h:bdT T):ppT T q<=ybm T:=by
 rw[ydyo]
 conv=>rhs;rw[<-zAK (T.length-q) T,yha]
 exact zV _ (yqv fun b a=>h b (zBE a))
theorem ydvj(h:bdT T)(a:q<T.length)(b:v=T.length-1-q)(x:Nat):pP (T.getD v []) (ppT T q) x<=ybm T:=by
 refine zS (yeej (ycbc h)) ?_;have:ppT T q*ybs (T.getD v [])=ppT T (q+1):=by rw[ybqk a b,ysz]
 rw[this];exact ydoq h
end
end
section
namespace Sh
open Ev Go.RowKit
def yew(T:List (List (Int×Int))):List (List Int):=(plT T 1).1
theorem yccg:∀(rs:List (List (Int×Int))) (p v:Nat),v<rs.length->((plT rs p).1.getD v []).length=(rs.getD v []).length
 |[],_,_,h=>by simp at h
 |r::rs,p,0,_=>yblj r _
 |r::rs,p,v+1,h=>yccg rs p v (by simpa using h)
theorem yye{T:List (List (Int×Int))}{j:Nat}(a:j<T.length):((yew T).getD j []).length=(T.getD j []).length:=yccg T 1 j a
def ydl(p:ProgT)(g:Gr)(net:List Nat)(kind:Int)(T:List (List (Int×Int))):List SV:=[yfn p g,usV net,.i .i64 kind,yu T,ycn (yew T)]
theorem ybvs{Q1 Q2:(Nat->Option ABlk)->Value->Prop}{p:ProgT}{g:Gr}(h:Checked Q1 Q2 p g):Returns zH 123 [.ag (yfs Q1 Q2 p.raw),grV g] (yfn p g):=by
 have a:=h.hp;unfold ProgT.ok at a;simp only[zT,decide_eq_true_eq]at a;have c:Returns zH 123 [.ag (ypl p.raw),grV g] (yfn p g):=(ybge p.raw h.hg a.1.1.2 a.1.1.1.2).exT
 have b:Ct zH 123 [.ag (yfs Q1 Q2 p.raw),grV g] fun r=>Sim r (yfn p g):=by
  refine(c.use (Q:=fun r=>Sim r (yfn p g)) (Sim.refl _)).simL ?_;exact⟨ybip _ _ _,Sim.refl _,trivial⟩
 exact Returns.of b
section
variable {Q1 Q2:(Nat->Option ABlk)->Value->Prop}{p:ProgT}{g:Gr}
set_option maxHeartbeats 4000000 in
theorem yblo(h:Checked Q1 Q2 p g)(I:TabOk (tabP p g))(kind:Int):Returns zH 58 [.ag (yfs Q1 Q2 p.raw),grV g,.i .i64 kind] (.rf (ydl p g (g.ports.map netP) kind (tabP p g))):=by
 refine Returns.of (ydwu _ _ ?_);have hM:=ybvs h;have W:=ybvl h.hg;have D:=ynv h;have V:=I.tot;have M:=I.len;obtain⟨T,Y⟩:∃T,tabP p g=T:=⟨_,rfl⟩;rw[Y]at D I V M ⊢
 generalize g.ports.map netP=net at W ⊢
 simp only[yfs,grV]at hM W D;simp only[c58,yecd,yedd,yfs,grV,clash,go_sem,zA,zB,zC];refine hM.use ?_;simp only[usV,yfn]at W ⊢;simp only[ybk,clash,go_sem,zA,zB,zD,zC];refine W.use ?_;simp only[go_sem,zB,zD]
 repeat refine ybd ?_
 refine D.use ?_;simp only[ydwa,ydyp,ydth,yu,splice,clash,go_sem,zA,zB,zD,zC]
 repeat refine ybd ?_
 let B:Nat×Fam:=(21,.one (some ⟨86,true,5,1,fun _=>[yfn p g,usV net,.i .i64 kind,yu T,.os (28,0) 0 T.length true]⟩))
 let y:Nat->Nat×Fam:=fun q=>(303,.many fun j=>if T.length-q<=j/\j<T.length then some (intO (cP T q j))else none)
 let f:Nat->Nat->List SV:=fun q j=>if T.length-q<=j then[.os (303,j) 0 (T.getD j []).length true]else[.a (.slice none 0 0)]
 have G:∀(O:Own) (q j:Nat),T.length-q<=j/\j<T.length->look O 303=some (y q).2->live O (303,j)=true:=fun O q j m ho=>by
  show(lookO O (303,j)).isSome=true;unfold lookO;rw[ho];show(if T.length-q<=j/\j<T.length then some (intO (cP T q j))else none).isSome=true
  rw[if_pos m];rfl
 refine ybf (σ:=Nat) (fun q=>⟨[(9,.i .i64 ((T.length:Int)-1-(q:Nat))),(8,.i .i64 (ppT T q:Nat)),(7,.pt (21,0) 0 0)],[B,(28,.one (some ⟨22,false,1,T.length,f q⟩)),y q]⟩) (fun q=>q<=T.length) (fun q=>T.length-q) 0 (zG _) ?_ ?_
 .refine yw ?_;simp only[B,y,f,usV,yfn,yu,ycqj,wk,go_sem,zA,zC];refine⟨fun _ _ _ _ e=>e,⟨by omega,rfl⟩,fun j m=>?_,fun j b k=>?_⟩
  .rw[if_neg (by omega)];exact yjf rfl
  .rw[if_neg (by omega)]at k;cases k
 .intro q hq
  by_cases z:q<T.length
  .obtain⟨v,hv⟩:∃v,T.length-1-q=v:=⟨_,rfl⟩;have a2:v<T.length:=by omega
   have H:(T.length:Int)-1-(q:Nat)=(v:Int):=by omega
   have d1:decide ((v:Int)>=0)=true:=by simp
   obtain⟨hr,k⟩:=I.at_ a2;have P:=ybqk z hv.symm;have E:=ydlv z hv.symm;have u:=ydvj I.bd z hv.symm;obtain⟨n,Q⟩:∃n,ppT T q=n:=⟨_,rfl⟩;obtain⟨d,o⟩:∃d,T.getD v []=d:=⟨_,rfl⟩;rw[o,Q]at P E u;rw[o]at hr k;have a0:¬T.length-q<=v:=by omega
   simp only[ydnk,ydxa,yebq,if_neg a0,B,y,f,usV,yfn,yu,ybc,H,d1,o,Q,splice,clash,go_sem,zA,zB,zD,zC]
   repeat refine ybd ?_
   have N:∀(O:Own) (j:Nat),T.length-q<=j/\j<T.length->look O 303=some (y q).2->Sh.live O (303,j)=true:=fun O j=>G O q j;refine ybf (σ:=Nat) (fun x=>⟨[(10,.i .i64 ((d.length:Int)-1-(x:Nat))),(9,.i .i64 (v:Nat)),(8,.i .i64 (pP d n x:Nat)),(7,.pt (21,0) 0 0)],[B,(28,.one (some ⟨22,false,1,T.length,fun j=>if j=v then[.os (54,0) 0 d.length true]else f q j⟩)),(54,.one (some ⟨3,false,1,d.length,fun t=>[.i .i64 (rowP d n x t)]⟩)),y q]⟩) (fun x=>x<=d.length) (fun x=>d.length-x) 0 (zG _) ?_ ?_
   .refine yw ?_;simp only[B,y,f,usV,yfn,yu,ybc,ydga,wk,go_sem,zA,zC];refine⟨fun _ _ _ _ e=>e,by omega,fun j m=>?_,fun t ht=>by rw[ycij d n ht],fun j b k=>?_⟩
    .by_cases e:j=v
     .simp only[if_pos e];exact ygk rfl rfl
     .by_cases w:T.length-q<=j
      .simp only[if_neg e,if_pos w];exact ygk (N _ j ⟨w,m⟩ rfl) rfl
      .simp only[if_neg e,if_neg w];exact yjf rfl
    .by_cases w:T.length-q<=j/\j<T.length
     .rw[if_pos w]at k;cases k
      exact⟨_,if_pos w,yci (ycr _)⟩
     .rw[if_neg w]at k;cases k
   .intro x hx
    by_cases s:x<d.length
    .obtain⟨i,hi⟩:∃i,d.length-1-x=i:=⟨_,rfl⟩;have Z:i<d.length:=by omega
     have F:(d.length:Int)-1-(x:Nat)=(i:Int):=by omega
     have d2:decide ((i:Int)>=0)=true:=by simp
     have S:=ydnn (p:=n) s hi.symm;have a1:=rowP_step (p:=n) s hi.symm;have a3:=u x;have a4:=u (x+1);obtain⟨X,b2,b3⟩:=k i Z;obtain⟨⟨lo,L⟩,J⟩:∃b,d.getD i (0,0)=b:=⟨_,rfl⟩;rw[J]at X b2 b3 S;simp only at X b2 b3;have U:=(ypz (b:=(lo,L)) X).2;simp only at U;have hm:((pP d n x:Nat):Int)*(L-lo+1)=((pP d n (x+1):Nat):Int):=by rw[S,zBY,U]
     simp only[ydkn,ydcq,ydei,ycsl,B,y,f,usV,yfn,yu,ybc,F,d2,o,J,hm,splice,clash,go_sem,zX,zA,zB,zD,zZ]
     repeat refine ybd ?_
     refine yj (x+1) s (by omega) ?_
     refine yw ?_;simp only[wk,go_sem,zA,zC];refine⟨fun _ _ _ _ e=>e,by omega,fun j m=>?_,fun t ht=>yfw ?_,fun j b k=>?_⟩
     .by_cases e:j=v
      .simp only[if_pos e];exact ygk rfl rfl
      .by_cases w:T.length-q<=j
       .simp only[if_neg e,if_pos w];exact ygk (N _ j ⟨w,m⟩ rfl) rfl
       .simp only[if_neg e,if_neg w];exact yjf rfl
     .rw[a1]
      by_cases e:t=i
      .rw[if_pos e,if_pos e]
      .rw[if_neg e,if_neg e]
     .by_cases w:T.length-q<=j/\j<T.length
      .rw[if_pos w]at k;cases k
       exact⟨_,if_pos w,yci (ycr _)⟩
      .rw[if_neg w]at k;cases k
    .obtain rfl:x=d.length:=by omega
     have F:(d.length:Int)-1-(d.length:Nat) = -1:=by omega
     simp only[ydkn,ydyh,B,y,f,usV,yfn,yu,ybc,F,clash,zBF,zCG,go_sem,zA,zB]
     repeat refine ybd ?_
     refine yj (q+1) z (by omega) ?_
     refine yca [(303,fun j=>if j=v then(54,0)else(303,j))] [] [] ?_
     simp only[yecu,P,wk,go_sem,zA,zC];refine⟨?_,by omega,fun j m=>?_,fun j b k=>?_⟩
     .repeat' apply zAL
      all_goals first|exact fun i _=>ybew (by decide) (by decide)|exact fun i _=>yts (by decide) (by decide)|exact fun i _ j _=>ybaz (by decide)
     .by_cases e:j=v
      .have C:T.length-(q+1)<=j:=by omega
       simp only[if_pos e,if_pos C];exact ygk (G _ (q+1) j ⟨C,m⟩ rfl) (by subst e;simp only[o,go_sem])
      .by_cases w:T.length-q<=j
       .have C:T.length-(q+1)<=j:=by omega
        simp only[if_neg e,if_pos w,if_pos C];exact ygk (G _ (q+1) j ⟨C,m⟩ rfl) (by simp only[e,go_sem])
       .have C:¬T.length-(q+1)<=j:=by omega
        simp only[if_neg e,if_neg w,if_neg C];exact yjf rfl
     .by_cases w:T.length-(q+1)<=j/\j<T.length
      .rw[if_pos w]at k;cases k
       by_cases e:j=v
       .subst e;simp only[go_sem,zA];have r:=E j;rw[if_pos rfl]at r;rw[r];refine yci (l:=(plR d n).1) (c:=⟨3,false,1,d.length,fun t=>[SV.i .i64 (rowP d n d.length t)]⟩) ⟨⟨rfl,rfl,rfl,(yblj d n).symm⟩,fun t ht=>?_⟩;show[SV.i .i64 (rowP d n d.length t)]=_;rw[ycmf]
       .have r:=E j;rw[if_neg e]at r;rw[r];have w2:T.length-q<=j/\j<T.length:=⟨by omega,w.2⟩
        simp only[e,go_sem,zA];exact⟨_,if_pos w2,yci (ycr _)⟩
      .rw[if_neg w]at k;cases k
  .obtain rfl:q=T.length:=by omega
   have H:(T.length:Int)-1-(T.length:Nat) = -1:=by omega
   simp only[ydnk,ydfe,B,y,f,usV,yfn,yu,ybc,H,clash,zBF,zCG,go_sem,zA,zB,zD];have A:∀j,T.length-T.length<=j:=fun j=>by omega
   have K:∀j,cP T T.length j=(yew T).getD j []:=fun j=>ydxe T j;have u:(yew T).length=T.length:=ybch T 1;have R:∀j,j<T.length->((yew T).getD j []).length=(T.getD j []).length:=fun j m=>yye m;refine⟨fun j m=>?_,yczb ⟨Sim.refl _,Sim.refl _,Sim.refl _,Sim.refl _,?_,trivial⟩ rfl⟩
   .simp only[if_pos (A j)];have w:T.length-T.length<=j/\j<T.length:=⟨A j,m⟩;simp only[if_pos w,intO,K,R j m,go_sem,zA]
   .unfold ycn yba;rw[u];refine yec fun j m=>?_;simp only[if_pos (A j)];have w:T.length-T.length<=j/\j<T.length:=⟨A j,m⟩;simp only[if_pos w,intO,K,R j m,SimL,go_sem,zA];exact Sim.refl _
end
end Sh
end
section
namespace Sh
open Ev Go.RowKit
theorem ydtp{h:Nm->Nm}{a:List Nat}{c:List Nm}{b O:Own}{X:List SV}{k:IntKind}{x:Int}(e:X=[.i k x]):telL h a c b O X [.i k x]:=by
 subst e;exact⟨.inl ⟨trivial,by rw[ychd];exact Sim.refl _,rfl⟩,rfl,trivial⟩
theorem ybic{l:List Int}{c:OB}{h:Nm->Nm}{f:List Nm}{b d:Own}(a:(c.e=3/\c.bx=false/\c.z=1/\c.n=l.length)/\∀i,i<l.length->c.g i=[.i .i64 (l.getD i 0)]) :
 (c.e=(intO l).e/\c.bx=(intO l).bx/\c.z=(intO l).z/\c.n=(intO l).n)/\(mapE (intO l).e=true->∀i,c.g i=(intO l).g i)/\∀i,i<(intO l).n->telL h [] f b d (c.g i) ((intO l).g i) :=
 ⟨a.1,fun q=>absurd (show false=true from q) zBI,fun i j=>ydtp (a.2 i j)⟩
set_option maxHeartbeats 8000000 in
theorem ycqp(p:ProgT){g:Gr}(M:ybh g)(V:p.ok=true){c:Conf}(C:ConfIn g.ports.length p.vars.length c){v:Nat}(P:v<g.ports.length){r:Nat}(O:r<p.rules.length) :
 Cm zH 127 [(302,0)] (ybu 302 303 c.length fun j=>c.getD j []) [.rf (ykk p.raw g),.os (302,0) 0 c.length true,.i .i64 v,.i .i64 r] fun W o=>W=yba (ykc p g c v r)/\o=ybu 302 303 c.length fun j=>c.getD j []:=by
 refine yclz [(302,0)] [] _ _ _ ?_;obtain⟨R,D⟩:∃R,p.rules.getD r default=R:=⟨_,rfl⟩;have f:=V;unfold ProgT.ok at f;simp only[zT,decide_eq_true_eq]at f
 have d:R.ok p.vars.length=true:=by
  rw[<-D,getD_at O];exact List.all_eq_true.1 f.2 _ (zO _)
 unfold RuleT.ok at d;simp only[zT,decide_eq_true_eq]at d
 have z:p.raw.rules.getD r default=R.raw:=by
  rw[<-D];simp[ProgT.raw,zN,O]
 have h:p.raw.rules.length=p.rules.length:=by simp[ProgT.raw]
 have u:R.raw.sets.length=R.sets.length:=by simp[RuleT.raw]
 have hid:=M.2.2.1;have U:=C.len;have A:=C.at_ P;have I:¬(c.getD v []).length=0:=by omega
 have K:v<c.length:=by omega
 let w:Nat->List Int:=fun j=>c.getD j []
 simp only[c127,ycrw,ydfc,ydfp,I,ykk,ydk,yjs,z,h,u,ybu,ycu,intO,if_pos K,clash,go_sem,zA,zB,zD,zC];obtain⟨L,s⟩:∃k,p.vars.length=k:=⟨_,rfl⟩;have t:=A.1;rw[s]at t d C;rw[s]at f;have H:ykc p g c v r=yuo p g c v (c.getD v []) R.sets:=by unfold ykc;rw[D]
 have y:∀k,(yuo p g c v (c.getD v []) (R.sets.take k)).length=L:=fun k=>(ytm p g c v _ _).trans t
 repeat refine ybd ?_
 refine ybf (σ:=Nat) (fun k=>⟨[(28,.i .i64 k),(27,.i .i64 R.sets.length),(26,yjs R.raw.sets),(0,.rf (ykk p.raw g)),(1,.os (302,0) 0 c.length true),(2,.i .i64 v),(9,.os (17,0) 0 L true)],
  (17,.one (some ⟨3,false,1,L,fun i=>[.i .i64 ((yuo p g c v (c.getD v []) (R.sets.take k)).getD i 0)]⟩))::ybu 302 303 c.length w⟩) (fun k=>k<=R.sets.length) (fun k=>R.sets.length-k) 0 (zG _) ?_ ?_
 .refine ybi [] [] [] ?_;simp only[ykk,ydk,yjs,h,u,t,ybu,ycu,wk,go_sem,zA,zC];refine⟨fun _ _ _ _ e=>e,fun i m=>rfl,fun i m=>⟨Sim.refl _,by rw[if_pos m]⟩,fun i b l=>?_⟩
  obtain⟨q,rfl⟩:=ycy l;exact⟨_,if_pos q,yci (ycr _)⟩
 .intro k hk;simp only[ycyz,ycrn,ydbk,ykk,yjs,u,ybu,splice,clash,go_sem,zA,zB,zD,zC];refine⟨fun G=>?_,fun G=>?_⟩
  .have n:k<R.sets.length:=by omega
   obtain⟨S,E⟩:∃S,R.sets.getD k default=S:=⟨_,rfl⟩
   have B:R.raw.sets.getD k default=⟨S.1,S.2.ser⟩:=by
    rw[<-E];simp[RuleT.raw,zN,n]
   have a:=List.all_eq_true.1 d.2 S (by rw[<-E,getD_at n];exact zO _)
   simp only[zT,decide_eq_true_eq]at a;have T:=ybjw p.raw M C P S.2 a.1.2 a.2;refine⟨by omega,?_⟩
   rw[B];refine .inl ⟨fun q J=>?_,T.useS ⟨Sim.refl _,?_,Sim.refl _,Sim.refl _,trivial⟩ ?_⟩
   .simp only[ycu,if_pos J];exact⟨zU _,fun _ _=>⟨trivial,trivial⟩⟩
   .unfold ycn;refine yec fun q J=>?_;simp only[ycu,if_pos J];exact⟨⟨Sim.refl _,trivial⟩,rfl⟩
   have Q:=ycbo (p.vars.getD S.1.toNat default).kind (ybj g v (p.vars.getD S.1.toNat default)) (yda g c v S.2 (-1));have x:p.raw.vars=p.vars:=rfl;simp only[yddq,ybk,ybap,yfi,varC,splice,x,s,clash,go_sem,zA,zB,zD];refine⟨by omega,by omega,by omega,Q.use ?_⟩
   simp only[go_sem,zA];have F:Nat.testBit 134217727 25=true:=by decide
   simp only[ydbg,F,clash,go_sem,zA,zB];refine⟨by omega,by omega,ikw (by omega) (by omega),?_⟩
   refine ybz (k+1) ?_;refine ybi [] [] [] ?_;simp only[ybuq p g c v _ _ k n,E,ycu,wk,go_sem,zA,zC];refine⟨fun _ _ _ _ e=>e,by omega,fun i m=>yfw ?_,fun i m=>by rw[if_pos m],fun i b l=>?_⟩
   .rw[yra (by rw[y];omega)]
    by_cases q:i=S.1.toNat
    .simp only[if_pos q]
    .simp only[if_neg q]
   .obtain⟨q,rfl⟩:=ycy l;exact⟨_,if_pos q,yci (ycr _)⟩
  .obtain rfl:k=R.sets.length:=by omega
   simp only[ycwl,yhi,clash,go_sem,zA,zB];have N:=y R.sets.length;rw[zAU,<-H]at N ⊢;refine⟨yba (ykc p g c v r),ybu 302 303 c.length w,?_,?_,rfl,rfl⟩
   .refine ybi [] [] [(17,0)] ?_;simp only[ybu,ycu,yba,wk,go_sem,zA,zC];refine⟨fun _ _ _ _ e=>e,by rw[N];exact Sim.refl _,fun i m=>by rw[if_pos m],fun i b l=>?_⟩
    obtain⟨q,rfl⟩:=ycy l;exact⟨_,if_pos q,ybic (ycr _)⟩
   .simp only[ybu,ycu,ycl,yfj,yba,wk,go_sem,zA];exact⟨fun k hk=>by rw[if_pos hk],fun i b l=>(ycy l).2▸ylf⟩
end Sh
end
section
theorem ybgn(f:Nat->Int):∀(l:List Nat),sumI (fun j=>f (l.getD j 0)) l.length=(l.map f).sum
 |[]=>rfl
 | x::l=>by
   show sumI _ (l.length+1)=_;rw[yni,List.map_cons,List.sum_cons,<-ybgn f l];rfl
theorem ybqv(f:Nat->Int)(p:Nat->Bool):∀m,(((zAQ m).filter p).map f).sum=sumI (fun v=>if p v=true then f v else 0) m
 |0=>rfl
 | m+1=>by
   rw[List.range_succ,List.filter_append,List.map_append,List.sum_append,ybqv f p m];show _=sumI _ m+_;congr 1;cases h:p m<;>simp[h]
theorem ybqx{g:Nat->Int}{n:Nat}:∀d,(∀v,n<=v->g v=0)->sumI g (n+d)=sumI g n
 |0,_=>rfl
 | d+1,h=>by
   show sumI g (n+d)+g (n+d)=_;rw[ybqx d h,h (n+d) (by omega)];omega
theorem ycdh{f:Nat->Int}{s n:Nat}(d:n<=32)(a:s<2^n):sumI (fun j=>f ((ycb s).getD j 0)) (ycb s).length=sumI (fun v=>if s.testBit v=true then f v else 0) n:=by
 rw[ybgn];unfold ycb;rw[ybqv]
 have:=ybqx (g:=fun v=>if s.testBit v=true then f v else 0) (n:=n) (32-n) fun v b=>by
  show(if s.testBit v=true then f v else 0)=0
  rw[zAX (zAO a (zJ (by omega) b))];rfl
 rw[show n+(32-n)=32 by omega]at this
 exact this
theorem ybqu:∀(xs a:List Int),grR xs xs a=0
 |[],_=>rfl
 |_::_,[]=>rfl
 | x::xs,q::a=>by
   show(x-x)*q+grR xs xs a=0;rw[ybqu xs a,Int.sub_self,Int.zero_mul];rfl
theorem yblt{f:Nat->Int}{B:Int}:∀n:Nat,(∀i,i<n -> -B<=f i/\f i<=B) -> -(n*B)<=sumI f n/\sumI f n<=n*B
 |0,_=>by simp[sumI]
 | n+1,h=>by
   have d:=yblt n fun i b=>h i (by omega)
   have a:=h n (by omega)
   show -(((n+1:Nat):Int)*B)<=sumI f n+f n/\sumI f n+f n<=((n+1:Nat):Int)*B;have:((n+1:Nat):Int)*B=n*B+B:=by rw[Int.natCast_add,Int.add_mul];simp
   omega
theorem ycva{a b:Int}(d:-2000000<=a/\a<=2000000)(e:0<=b/\b<=32768):-65536000000<=a*b/\a*b<=65536000000:=by
 have f:a*b<=2000000*b:=zAI d.2 e.1;have h:-2000000*b<=a*b:=zAI d.1 e.1;omega
theorem ycai:∀{bs:List (Int×Int)}(p:Nat) {t:Nat},bdR bs->t<bs.length->∃m:Nat,(plR bs p).1.getD t 0=(m:Int)/\m<=p*ybs bs
 |[],_,_,_,h=>by simp at h
 | b::bs,p,0,a,_=>⟨(plR bs p).2,rfl,by
   rw[ysz];exact zAF _ (zV _ (ypz (a b zL)).1)⟩
 | b::bs,p,t+1,a,h=>by
   obtain⟨m,d,e⟩:=ycai (bs:=bs) p (t:=t) (fun x f=>a x (zAB _ f)) (by simpa using h)
   exact⟨m,d,zS e (zAF _ (zV _ (ypz (a b zL)).1))⟩
theorem yccy:∀{rs:List (List (Int×Int))}(p:Nat) {v t:Nat},bdT rs->v<rs.length->t<(rs.getD v []).length->∃m:Nat,((plT rs p).1.getD v []).getD t 0=(m:Int)/\m<=p*ybm rs
 |[],_,_,_,_,h,_=>by simp at h
 | r::rs,p,0,t,a,_,e=>by
   obtain⟨m,b,d⟩:=ycai (bs:=r) (plT rs p).2 (a r zL) e;refine⟨m,b,zS d ?_⟩;rw[ybdu];show p*ybm rs*ybs r<=p*(ybs r*ybm rs);rw[zAS,zAT (ybm rs)];exact zU _
 | r::rs,p,v+1,t,a,h,e=>by
   obtain⟨m,b,d⟩:=yccy (rs:=rs) p (v:=v) (t:=t) (fun x f=>a x (zAB _ f)) (by simpa using h) e
   exact⟨m,b,zS d (zAF _ (zV _ (ymy (a r zL))))⟩
def yoh(p:ProgT)(g:Gr)(c:Conf)(v:Nat):Int:=if yeo p g c v<0 then 0 else grR (ykc p g c v (yeo p g c v).toNat) (c.getD v []) ((plT (tabP p g) 1).1.getD v [])
section
variable {p:ProgT}{g:Gr}{c:Conf}
theorem yeaz{v:Nat}:(ybt p g c).testBit v=(decide (v<g.ids.length)&&decide (yeo p g c v>=0)):=ymc _ _ _
theorem ydhf(r:ybh g)(t:p.ok=true)(o:∀c,ydo p g c=true->∀s,ydo p g (ygn p g c s)=true)(h:bdT (tabP p g))(k:ydo p g c=true)(b:g.ids.length<=32){s:Nat}(q:subB s (ybt p g c))(e:s<2^g.ids.length) :
 rkT (tabP p g) c+sumI (fun j=>yoh p g c ((ycb s).getD j 0)) (ycb s).length=rkT (tabP p g) (ygn p g c s):=by
 have n:ydo p g (ygn p g c s)=true:=o c k s;have a:=yiz.1 k;have d:=yiz.1 n;have l:c.length=g.ids.length:=(ynd.1 a).1.trans (yhn _ _ _);have f:=ydfk 1 a d;rw[ycgd (by rw[Sh.ylu]) (by rw[ybch];exact(yhn _ _ _).trans l.symm),l]at f
 rw[ycdh b e]
 have m:sumI (fun v=>if s.testBit v=true then yoh p g c v else 0) g.ids.length=sumI (fun i=>grR ((ygn p g c s).getD i []) (c.getD i []) ((plT (tabP p g) 1).1.getD i [])) g.ids.length:=ybbu fun v u=>by
  rw[Sh.yqb p g c s (by omega)]
  cases h:s.testBit v with
  | true =>
    have:=q v h;rw[yeaz,zT,decide_eq_true_iff,decide_eq_true_iff]at this;show yoh p g c v=grR (ykc p g c v _) _ _;unfold yoh;rw[if_neg (by omega)]
  | false =>
    show(0:Int)=grR (c.getD v []) _ _;rw[ybqu]
 rw[m,f];omega
end
end
section
def rkN(p:ProgT)(g:Gr)(d:Conf):Nat:=(rkT (tabP p g) d).toNat
def ybzn(perm:Nat->Bool)(p:ProgT)(g:Gr)(c:Conf):List (Nat×Nat):=(chP perm (ybt p g c)).map fun s=>(s,rkN p g (ygn p g c s))
namespace Sh
open Ev Go.RowKit
section
variable {Q1 Q2:(Nat->Option ABlk)->Value->Prop}{p:ProgT}{g:Gr}
theorem ycbm(h:Checked Q1 Q2 p g){c:Conf}(b:ydo p g c=true){v:Nat}(e:v<g.ids.length):inR ((tabP p g).getD v []) (ykc p g c v (yeo p g c v).toNat):=by
 have d:=yiz.1 (ykf h.hg h.hp h.hf b (2^v));have f:c.length=g.ids.length:=(ynd.1 (yiz.1 b)).1.trans (yhn _ _ _);have a:=(ynd.1 d).2 v (by rw[show(tabP p g).length=g.ids.length from yhn _ _ _];exact e)
 rw[yqb p g c _ (by omega),if_pos (by rw[Nat.testBit_two_pow];simp)]at a
 exact a
set_option maxHeartbeats 8000000 in
theorem ybxm (h:Checked Q1 Q2 p g) (hT:TabOk (tabP p g)) {kind:Int}(d4:kind=2\/kind=3) (d5:g.ids.length<=4) {c:Conf}(hc:ydo p g c=true) {perm:Nat->Bool}
 (b2:∀e s,e<2^g.ids.length->s≠0->s<16->s&&&e=s->Returns zH 171 [usV (g.ports.map netP),.i .i64 kind,.i .u32 (e:Nat),.i .u32 (s:Nat)] (.b (perm s))) :
 Cm zH 60 [(302,0)] (ybu 302 303 c.length fun j=>c.getD j []) [.rf (ydl p g (g.ports.map netP) kind (tabP p g)),.os (302,0) 0 c.length true,.i .i64 (rkN p g c:Nat)] fun r o =>
  r = .tp [.i .u32 (ybt p g c:Nat),ybl (ybzn perm p g c),.i .i64 0]/\o=ybu 302 303 c.length fun j=>c.getD j []:=by
 refine ydhv [(302,0)] [129,127] _ _ _ ?_;have hid:=h.hg.2.2.1;have e7:=h.hg.2.1;have b4:=ybpw h.hg h.hp hc;have a8:=yiz.1 hc;obtain⟨c5,c6⟩:=ynd.1 a8;have c2:(tabP p g).length=g.ids.length:=yhn _ _ _;have e6:c.length=g.ids.length:=c5.trans c2;have b6:ybt p g c<16:=zAO (yzj p g c) (zJ (by omega) d5:2^g.ids.length<=2^4)
 have U:∀v,v<g.ids.length->∃W,(tabP p g).getD v []=W/\W.length<=6/\(c.getD v []).length=W.length/\(ykc p g c v (yeo p g c v).toNat).length=W.length/\((yew (tabP p g)).getD v []).length=W.length /\
  ∀i,i<W.length->(-1000000<=(c.getD v []).getD i 0/\(c.getD v []).getD i 0<=1000000)/\(-1000000<=(ykc p g c v (yeo p g c v).toNat).getD i 0/\(ykc p g c v (yeo p g c v).toNat).getD i 0<=1000000)/\(0<=((yew (tabP p g)).getD v []).getD i 0/\((yew (tabP p g)).getD v []).getD i 0<=32768):=fun v E=>by
  have a0:v<(tabP p g).length:=by omega
  obtain⟨L,n⟩:=hT.at_ a0;obtain⟨h1,h2⟩:=yph.1 (c6 v a0);obtain⟨h3,h4⟩:=yph.1 (ycbm h hc E);refine⟨_,rfl,L.2,h1,h3,yye a0,fun i t=>?_⟩;have a:=n i t;have b:=h2 i t;have d:=h4 i t;obtain⟨m,e1,H⟩:=yccy 1 hT.bd a0 t;have e3:((yew (tabP p g)).getD v []).getD i 0=(m:Int):=e1;have e4:=hT.tot;rw[e3];omega
 have P:∀v,v<g.ids.length->∀x,x<=(c.getD v []).length -> -1000000000000<=sumI (fun i=>((ykc p g c v (yeo p g c v).toNat).getD i 0-(c.getD v []).getD i 0)*((yew (tabP p g)).getD v []).getD i 0) x/\sumI (fun i=>((ykc p g c v (yeo p g c v).toNat).getD i 0-(c.getD v []).getD i 0)*((yew (tabP p g)).getD v []).getD i 0) x<=1000000000000:=fun v E x hx=>by
  obtain⟨W,-,h1,h2,-,-,h3⟩:=U v E;have:=yblt (B:=65536000000) x fun i t=>ycva (a:=(ykc p g c v (yeo p g c v).toNat).getD i 0-(c.getD v []).getD i 0) (b:=((yew (tabP p g)).getD v []).getD i 0) (by have:=h3 i (by omega);omega) (h3 i (by omega)).2.2
  have f6:(x:Int)<=6:=by omega
  omega
 have a2:∀v,v<g.ids.length->¬yeo p g c v<0->yoh p g c v=sumI (fun i=>((ykc p g c v (yeo p g c v).toNat).getD i 0-(c.getD v []).getD i 0)*((yew (tabP p g)).getD v []).getD i 0) (c.getD v []).length:=fun v E L=>by
  obtain⟨W,-,h1,h2,h3,h4,-⟩:=U v E;unfold yoh;rw[if_neg L];exact ycbp (by omega) (by show((yew (tabP p g)).getD v []).length=_;omega)
 have Q:∀v,v<g.ids.length -> -1000000000000<=yoh p g c v/\yoh p g c v<=1000000000000:=fun v E=>by
  by_cases L:yeo p g c v<0
  .have:yoh p g c v=0:=if_pos L;omega
  .rw[a2 v E L];exact P v E _ (zU _)
 have a7:=fun v (E:v<g.ids.length)=>yckn p h.hg h.hp b4 (v:=v) (by omega)
 have a5:=fun v (E:v<g.ids.length) (r:Nat) (L:r<p.rules.length)=>ycqp p h.hg h.hp b4 (v:=v) (by omega) L
 let bc:List SV:=ydl p g (g.ports.map netP) kind (tabP p g)
 let w:Nat->List Int:=fun j=>c.getD j []
 let K:Own:=ybu 302 303 c.length w
 let f:Nat->Bool:=fun j=>decide (yeo p g c j>=0)
 simp only[c60,ydrv,ydtn,ydvb,yecq,ydl,ybu,clash,go_sem,zA,zB,zC];refine ybf (σ:=Nat) (fun v=>⟨[(23,.i .i64 v),(22,.i .i64 (c.length:Nat)),(1,.os (302,0) 0 c.length true),(0,.rf bc),(9,.i .u32 (ylv f v:Nat)),(2,.i .i64 (rkN p g c:Nat)),(10,.pt (10,0) 0 0)],(10,.one (some ⟨150,true,1,24,fun j=>[.i .i64 (if j<v then yoh p g c j else 0)]⟩))::K⟩) (fun v=>v<=g.ids.length) (fun v=>g.ids.length-v) 0 (zG _) ?_ ?_
 .refine ybi [] [] [] ?_;simp only[K,ybu,ycu,bc,ydl,ycn,yba,ylv,zY,wk,go_sem,zA,zC];exact⟨fun _ _ _ _ e=>e,fun i t=>⟨Sim.refl _,by rw[if_pos t]⟩,fun i b n=>ydu n⟩
 .intro v E
  by_cases A:v<g.ids.length
  .have d1 : decide ((v:Int)<(c.length:Int))=true:=by simp;omega
   have f4:=yclx p g c v;have Y:ylv f (v+1)=if f v=true then ylv f v|||2^v else ylv f v:=rfl
   have f5:=ybdk f v;have e8:2^v<=2^4:=zJ (by omega) (by omega)
   have hR:=a7 v A
   by_cases L:yeo p g c v<0
   .have d2:decide (yeo p g c v<0)=true:=decide_eq_true L;have b0:f v=false:=decide_eq_false (by omega)
    rw[b0,if_neg (by decide)]at Y
    have c8:yoh p g c v=0:=if_pos L;simp only[ycnn,ydiu,ydfw,ydik,ycfu,K,ybu,bc,ydl,yfn,d1,clash,go_sem,zA,zB,zD,zF];refine .inl ⟨fun q F=>?_,hR.useS ⟨ybjo _ _,?_,Sim.refl _,trivial⟩ (zAL rfl ?_)⟩
    .simp only[ycu,if_pos F];exact⟨zU _,fun _ _=>⟨trivial,trivial⟩⟩
    .unfold ycn;refine yec fun q F=>?_;simp only[ycu,if_pos F];exact⟨⟨Sim.refl _,trivial⟩,rfl⟩
    simp only[ybk,d2,clash,go_sem,zA,zB]
    repeat refine ybd ?_
    refine yj (v+1) A (by omega) ?_
    refine ybi [] [] [] ?_;simp only[ycu,Y,wk,go_sem,zA,zC];refine⟨fun _ _ _ _ e=>e,by omega,fun j hj=>?_,fun i t=>by rw[if_pos t],fun i b n=>ydu n⟩
    by_cases e:j<v
    .rw[if_pos e,if_pos (by omega)]
    .rw[if_neg e]
     by_cases H:j=v
     .rw[if_pos (by omega),H,c8]
     .rw[if_neg (by omega)]
   .have d2:decide (yeo p g c v<0)=false:=decide_eq_false L;obtain⟨r,c0⟩:∃r:Nat,yeo p g c v=(r:Int):=⟨(yeo p g c v).toNat,by omega⟩
    have b0:f v=true:=decide_eq_true (by omega)
    rw[b0,if_pos rfl]at Y;have hM:=a5 v A r (by omega)
    have b9:=ycbm h hc A;rw[c0]at hR d2 b9;rw[zAJ]at b9;have I:=P v A;have J:=a2 v A L;obtain⟨W,-,w1,w2,w3,w4,w5⟩:=U v A;rw[c0,zAJ]at I J w3 w5;have f1:(yew (tabP p g)).length=g.ids.length:=(ybch _ 1).trans c2;obtain⟨M,c4⟩:∃M,ykc p g c v r=M:=⟨_,rfl⟩;obtain⟨cv,a1⟩:∃cv,c.getD v []=cv:=⟨_,rfl⟩;obtain⟨qv,a3⟩:∃qv,(yew (tabP p g)).getD v []=qv:=⟨_,rfl⟩;rw[c4]at hM I J w3 w5;rw[a1]at I J w2 w5;rw[a3]at I J w4 w5
    let gt:Nat->Int:=sumI (fun i=>(M.getD i 0-cv.getD i 0)*qv.getD i 0)
    have u1:=ybqs (v:=v) (by omega)
    have u2:=u32_or (a:=ylv f v) (b:=2^v) (by omega) (by omega)
    rw[<-Y]at u2;simp only[IntKind.bits,zAJ]at u1 u2;simp only[ycnn,ydiu,ydfw,ydik,K,ybu,bc,ydl,yfn,d1,clash,go_sem,zA,zB,zD,zF];refine .inl ⟨fun q F=>?_,hR.useS ⟨ybjo _ _,?_,Sim.refl _,trivial⟩ (zAL rfl ?_)⟩
    .simp only[ycu,if_pos F];exact⟨zU _,fun _ _=>⟨trivial,trivial⟩⟩
    .unfold ycn;refine yec fun q F=>?_;simp only[ycu,if_pos F];exact⟨⟨Sim.refl _,trivial⟩,rfl⟩
    simp only[ybk,yebt,ydvs,d2,u1,u2,clash,go_sem,zA,zB,zD,zF]
    repeat refine ybd ?_
    refine yeu hM [(302,302),(303,303)] 400 [11,23,22,1,0,9,2,10] [10] ?_ ?_
    .simp only[ybu,ycu,to1,okN,ycl,yfj,yek,ydx,wk,go_sem,zA,zB,zC,zF];exact⟨fun _ _ _ _ e=>e,ybjo _ _,fun i t=>⟨Sim.refl _,by rw[if_pos t]⟩,fun i b n=>ydu n⟩
    rintro r o' ⟨rfl,rfl⟩;simp only[ybu,yba,yoy,ymm,nuF,nu,difN,yek,ydx,Fam.ren,OB.ren,dim,ybbe,yjw,go_sem,zA,zB,zF];refine ybf (σ:=Nat) (fun x=>⟨[(48,.i .i64 x),(47,.i .i64 (M.length:Nat)),(46,yba M),(11,.i .i64 v),(23,.i .i64 v),(22,.i .i64 (c.length:Nat)),(1,.os (302,0) 0 c.length true),(0,.rf bc),(9,.i .u32 (ylv f (v+1):Nat)),(2,.i .i64 (rkN p g c:Nat)),(10,.pt (10,0) 0 0)],(10,.one (some ⟨150,true,1,24,fun j=>[.i .i64 (if j=v then gt x else if j<v then yoh p g c j else 0)]⟩))::K⟩) (fun x=>x<=M.length) (fun x=>M.length-x) 0 (zG _) ?_ ?_
    .refine ybi [] [] [] ?_;simp only[K,ybu,ycu,bc,ydl,yba,wk,go_sem,zA,zC];refine⟨fun _ _ _ _ e=>e,Sim.refl _,fun i t=>?_,fun i t=>⟨Sim.refl _,by rw[if_pos t]⟩,fun i b n=>yjv (h':=nu [(302,302),(303,303)] 400) n⟩
     have:gt 0=0:=rfl
     by_cases e:i=v
     .rw[if_pos e,if_neg (by omega),this]
     .rw[if_neg e]
    .intro x hx
     by_cases D:x<M.length
     .have d3:=dec_lt D;have c9:=I x (by omega)
      have d0:=I (x+1) (by omega)
      have X:gt (x+1)=gt x+(M.getD x 0-cv.getD x 0)*qv.getD x 0:=rfl
      change -1000000000000<=gt x/\gt x<=1000000000000 at c9
      change -1000000000000<=gt (x+1)/\gt (x+1)<=1000000000000 at d0
      obtain⟨y1,y2,y3⟩:=w5 x (by omega)
      obtain⟨Mx,a6⟩:∃y,M.getD x 0=y:=⟨_,rfl⟩;obtain⟨cx,a9⟩:∃y,cv.getD x 0=y:=⟨_,rfl⟩;obtain⟨qx,b3⟩:∃y,qv.getD x 0=y:=⟨_,rfl⟩;rw[a6,a9,b3]at X;rw[a6]at y2;rw[a9]at y1;rw[b3]at y3;have e9:=ycva (a:=Mx-cx) (b:=qx) (by omega) y3
      have d7:v<c.length:=by omega
      have d9:w v=cv:=a1;simp only[K,ybu,ycu,intO,if_pos d7,d9,ybzh,ycum,ycrz,ydex,bc,ydl,ycn,yba,d3,a3,a6,a9,b3,splice,clash,go_sem,zA,zB]
      repeat refine ybd ?_
      refine yj (x+1) D (by omega) ?_
      refine ybi [] [] [] ?_;simp only[wk,go_sem,zA,zC];refine⟨fun _ _ _ _ e=>e,by omega,fun i t=>yfw ?_,fun i t=>by rw[if_pos t],fun i b n=>ydu n⟩
      by_cases e:i=v
      .rw[if_pos e,if_pos e,X]
      .rw[if_neg e,if_neg e,if_neg e]
     .obtain rfl:x=M.length:=by omega
      simp only[K,ybu,ybzh,ycfu,bc,ydl,yba,zI,clash,go_sem,zA,zB]
      repeat refine ybd ?_
      refine yj (v+1) A (by omega) ?_
      refine ybi [] [] [] ?_;simp only[ycu,wk,go_sem,zA,zC];refine⟨fun _ _ _ _ e=>e,⟨by omega,Sim.refl _⟩,fun j hj=>?_,fun i t=>by rw[if_pos t],fun i b n=>ydu n⟩
      by_cases e:j=v
      .rw[if_pos e,if_pos (by omega),e,J]
       show sumI _ M.length=_;rw[show M.length=cv.length by omega]
      .rw[if_neg e]
       by_cases H:j<v
       .rw[if_pos H,if_pos (by omega)]
       .rw[if_neg H,if_neg (by omega)]
  .obtain rfl:v=g.ids.length:=by omega
   have d1:decide (((g.ids.length:Nat):Int)<(c.length:Int))=false:=by simp;omega
   have c7:ylv f g.ids.length=ybt p g c:=rfl;obtain⟨en,O⟩:∃e,ybt p g c=e:=⟨_,rfl⟩;have Z:=ybke (net:=g.ports.map netP) d4 b6 (fun s h1 h2 h3=>b2 _ s (yzj p g c) h1 h2 h3);have V:=fun s (hs:subB s (ybt p g c)) (h2:s<2^g.ids.length)=>ydhf h.hg h.hp (fun c hc s=>ykf h.hg h.hp h.hf hc s) hT.bd hc (by omega) hs h2
   have S:=fun s (hs:s∈chP perm (ybt p g c))=>ybrl hs;rw[c7];rw[O]at Z V S b6 ⊢;obtain⟨z,N⟩:∃l,chP perm en=l:=⟨_,rfl⟩;have b5:ybzn perm p g c=z.map fun s=>(s,rkN p g (ygn p g c s)):=by unfold ybzn;rw[O,N]
   rw[b5];rw[N]at Z S;have e5:z.length<=16:=by rw[<-N];exact ybbx _ _ _
   simp only[usV]at Z;simp only[K,ybu,ycnn,ycrc,bc,ydl,d1,clash,go_sem,zA,zB,zD,zF];refine Z.use ?_;simp only[ybk,ydbw,yczj,ycvp,splice,clash,go_sem,zA,zB,zC]
   repeat refine ybd ?_
   let R:Nat->Nat:=fun s=>rkN p g (ygn p g c s)
   let u:Nat->Nat->Nat:=fun i j=>if j<i then z.getD j 0 else 0
   let w:Nat->Nat->Int:=fun i j=>if j<i then(R (z.getD j 0):Nat)else 0
   have d6:∀j,u 0 j=0:=fun j=>if_neg (zY j);have d8:∀j,w 0 j=0:=fun j=>if_neg (zY j)
   let G:OB:=⟨150,true,1,24,fun j=>[.i .i64 (if j<g.ids.length then yoh p g c j else 0)]⟩
   let B:Own:=[(17,.one (some ⟨78,true,1,1,fun _=>[.os (98,0) 0 z.length true]⟩)),(10,.one (some G))]++K
   let C:(Nat->Nat)->(Nat->Int)->Nat×Fam:=fun u w=>(98,.one (some ⟨103,false,2,z.length,fun j=>[.i .u32 (u j:Nat),.i .i64 (w j)]⟩))
   refine ybf (σ:=Nat) (fun i=>⟨[(101,.i .i64 i),(100,.i .i64 (z.length:Nat)),(99,usV z),(9,.i .u32 (en:Nat)),(2,.i .i64 (rkN p g c:Nat)),(10,.pt (10,0) 0 0),(17,.pt (17,0) 0 0)],C (u i) (w i)::B⟩) (fun i=>i<=z.length) (fun i=>z.length-i) 0 (zG _) ?_ ?_
   .refine ybi [] [] [] ?_;simp only[K,ybu,ycu,usV,G,B,C,d6,d8,wk,go_sem,zA,zC];exact⟨fun _ _ _ _ e=>e,fun i t=>by rw[if_pos t],fun i b n=>ydu n⟩
   .intro i t
    by_cases A:i<z.length
    .have d2:=dec_lt A;obtain⟨s,hs⟩:∃s,z.getD i 0=s:=⟨_,rfl⟩;obtain⟨m1,m2,m3,-⟩:=S s (by rw[<-hs];exact getD_mem A)
     have e0:s<2^24:=by omega
     have a4:subB s en:=fun v E=>by
      have:(s&&&en).testBit v=true:=by rw[m3];exact E
      rw[zBZ,zT]at this;exact this.2
     have b7:en<2^g.ids.length:=by rw[<-O];exact yzj p g c
     have c1:s<2^g.ids.length:=ybdz a4 b7
     let gv:Nat->Int:=fun q=>(rkN p g c:Nat)+sumI (fun j=>yoh p g c ((ycb s).getD j 0)) q
     have b1:gv (ycb s).length=(R s:Nat):=by
      have e1:=V s a4 c1;have H:=(ybaq a8).1;have e3:=(ybaq (yiz.1 (ykf h.hg h.hp h.hf hc s))).1;show((rkT (tabP p g) c).toNat:Int)+_=((rkT (tabP p g) (ygn p g c s)).toNat:Int);omega
     have T:∀q,q<(ycb s).length->(ycb s).getD q 0<g.ids.length:=fun q F=>by
      obtain⟨-,n⟩:=yckt e0 (getD_mem F);refine zAC fun J=>?_;rw[zAX (zAO c1 (zJ (by omega) (by omega)))]at n
      cases n
     have f0:(ycb s).length<=32:=by
      have:=List.length_filter_le (fun v=>s.testBit v) (zAQ 32);unfold ycb
      simpa using this
     have f3:rkN p g c<=32768:=by
      have H:=ybaq a8;have e3:=hT.tot;show(rkT (tabP p g) c).toNat<=_;omega
     have b8:∀q,q<=(ycb s).length -> -100000000000000<=gv q/\gv q<=100000000000000:=fun q F=>by
      have:=yblt (f:=fun j=>yoh p g c ((ycb s).getD j 0)) (B:=1000000000000) q fun j hj=>Q _ (T j (by omega))
      have f2:(q:Int)<=32:=by omega
      show -100000000000000<=(rkN p g c:Int)+_/\(rkN p g c:Int)+_<=100000000000000;omega
     have X:∀q,gv (q+1)=gv q+yoh p g c ((ycb s).getD q 0):=fun q=>by
      exact(Int.add_assoc _ _ _).symm
     simp only[K,ybu,ybxd,ycyj,ydbl,ydbx,usV,G,B,C,d2,hs,splice,clash,go_sem,zA,zB,zD,zC]
     repeat refine ybd ?_
     refine yeu (ycpz (s:=s)) [(1,60)] 0 [101,100,99,9,2,10,17,18] [17,18,10,98,302,303] ?_ ?_
     .simp only[ycu,to1,okN,ycl,yfj,yek,ydx,wk,go_sem,zA,zF];exact⟨fun k hk=>by split<;>rfl,fun i b n=>(ycy n).2▸ylf⟩
     rintro r o' ⟨rfl,rfl⟩;simp only[setO,yoy,ymm,nuF,nu,difN,yek,ydx,Fam.ren,OB.ren,dim,yih,ycrp,ycwd,go_sem,zA,zF]
     refine yky (ycfs (b:=60) (s:=s) (by omega)) [(60,0),(17,0),(18,0),(10,0),(98,0),(302,0)] (fun q (_:Unit)=>⟨[(113,.fn 172 [] [.pt (60,0) 0 0]),(101,.i .i64 i),(100,.i .i64 (z.length:Nat)),(99,usV z),(9,.i .u32 (en:Nat)),(2,.i .i64 (rkN p g c:Nat)),(10,.pt (10,0) 0 0),(17,.pt (17,0) 0 0),(18,.pt (18,0) 0 0)],
      (60,.one (some (setO (yeb s q))))::(18,.one (some ⟨3,true,1,1,fun _=>[.i .i64 i]⟩))::C (fun k=>if k=i then s else u i k) (fun k=>if k=i then gv q else w i k)::B⟩)
      (fun q _=>q<=(ycb s).length) () (zG _) ⟨fun β h=>by rw[List.mem_singleton.1 h];simp,fun β h=>by rw[List.mem_singleton.1 h];exact zL⟩ ?_ (fun _=>rfl) ?_ ?_ ?_
     .refine ybi [] [] [] ?_;simp only[K,ybu,ycu,setO,usV,yeb,G,B,C,wk,go_sem,zA,zC];refine⟨fun _ _ _ _ e=>e,fun k hk=>?_,fun i t=>by rw[if_pos t],fun i b n=>ydu n⟩
      have h0:gv 0=(rkN p g c:Nat):=Int.add_zero _
      by_cases e:k=i
      .rw[if_pos e,if_pos e,if_pos e,h0];exact yqm rfl
      .rw[if_neg e,if_neg e,if_neg e];exact yqm rfl
     .intro q _ F _;refine⟨rfl,?_⟩;simp only[usV,wk,go_sem,zA]
     .intro q _ F D;have D:q<(ycb s).length:=D;have E:=T q D;have g1:=b8 q (by omega)
      have g2:=b8 (q+1) (by omega)
      have g3:=X q;have g4:=Q _ E;obtain⟨v,c3⟩:∃v,(ycb s).getD q 0=v:=⟨_,rfl⟩;rw[c3]at E g3 g4;refine⟨_,rfl,?_⟩;simp only[ycao];simp only[K,ybu,ycxm,yctx,usV,G,B,C,c3,if_pos E,splice,clash,go_sem,zA,zB]
      repeat refine ybd ?_
      refine ybi [] [] [] ?_;simp only[ycu,setO,wk,go_sem,zA,zC];refine⟨fun _ _ _ _ e=>e,fun k hk=>?_,fun i t=>by rw[if_pos t],fun i b n=>ydu n⟩
      by_cases e:k=i
      .rw[if_pos e,if_pos e,if_pos e,g3];exact yqm rfl
      .simp only[if_neg e];exact yqm rfl
     .intro _ _;simp only[ydcz,ycao,clash,go_sem,zA,zB]
      repeat refine ybd ?_
      refine yj (i+1) A (by omega) ?_
      refine ybi [] [] [] ?_;simp only[K,ybu,ycu,usV,G,B,C,b1,wk,go_sem,zA,zC];refine⟨fun _ _ _ _ e=>e,by omega,fun k hk=>?_,fun i t=>by rw[if_pos t],fun i b n=>ydu n⟩
      show _=((if k<i+1 then z.getD k 0 else 0:Nat):Int)/\_=(if k<i+1 then((R (z.getD k 0):Nat):Int)else 0)
      by_cases e:k=i
      .rw[if_pos e,if_pos e,if_pos (by omega),if_pos (by omega),e,hs]
       exact⟨rfl,rfl⟩
      .rw[if_neg e,if_neg e]
       by_cases H:k<i
       .rw[if_pos (by omega),if_pos (by omega)]
        exact⟨congrArg _ (if_pos H),if_pos H⟩
       .rw[if_neg (by omega),if_neg (by omega)]
        exact⟨congrArg _ (if_neg H),if_neg H⟩
    .obtain rfl:i=z.length:=by omega
     simp only[ybxd,ydbb,yhi,usV,G,B,C,K,ybu,zI,clash,go_sem,zA,zB]
     repeat refine ybd ?_
     refine⟨.tp [.i .u32 (en:Nat),ybl (z.map fun s=>(s,rkN p g (ygn p g c s))),.i .i64 0],K,?_,?_,rfl,rfl⟩
     .refine ybi [] [] [(98,0)] ?_;simp only[K,ybu,ycu,ybl,zAH,wk,go_sem,zA,zC];refine⟨fun _ _ _ _ e=>e,ybbp ⟨Sim.refl _,yec fun q F=>?_,Sim.refl _,trivial⟩,fun i t=>by rw[if_pos t],fun i b n=>?_⟩
      .have e1:u z.length q=z.getD q 0:=if_pos F;have H:w z.length q=(R (z.getD q 0):Nat):=if_pos F
       have e3:(z.map fun s=>(s,rkN p g (ygn p g c s))).getD q (0,0)=(z.getD q 0,R (z.getD q 0)):=by
        simp only[zAA,zBL,zK F];rfl
       rw[e1,H,e3];exact⟨⟨Sim.refl _,Sim.refl _,trivial⟩,rfl⟩
      .obtain⟨q,rfl⟩:=ycy n;exact⟨_,if_pos q,ybic (ycr _)⟩
     .simp only[K,ybu,ycu,ycl,yfj,ybl,wk,go_sem,zA];exact⟨fun k hk=>by rw[if_pos hk],fun i b n=>(ycy n).2▸ylf⟩
end
end Sh
end
section
def cfP(p:ProgT)(g:Gr)(k:Nat):Conf:=(unT (tabP p g) k).1
def spcP(perm:Nat->Bool)(p:ProgT)(g:Gr):Spc:=⟨ybm (tabP p g),fun k=>ybt p g (cfP p g k),fun k=>ybzn perm p g (cfP p g k)⟩
def cfA(T:List (List (Int×Int))):Nat->Conf
 |0=>(unT T 0).1
 |k+1=>(advT T (cfA T k)).1
theorem ycdp{T:List (List (Int×Int))}(a:bdT T):∀{k:Nat},k<ybm T->cfA T k=(unT T k).1
 |0,_=>rfl
 | k+1,h=>by
   show(advT T (cfA T k)).1=_;rw[ycdp a (by omega),ydjo a h]
theorem ydsf{p:ProgT}{g:Gr}{k:Nat}(hk:k<ybm (tabP p g)):rkN p g (cfP p g k)=k:=by
 unfold rkN cfP;rw[ybsf,Nat.mod_eq_of_lt hk,zAJ]
theorem ybxp{p:ProgT}{g:Gr}(a:bdT (tabP p g))(k:Nat):ydo p g (cfP p g k)=true:=yiz.2 (ybba k a)
namespace Sh
open Ev Go.RowKit
theorem ycba{h:Nm->Nm}{a:List Nat}{b O:Own}(l:List (Nat×Nat)):telL h a [] b O [ybl l] [ybl l]:=⟨.inl ⟨(yii _ _ _).2 trivial,by rw[yeh];exact Sim.refl _,rfl⟩,rfl,trivial⟩
section
variable {Q1 Q2:(Nat->Option ABlk)->Value->Prop}{p:ProgT}{g:Gr}
set_option maxHeartbeats 8000000 in
theorem ybxq (h:Checked Q1 Q2 p g) (d:TabOk (tabP p g)) {kind:Int}(O:kind=2\/kind=3) (a3:g.ids.length<=4) {perm:Nat->Bool}
 (H:∀e s,e<2^g.ids.length->s≠0->s<16->s&&&e=s->Returns zH 171 [usV (g.ports.map netP),.i .i64 kind,.i .u32 (e:Nat),.i .u32 (s:Nat)] (.b (perm s)))
 (z:sumA (spcP perm p g) (ybm (tabP p g))<=262144) :
 Returns zH 14 [.ag (yfs Q1 Q2 p.raw),grV g,.i .i64 kind] (.tp [.ag (spcC (spcP perm p g)),.i .i64 0]):=by
 refine Returns.of (ydki [59,61,60] _ _ ?_);have W:=ycjk h d;have hD:=ybvm kind;have A:=yblo h d kind;have X:=ycnt h d;have Y:=fun k (hk:k<ybm (tabP p g))=>ybxm h d O a3 (c:=cfP p g k) (ybxp d.bd k) H;have I:(decide (1<=kind)&&decide (kind<=4))=true:=by rcases O with rfl|rfl<;>rfl
 rw[I]at hD;obtain⟨S,n⟩:∃S,spcP perm p g=S:=⟨_,rfl⟩;have C:S.N=ybm (tabP p g):=by rw[<-n];rfl
 have K:∀k,ybt p g (cfP p g k)=S.en k:=fun k=>by rw[<-n];rfl
 have Z:∀k,ybzn perm p g (cfP p g k)=S.arcs k:=fun k=>by rw[<-n];rfl
 have G:=fun k (hk:k<=S.N)=>ync S hk;rw[n]at z ⊢;rw[<-C]at z;have J:=d.tot;obtain⟨T,u⟩:∃T,tabP p g=T:=⟨_,rfl⟩;have a1:∀k,cfP p g k=(unT T k).1:=fun k=>by rw[<-u];rfl
 have Q:=fun k=>ydsf (p:=p) (g:=g) (k:=k);have a7:T.length=g.ids.length:=by rw[<-u];exact yhn _ _ _
 rw[u]at d W X A Y C J;simp only[u]at Q Y;have hA:=fun k=>ybuu d (c:=cfA T k);simp only[yfs,grV]at W A X;simp only[c14,ydrk,ydti,yfs,grV,clash,go_sem,zA,zB,zC,zF];refine W.use ?_;simp only[ybk,ydoh,yduy,clash,zQ,go_sem,zA,zB,zF];refine hD.use ?_;simp only[ybk,ydzb,ydyv,clash,zQ,go_sem,zA,zB,zF];refine A.use ?_;simp only[ydsz,ydeb,clash,go_sem,zA,zB,zD,zC]
 repeat refine ybd ?_
 refine yeu X [(302,72),(303,73)] 400 [10,8,11,6] [46,48,11,6] ?_ ?_
 .simp only[ydl,usV,yu,ycn,yfn,to1,okN,ycl,yfj,yek,ydx,wk,go_sem,zA,zB,zF]
 rintro r o' ⟨rfl,rfl⟩;simp only[ybu,yoy,ymm,nuF,nu,difN,yek,ydx,Fam.ren,OB.ren,dim,yih,yrh,yjw,go_sem,zA,zB,zF];simp only[ycre,ydfj,clash,go_sem,zA,zB]
 let B:Own:=[(6,.one (some ⟨41,true,2,1,fun _=>[.a (.slice none 0 0),.a (.slice none 0 0)]⟩)),(11,.one (some ⟨41,true,2,1,fun _=>[.os (46,0) 0 (ybm T) true,.os (48,0) 0 (ybm T) true]⟩))]
 let e:Nat->Nat->Nat:=fun k j=>if j<k then S.en j else 0
 let a:Nat->Nat->SV:=fun k j=>if j<k then ybl (S.arcs j)else .a (.slice none 0 0)
 have a2:∀j,e 0 j=0:=fun j=>if_neg (zY j)
 have y:∀{p:Nm->Bool}(k j:Nat),cln p 5 (a k j)=true:=fun k j=>by
  show cln _ 5 (if j<k then ybl (S.arcs j)else .a (.slice none 0 0))=true
  split<;>rfl
 have a0:∀j,a 0 j = .a (.slice none 0 0):=fun j=>if_neg (zY j)
 let V:(Nat->Nat)->(Nat->SV)->Own:=fun e a=>[(46,.one (some ⟨77,false,1,ybm T,fun j=>[.i .u32 (e j:Nat)]⟩)),(48,.one (some ⟨78,false,1,ybm T,fun j=>[a j]⟩))]
 refine ybf (σ:=Nat) (fun k=>⟨[(57,.i .i64 k),(56,.i .i64 (ybm T:Nat)),(10,.rf (ydl p g (g.ports.map netP) kind T)),(12,.os (72,0) 0 T.length true),(14,.i .i64 (sumA S k:Nat)),(11,.pt (11,0) 0 0),(6,.pt (6,0) 0 0)],
  ybu 72 73 T.length (fun j=>(cfA T k).getD j [])++(V (e k) (a k)++B)⟩) (fun k=>k<=ybm T) (fun k=>ybm T-k) 0 (zG _) ?_ ?_
 .refine yw ?_
  have P:∀v,v<T.length->(cfA T 0).getD v []=lowT T v:=fun v I=>by
   show(unT T 0).1.getD v []=_;rw[ycaz d.bd,yyh I]
  simp only[B,V,a2,a0,ybu,ycu,ydl,usV,yu,ycn,yfn,wk,go_sem,zA,zC];refine⟨fun _ _ _ _ e=>e,rfl,fun v I=>⟨by rw[P v I];exact Sim.refl _,by rw[if_pos I]⟩,fun v b D=>?_⟩
  obtain⟨q,rfl⟩:=ycy D;rw[P v q];exact yjv (h':=nu [(302,72),(303,73)] 400) (w:=lowT T) (if_pos q)
 .intro k hk
  by_cases f:k<ybm T
  .have d1:=dec_lt f;have E:=ycdp d.bd f;have a5:=ycdp (k:=k+1) d.bd;have m:=hA k (by rw[E];exact ybba k d.bd)
   have o:=Y k f;rw[K,Z,Q k f,a1 k,<-E]at o;have M:(cfA T k).length=T.length:=(ynd.1 (by rw[E];exact ybba k d.bd)).1
   have a4:(advT T (cfA T k)).1=cfA T (k+1):=rfl;rw[a4]at m;obtain⟨c,hc⟩:∃c,cfA T k=c:=⟨_,rfl⟩;obtain⟨c',L⟩:∃c,cfA T (k+1)=c:=⟨_,rfl⟩;rw[hc]at M o m;rw[L]at m;have a6:=G (k+1) (by omega)
   have R:sumA S (k+1)=sumA S k+(S.arcs k).length:=rfl;obtain⟨tot,l⟩:∃t,sumA S k=t:=⟨_,rfl⟩;rw[l]at R;have d2:decide ((tot:Int)+((S.arcs k).length:Int)>262144)=false:=by simp;omega
   rw[M]at o;simp only[ycec,ycsd,ydel,B,V,ybu,d1,hc,clash,go_sem,zA,zB,zF];refine yeu o [(302,72),(303,73)] 400 [15,57,56,10,12,14,11,6] [46,48,11,6] ?_ ?_
   .simp only[ybu,ycu,ydl,usV,yu,ycn,yfn,to1,okN,ycl,yfj,yek,ydx,wk,go_sem,zA,zB,zC,zF];exact⟨⟨fun _ _ _ _ e=>e,fun i F=>by rw[if_pos F],fun i b D=>ydu (w:=fun j=>c.getD j []) D⟩,fun j _=>y k j⟩
   rintro r o' ⟨rfl,rfl⟩;simp only[ybu,ybl,yoy,ymm,nuF,nu,difN,yek,ydx,Fam.ren,OB.ren,dim,yih,ybbe,yrh,yjw,go_sem,zA,zB,zF];simp only[yctc,ycud,yddh,ycui,ydl,l,d2,splice,clash,zQ,go_sem,zA,zB,zD,zF]
   repeat refine ybd ?_
   refine yeu m [(302,72),(303,73)] 400 [57,56,10,12,14,11,6] [46,48,11,6] ?_ ?_
   .simp only[ybu,ycu,usV,yu,ycn,yfn,to1,okN,ycl,yfj,yek,ydx,wk,go_sem,zA,zB,zC,zF];refine⟨⟨fun _ _ _ _ e=>e,fun i F=>by rw[if_pos F],fun i b D=>yjv (h':=nu [(302,72),(303,73)] 400) (w:=fun j=>c.getD j []) D⟩,?_⟩
    exact⟨fun j _=>by split<;>rfl,fun j _=>by
     split
     .rfl
     .show(cln _ 5 (a k j)&&true)=true;rw[y];rfl⟩
   rintro r o' ⟨rfl,rfl⟩;simp only[ybu,usV,yu,ycn,yfn,yoy,ymm,nuF,nu,difN,yek,ydx,Fam.ren,OB.ren,dim,yrh,yjw,go_sem,zA,zF];simp only[ydek,clash,go_sem,zA,zB]
   repeat refine ybd ?_
   refine yj (k+1) f (by omega) ?_
   refine yw ?_;simp only[ycu,wk,go_sem,zA,zC];rw[L,R];refine⟨fun _ _ _ _ e=>e,⟨by omega,by omega⟩,fun i F=>⟨Sim.refl _,by rw[if_pos F]⟩,fun i b D=>yjv (h':=nu [(302,72),(303,73)] 400) (w:=fun j=>c'.getD j []) D,?_⟩
   refine⟨fun i F=>yfw ?_,fun i F=>?_⟩
   .show _=[SV.i .u32 ((if i<k+1 then S.en i else 0:Nat):Int)]
    by_cases q:i=k
    .rw[if_pos q,if_pos (by omega),q]
    .rw[if_neg q]
     by_cases U:i<k
     .rw[if_pos (by omega),show e k i=S.en i from if_pos U]
     .rw[if_neg (by omega),show e k i=0 from if_neg U]
   .by_cases q:i=k
    .rw[if_pos q,show a (k+1) i=ybl (S.arcs k)from(if_pos (by omega)).trans (by rw[q])]
     exact ycba _
    .rw[if_neg q]
     by_cases U:i<k
     .rw[show a (k+1) i=ybl (S.arcs i)from if_pos (by omega),show a k i=ybl (S.arcs i)from if_pos U]
      exact ycba _
     .rw[show a (k+1) i = .a (.slice none 0 0)from if_neg (by omega),show a k i = .a (.slice none 0 0)from if_neg U]
      exact yjf rfl
  .obtain rfl:k=ybm T:=by omega
   simp only[ycec,ycrk,B,V,ybu,zI,splice,clash,go_sem,zA,zB];have e1:∀q,q<ybm T->a (ybm T) q=ybl (S.arcs q):=fun q x=>if_pos x;have e2:∀q,q<ybm T->e (ybm T) q=S.en q:=fun q x=>if_pos x;refine⟨fun q x=>by rw[e1 q x];trivial,ybbp ⟨?_,Sim.refl _,trivial⟩⟩
   unfold spcC;rw[C];refine ybqo ⟨yec fun q x=>?_,yec fun q x=>?_,trivial⟩
   .rw[e2 q x];exact⟨⟨Sim.refl _,trivial⟩,rfl⟩
   .rw[e1 q x];exact⟨⟨Sim.refl _,trivial⟩,rfl⟩
end
end Sh
end
section
namespace Sh
open Ev Go.RowKit
def boxS(N:Nat)(lg:Nat->Bool)(x:(Nat->Bool)×List (Nat×Nat)):Own :=
 [(3,.one (some ⟨45,true,1,1,fun _=>[ybb N lg]⟩)),(6,.one (some ⟨166,true,1,1,fun _=>[.mr (18,0)]⟩)),(18,.one (some ⟨CU,true,0,0,fun c=>[.b (x.1 c)]⟩)),
  (7,.one (some ⟨167,true,1,1,fun _=>[.os (72,0) 0 x.2.length true]⟩)),(72,ygl x.2)]
def addF:SV:=.fn 137 [] [.pt (3,0) 0 0,.pt (6,0) 0 0,.pt (7,0) 0 0]
theorem ybqr{F j:Nat}{f:Nat->List Nat}{p:Nm->Bool}(h:p (F,j)=true):cln p 5 (rowC F f j)=true:=by
 unfold rowC;split
 .rfl
 .exact h
theorem ybrs{e:Nat}{k:IntKind}{l:List Nat}{b:OB}{p:Nm->Bool}(a:rowB e k l=some b):∀i,i<b.n->(b.g i).all (cln p 5)=true:=by
 unfold rowB at a;split at a
 .cases a
 .cases a;exact fun _ _=>rfl
set_option maxHeartbeats 4000000 in
theorem ycmy{S : Spc}(h:S.ok)(lg:Nat->Bool){n:Nat}(hn:n<=24)(M:∀k,k<S.N->S.en k<2^n)(hM:S.N*2^n<=262144) :
 Ct zH 75 [.ag (spcC S),ybb S.N lg] fun r=>∃R:Nat->List Nat,Sim r (.tp [.sl 1 S.N fun k=>[usV (R k)],.i .i64 0])/\(∀k,∀x∈R k,x<2^n/\lg k=false)/\∀k,(R k).length<=262144:=by
 refine ydll [137] _ _ ?_;have P:=h.le;have a0:2^n<=2^24:=zJ (by omega) hn
 simp only[c75,ydpg,ydry,ydqy,ydue,yedf,spcC,ybl,ybb,splice,clash,go_sem,zA,zB,zD,zC,↓reduceIte,reduceCtorEq]
 refine ybf (σ:=Nat×(Nat->Bool)×List (Nat×Nat)) (fun y=>⟨[(23,.i .i64 y.1),(22,.i .i64 (S.N:Nat)),(21,.sl 1 S.N fun k=>[.i .u32 (S.en k:Nat)]),(8,addF),(2,.pt (2,0) 0 0),(3,.pt (3,0) 0 0),(7,.pt (7,0) 0 0)],(2,spcO S)::boxS S.N lg y.2⟩)
  (fun y=>y.1<=S.N/\QI S.N n lg y.2) (fun y=>S.N-y.1) (0,fun _=>false,[]) ⟨zG _,QI.start _ _ _⟩ ?_ ?_
 .refine yca [] [72] [] ?_;simp only[boxS,addF,spcO,spcC,ybl,ybb,ygl,yoj,wk,go_sem,zA,zC,zF,↓reduceIte,reduceCtorEq];exact fun i _=>⟨(72,0),rfl,rfl,rfl⟩
 .rintro⟨k,x⟩ ⟨hk,w⟩;simp only at hk w ⊢;have Q:=w.len
  by_cases c:k<S.N
  .have d1:=dec_lt c;have K:=ybce (lg:=lg) (x:=x) (by omega) c P (s:=S.en k) (by have:=h.lt k c;omega)
   have B:=w.step c (M k c);simp only[yfp,ygl,ybb]at K;simp only[ydnc,ydqw,ydpj,ydzg,boxS,addF,spcO,spcC,ybl,ybb,ygl,d1,clash,go_sem,zA,zB,zD,↓reduceIte,reduceCtorEq]
   repeat refine ybd ?_
   refine yeu K [(301,3),(302,6),(303,18),(304,7),(305,72)] 400 [23,22,21,8,2,3,7] [2] ?_ ?_
   .simp only[to1,okN,ycl,yfj,yek,ydx,wk,go_sem,zA,zB,zC,zF,↓reduceIte,reduceCtorEq]
   rintro r Z ⟨rfl,rfl⟩
   generalize yzd lg x k (S.en k)=x' at B
   simp only[yoy,ymm,nuF,nu,difN,yek,ydx,Fam.ren,OB.ren,dim,yih,ybyn,ybbe,yrh,yjw,ybpg,go_sem,zA,zB,zF,↓reduceIte,reduceCtorEq]
   repeat refine ybd ?_
   refine yj (k+1,x') ⟨c,B⟩ (by show _-(k+1)<_-k;omega) ?_
   refine yw ?_;simp only[wk,go_sem,zA,zC,↓reduceIte,reduceCtorEq];omega
  .obtain rfl:k=S.N:=by omega
   simp only[ydnc,ydzr,ydfq,boxS,spcO,spcC,ybl,ybb,ygl,zI,clash,go_sem,zA,zB,zC,↓reduceIte,reduceCtorEq]
   repeat refine ybd ?_
   let m:Nat->(Nat->Bool)×List (Nat×Nat)->(Nat->List Nat)->Own:=fun _ x R=>(2,spcO S)::(36,.one (some ⟨38,false,1,S.N,fun j=>[rowC 73 R j]⟩))::(73,yim 77 .u32 R)::boxS S.N lg x
   refine ybf (σ:=Nat×((Nat->Bool)×List (Nat×Nat))×(Nat->List Nat)) (fun y=>⟨[(12,.i .i64 y.1),(11,.os (36,0) 0 S.N true),(8,addF),(2,.pt (2,0) 0 0),(7,.pt (7,0) 0 0)],m 0 y.2.1 y.2.2⟩)
    (fun y=>QI S.N n lg y.2.1/\y.1<=y.2.1.2.length/\(∀k,∀z∈y.2.2 k,z<2^n/\lg k=false)/\∀k,(y.2.2 k).length<=y.1) (fun y=>262145-y.1) (0,x,fun _=>[]) ⟨w,zG _,fun _ _ h=>(nomatch h),fun _=>zG _⟩ ?_ ?_
   .refine yw ?_;simp only[m,boxS,addF,spcO,spcC,ybl,ybb,ygl,rowC,yim,rowB,wk,go_sem,zA,zC,↓reduceIte,reduceCtorEq]
   .rintro⟨i,x,R⟩ ⟨w,X,E,D⟩;simp only at w X E D ⊢;have Q:=w.len
    by_cases c:i<x.2.length
    .have d1 := dec_lt c;have d2:decide ((x.2.length:Int)>262144)=false:=by simp;omega
     obtain⟨⟨k,s⟩,O⟩:∃p,x.2.getD i (0,0)=p:=⟨_,rfl⟩
     obtain⟨hkN,V,U⟩:k<S.N/\s<2^n/\lg k=false:=by
      have:=w.lt (x.2.getD i (0,0)) (by rw[yjj c];exact zO _)
      rw[O]at this;exact this
     have a2:=h.len hkN;obtain⟨C,T⟩:∃C,(fun q=>if q=k then R k++[s]else R q)=C:=⟨_,rfl⟩
     have v:C k=R k++[s]:=by rw[<-T];simp
     have o:∀j,¬j=k->C j=R j:=fun j e=>by rw[<-T];simp[e]
     have a1:=D k
     by_cases q:(R k).length=0
     .simp only[ybov,ycft,ycjb,ycbd,yccb,m,boxS,spcO,spcC,ybl,ybb,ygl,rowC,yim,rowB,q,d1,d2,O,splice,clash,go_sem,zA,zB,zD,zC,zZ,↓reduceIte,reduceCtorEq]
      repeat refine ybd ?_
      refine ybf (σ:=Nat×((Nat->Bool)×List (Nat×Nat))) (fun y=>⟨[(70,.i .i64 y.1),(69,.i .i64 ((S.arcs k).length:Nat)),(68,ybl (S.arcs k)),(12,.i .i64 i),(11,.os (36,0) 0 S.N true),(8,addF),(2,.pt (2,0) 0 0),(7,.pt (7,0) 0 0),(13,.pt (13,0) 0 0)],(13,.one (some ⟨109,true,2,1,fun _=>[.i .i64 (k:Nat),.i .u32 (s:Nat)]⟩))::m 0 y.2 C⟩)
       (fun y=>y.1<=(S.arcs k).length/\QI S.N n lg y.2/\i<y.2.2.length) (fun y=>(S.arcs k).length-y.1) (0,x) ⟨zG _,w,c⟩ ?_ ?_
      .refine yca [(73,fun j=>if j=k then(61,0)else(73,j))] [] [] ?_
       simp only[m,boxS,addF,spcO,spcC,ybl,ybb,ygl,yim,wk,go_sem,zA,zC,↓reduceIte,reduceCtorEq];refine⟨?_,fun i X=>?_,fun i b d=>?_⟩
       .repeat' apply zAL
        all_goals first|exact fun i _=>ybew (by decide) (by decide)|exact fun i _=>yts (by decide) (by decide)|exact fun i _ j _=>ybaz (by decide)
       .refine yqk (F:=73) (e:=77) (k:=.u32) (f:=C) [(73,fun j=>if j=k then(61,0)else(73,j))] ?_ rfl
        by_cases e:i=k
        .subst e;have W:(C i).length=1:=by rw[v,zW,q];rfl
         simp only[W,go_sem,↓reduceIte,reduceCtorEq]
        .simp only[o i e,e,go_sem,↓reduceIte]
       .by_cases e:i=k
        .subst e;rw[v]at d;simp only[go_sem,zA,↓reduceIte];exact yee (e:=77) (k:=.u32) rfl d (ybqj q rfl)
        .rw[o i e]at d;simp only[e,go_sem,zA,↓reduceIte];exact⟨_,d,yee (e:=77) (k:=.u32) rfl d (yff (e:=77) (k:=.u32) d)⟩
      .rintro⟨j,x⟩ ⟨Y,w,c⟩;simp only at Y w c ⊢;have Q:=w.len
       by_cases g:j<(S.arcs k).length
       .have d3:=dec_lt g;have l:=h.to k hkN j g;have A:=(h.sub k hkN j g).1;obtain⟨⟨a,t⟩,I⟩:∃p,(S.arcs k).getD j (0,0)=p:=⟨_,rfl⟩;rw[I]at l A;simp only at l A;have H:=yww h (k:=k) (p:=s) (s:=a) (t:=t) (by omega) (by omega) l
        have L:ygh S s a t<2^n:=by
         unfold ygh ypb;split
         .exact M t l
         .exact yceh (ywr V)
        have K:=ybce (lg:=lg) (x:=x) (by omega) l P (s:=ygh S s a t) (by omega)
        have B:=w.step (lg:=lg) l L;have J:=ybow (lg:=lg) (x:=x) (k:=t) (s:=ygh S s a t);simp only[yfp,ygl,ybb]at K;simp only[spcC,ybl]at H;simp only[ybgc,ycas,ycic,ycdt,ycie,m,boxS,addF,spcO,spcC,ybl,ybb,ygl,d3,I,splice,clash,go_sem,zA,zB,zC,zF,↓reduceIte,reduceCtorEq]
        repeat refine ybd ?_
        refine H.use ?_;simp only[ybk,splice,clash,go_sem,zA,zB,zC,↓reduceIte,reduceCtorEq]
        repeat refine ybd ?_
        refine yeu K [(301,3),(302,6),(303,18),(304,7),(305,72)] 400 [70,69,68,12,11,8,2,7,13] [2,36,73,13] ?_ ?_
        .simp only[yim,to1,okN,ycl,yfj,yek,ydx,wk,go_sem,zA,zB,zC,zF,↓reduceIte,reduceCtorEq];exact⟨fun q _=>ybqr rfl,fun q b d=>ybrs d⟩
        rintro r Z ⟨rfl,rfl⟩
        generalize yzd lg x t (ygh S s a t)=x' at B J
        simp only[yim,yoy,ymm,nuF,nu,difN,yek,ydx,Fam.ren,OB.ren,dim,yih,ybyn,ybbe,yrh,yjw,ybpg,go_sem,zA,zB,zF,↓reduceIte,reduceCtorEq]
        repeat refine ybd ?_
        refine yj (j+1,x') ⟨g,B,by show i<x'.2.length;omega⟩ (by show _-(j+1)<_-j;omega) ?_
        refine yw ?_;simp only[wk,go_sem,zA,zC,↓reduceIte,reduceCtorEq];exact⟨fun _ _ _ _ e=>e,by omega,fun i _=>yla (e:=77) (k:=.u32) [] rfl rfl,fun i b d=>⟨b,d,yee (e:=77) (k:=.u32) rfl d (yff (e:=77) (k:=.u32) d)⟩⟩
       .obtain rfl:j=(S.arcs k).length:=by omega
        simp only[ybgc,ybxs,m,boxS,addF,spcO,spcC,ybl,ybb,ygl,zI,clash,go_sem,zA,zB,↓reduceIte,reduceCtorEq]
        repeat refine ybd ?_
        refine yj (i+1,x,C) ⟨w,c,fun u z G=>?_,fun u=>?_⟩ (by show 262145-(i+1)<262145-i;omega) ?_
        .have G:z∈C u:=G
         by_cases e:u=k
         .subst e;rw[v]at G;rcases List.mem_append.1 G with r|r
          .exact E u z r
          .rw[List.mem_singleton.1 r];exact⟨V,U⟩
         .rw[o u e]at G;exact E u z G
        .show(C u).length<=i+1
         by_cases e:u=k
         .subst e;rw[v,zW];have:=D u;show _+1<=_;omega
         .rw[o u e];have:=D u;omega
        refine yw ?_;simp only[yim,wk,go_sem,zA,zC,↓reduceIte,reduceCtorEq];exact⟨fun _ _ _ _ e=>e,by omega,fun i _=>yla (e:=77) (k:=.u32) [] rfl rfl,fun i b d=>⟨b,d,yee (e:=77) (k:=.u32) rfl d (yff (e:=77) (k:=.u32) d)⟩⟩
     .have q0 : 0<(R k).length:=by omega
      simp only[ybov,ycft,ycjb,ycbd,yccb,m,boxS,spcO,spcC,ybl,ybb,ygl,rowC,yim,rowB,q,d1,d2,O,splice,clash,go_sem,zA,zB,zD,zC,↓reduceIte,reduceCtorEq]
      repeat refine ybd ?_
      refine ybf (σ:=Nat×((Nat->Bool)×List (Nat×Nat))) (fun y=>⟨[(70,.i .i64 y.1),(69,.i .i64 ((S.arcs k).length:Nat)),(68,ybl (S.arcs k)),(12,.i .i64 i),(11,.os (36,0) 0 S.N true),(8,addF),(2,.pt (2,0) 0 0),(7,.pt (7,0) 0 0),(13,.pt (13,0) 0 0)],(13,.one (some ⟨109,true,2,1,fun _=>[.i .i64 (k:Nat),.i .u32 (s:Nat)]⟩))::m 0 y.2 C⟩)
       (fun y=>y.1<=(S.arcs k).length/\QI S.N n lg y.2/\i<y.2.2.length) (fun y=>(S.arcs k).length-y.1) (0,x) ⟨zG _,w,c⟩ ?_ ?_
      .refine yca [(73,fun j=>if j=k then(61,0)else(73,j))] [] [] ?_
       simp only[m,boxS,addF,spcO,spcC,ybl,ybb,ygl,yim,wk,go_sem,zA,zC,↓reduceIte,reduceCtorEq];refine⟨?_,fun i X=>?_,fun i b d=>?_⟩
       .repeat' apply zAL
        all_goals first|exact fun i _=>ybew (by decide) (by decide)|exact fun i _=>yts (by decide) (by decide)|exact fun i _ j _=>ybaz (by decide)
       .refine yqk (F:=73) (e:=77) (k:=.u32) (f:=C) [(73,fun j=>if j=k then(61,0)else(73,j))] ?_ rfl
        by_cases e:i=k
        .subst e;have W:(C i).length=(R i).length+1:=by rw[v,zW];rfl
         have e2:¬(R i).length+1=0:=by omega
         simp only[W,e2,go_sem,↓reduceIte]
        .simp only[o i e,e,go_sem,↓reduceIte]
       .by_cases e:i=k
        .subst e;rw[v]at d;simp only[go_sem,zA,↓reduceIte];exact yee (e:=77) (k:=.u32) rfl d (ybgt (g':=fun i=>zCB 1 (zCC (i*1) [.i .u32 (s:Int)])) rfl (fun _ _=>rfl) rfl)
        .rw[o i e]at d;simp only[e,go_sem,zA,↓reduceIte];exact⟨_,d,yee (e:=77) (k:=.u32) rfl d (yff (e:=77) (k:=.u32) d)⟩
      .rintro⟨j,x⟩ ⟨Y,w,c⟩;simp only at Y w c ⊢;have Q:=w.len
       by_cases g:j<(S.arcs k).length
       .have d3:=dec_lt g;have l:=h.to k hkN j g;have A:=(h.sub k hkN j g).1;obtain⟨⟨a,t⟩,I⟩:∃p,(S.arcs k).getD j (0,0)=p:=⟨_,rfl⟩;rw[I]at l A;simp only at l A;have H:=yww h (k:=k) (p:=s) (s:=a) (t:=t) (by omega) (by omega) l
        have L:ygh S s a t<2^n:=by
         unfold ygh ypb;split
         .exact M t l
         .exact yceh (ywr V)
        have K:=ybce (lg:=lg) (x:=x) (by omega) l P (s:=ygh S s a t) (by omega)
        have B:=w.step (lg:=lg) l L;have J:=ybow (lg:=lg) (x:=x) (k:=t) (s:=ygh S s a t);simp only[yfp,ygl,ybb]at K;simp only[spcC,ybl]at H;simp only[ybgc,ycas,ycic,ycdt,ycie,m,boxS,addF,spcO,spcC,ybl,ybb,ygl,d3,I,splice,clash,go_sem,zA,zB,zC,zF,↓reduceIte,reduceCtorEq]
        repeat refine ybd ?_
        refine H.use ?_;simp only[ybk,splice,clash,go_sem,zA,zB,zC,↓reduceIte,reduceCtorEq]
        repeat refine ybd ?_
        refine yeu K [(301,3),(302,6),(303,18),(304,7),(305,72)] 400 [70,69,68,12,11,8,2,7,13] [2,36,73,13] ?_ ?_
        .simp only[yim,to1,okN,ycl,yfj,yek,ydx,wk,go_sem,zA,zB,zC,zF,↓reduceIte,reduceCtorEq];exact⟨fun q _=>ybqr rfl,fun q b d=>ybrs d⟩
        rintro r Z ⟨rfl,rfl⟩
        generalize yzd lg x t (ygh S s a t)=x' at B J
        simp only[yim,yoy,ymm,nuF,nu,difN,yek,ydx,Fam.ren,OB.ren,dim,yih,ybyn,ybbe,yrh,yjw,ybpg,go_sem,zA,zB,zF,↓reduceIte,reduceCtorEq]
        repeat refine ybd ?_
        refine yj (j+1,x') ⟨g,B,by show i<x'.2.length;omega⟩ (by show _-(j+1)<_-j;omega) ?_
        refine yw ?_;simp only[wk,go_sem,zA,zC,↓reduceIte,reduceCtorEq];exact⟨fun _ _ _ _ e=>e,by omega,fun i _=>yla (e:=77) (k:=.u32) [] rfl rfl,fun i b d=>⟨b,d,yee (e:=77) (k:=.u32) rfl d (yff (e:=77) (k:=.u32) d)⟩⟩
       .obtain rfl:j=(S.arcs k).length:=by omega
        simp only[ybgc,ybxs,m,boxS,addF,spcO,spcC,ybl,ybb,ygl,zI,clash,go_sem,zA,zB,↓reduceIte,reduceCtorEq]
        repeat refine ybd ?_
        refine yj (i+1,x,C) ⟨w,c,fun u z G=>?_,fun u=>?_⟩ (by show 262145-(i+1)<262145-i;omega) ?_
        .have G:z∈C u:=G
         by_cases e:u=k
         .subst e;rw[v]at G;rcases List.mem_append.1 G with r|r
          .exact E u z r
          .rw[List.mem_singleton.1 r];exact⟨V,U⟩
         .rw[o u e]at G;exact E u z G
        .show(C u).length<=i+1
         by_cases e:u=k
         .subst e;rw[v,zW];have:=D u;show _+1<=_;omega
         .rw[o u e];have:=D u;omega
        refine yw ?_;simp only[yim,wk,go_sem,zA,zC,↓reduceIte,reduceCtorEq];exact⟨fun _ _ _ _ e=>e,by omega,fun i _=>yla (e:=77) (k:=.u32) [] rfl rfl,fun i b d=>⟨b,d,yee (e:=77) (k:=.u32) rfl d (yff (e:=77) (k:=.u32) d)⟩⟩
    .obtain rfl:i=x.2.length:=by omega
     simp only[ybov,ycwo,m,boxS,addF,spcO,spcC,ybl,ybb,ygl,zI,clash,go_sem,zA,zB,↓reduceIte,reduceCtorEq];refine⟨fun q hq=>?_,R,ybbp ⟨yec fun q hq=>?_,Sim.refl _,trivial⟩,E,fun q=>by have:=D q;omega⟩
     .unfold rowC
      by_cases e:(R q).length=0
      .simp only[e,go_sem,↓reduceIte]
      .simp only[e,yim,rowB,go_sem,zA,↓reduceIte]
     .unfold rowC
      by_cases e:(R q).length=0
      .simp only[e,SimL,usV,go_sem,↓reduceIte];exact yblp
      .simp only[e,yim,rowB,SimL,usV,go_sem,zA,↓reduceIte];exact Sim.refl _
end Sh
end
section
namespace Sh
open Ev Go.RowKit
structure RdB(S:Spc)(lg:Nat->Bool)(n:Nat)(B:Nat->Nat->Nat->Prop):Prop where
 one:∀k,k<S.N->lg k=false->∀s,s<2^n->B k s 1
 done:∀k,k<S.N->lg k=false->∀s,s<2^n->∀i,i<(S.arcs k).length->lg ((S.arcs k).getD i (0,0)).2=false->ypb S s ((S.arcs k).getD i (0,0)).1 ((S.arcs k).getD i (0,0)).2=0->∀x,B ((S.arcs k).getD i (0,0)).2 (S.en ((S.arcs k).getD i (0,0)).2) x->B k s (1+x)
 more:∀k,k<S.N->lg k=false->∀s,s<2^n->∀i,i<(S.arcs k).length->lg ((S.arcs k).getD i (0,0)).2=false->ypb S s ((S.arcs k).getD i (0,0)).1 ((S.arcs k).getD i (0,0)).2≠0->∀x,B ((S.arcs k).getD i (0,0)).2 (ypb S s ((S.arcs k).getD i (0,0)).1 ((S.arcs k).getD i (0,0)).2) x->B k s x
 le:∀k s x,B k s x->x<=1000000
theorem yccp{a b c d:Nat}(f:b<2^32)(g:d<2^32)(e:mkey (a:Int) (b:Int)=mkey (c:Int) (d:Int)):a=c/\b=d:=by
 unfold mkey at e;simp only[zAJ]at e;omega
set_option maxHeartbeats 4000000 in
theorem ychi {S:Spc}(h:S.ok){lg:Nat->Bool}(hf:S.free lg){n:Nat}(hn:n<=24)(O:∀k,k<S.N->S.en k<2^n)(hM:S.N*2^n<=262144){B:Nat->Nat->Nat->Prop}(T:RdB S lg n B) :
 Ct zH 19 [.ag (spcC S),ybb S.N lg] fun r=>∃f:Nat->Nat,Sim r (.tp [.sl 1 S.N fun k=>[.i .i64 (f k:Nat)],.i .i64 0])/\∀k,k<S.N->f k=0\/(lg k=false/\B k (S.en k) (f k)):=by
 refine ydtu _ _ ?_;have b1:=h.le;have a8:2^n<=2^24:=zJ (by omega) hn
 have hO:=ybff h hf;have X:=ycmy h lg hn O hM;simp only[spcC,ybl,ybb]at hO X;simp only[c19,yedg,ydve,spcC,ybl,ybb,clash,go_sem,zA,zB,zC,↓reduceIte,reduceCtorEq];refine hO.fnd (V:=fun L=>.tp [ycm L,.i .i64 0]) (fun r L h=>h.1) fun r L hL=>?_;obtain⟨-,x,a7,a6⟩:=hL;simp only[ybk,yeas,ydqo,clash,ycm,zQ,go_sem,zA,zB,↓reduceIte,reduceCtorEq];refine X.fnd (V:=fun R=>.tp [.sl 1 S.N fun k=>[usV (R k)],.i .i64 0]) (fun r L h=>h.1) fun r R X=>?_
 obtain⟨-,a0,a1⟩:=X;simp only[ydqj,ydxl,ydsq,clash,usV,zQ,go_sem,zA,zB,zC,↓reduceIte,reduceCtorEq]
 let VI:(Nat->Nat)->Prop:=fun V=>∀(k:Nat),k<S.N->∀(s:Nat),s<2^n->V (mkey (k:Int) (s:Int))=0\/(lg k=false/\B k s (V (mkey (k:Int) (s:Int))))
 let d:(Nat->Nat)->Nat×Fam:=fun V=>(41,.one (some ⟨CU,true,1,0,fun c=>[.i .i64 (V c:Nat)]⟩))
 refine ybf (σ:=Nat×(Nat->Nat)) (fun y=>⟨[(44,.i .i64 y.1),(43,.i .i64 (L.length:Nat)),(42,ycm L),(1,ybb S.N lg),(2,.pt (2,0) 0 0),(8,.sl 1 S.N fun k=>[usV (R k)]),(9,.mr (41,0))],[(2,spcO S),d y.2]⟩) (fun y=>y.1<=L.length/\VI y.2) (fun y=>L.length-y.1) (0,fun _=>0) ⟨zG _,fun _ _ _ _=>.inl rfl⟩ ?_ ?_
 .refine yw ?_;simp only[d,ycm,usV,spcO,spcC,ybl,ybb,yoj,wk,go_sem,zA,zC,↓reduceIte,reduceCtorEq]
 .rintro⟨i,V⟩ ⟨Y,K⟩;simp only at Y K ⊢
  by_cases E:i<L.length
  .have d1 := dec_lt E;obtain⟨k,hk⟩:∃k,L.getD i 0=k:=⟨_,rfl⟩;have hkN:k<S.N:=by rw[<-hk,getD_at E];exact x _ (zO _)
   have b0:=h.len hkN;have a9:=a1 k;simp only[ydfy,ycxx,ycym,d,ycm,usV,spcO,spcC,ybl,ybb,d1,hk,clash,go_sem,zA,zB,↓reduceIte,reduceCtorEq]
   repeat refine ybd ?_
   refine ybf (σ:=Nat×(Nat->Nat)) (fun y=>⟨[(53,.i .i64 y.1),(52,.i .i64 ((R k).length:Nat)),(51,usV (R k)),(11,.i .i64 k),(44,.i .i64 i),(43,.i .i64 (L.length:Nat)),(42,ycm L),(1,ybb S.N lg),(2,.pt (2,0) 0 0),(8,.sl 1 S.N fun k=>[usV (R k)]),(9,.mr (41,0))],[(2,spcO S),d y.2]⟩) (fun y=>y.1<=(R k).length/\VI y.2) (fun y=>(R k).length-y.1) (0,V) ⟨zG _,K⟩ ?_ ?_
   .refine yw ?_;simp only[d,ycm,usV,spcO,spcC,ybl,ybb,wk,go_sem,zA,zC,↓reduceIte,reduceCtorEq]
   .rintro⟨u,V⟩ ⟨hu,K⟩;simp only at hu K ⊢
    by_cases F:u<(R k).length
    .have d2 := dec_lt F;obtain⟨s,hs⟩:∃s,(R k).getD u 0=s:=⟨_,rfl⟩;obtain⟨G,D⟩:=a0 k s (by rw[<-hs,getD_at F];exact zO _)
     simp only[ychx,yczh,ycti,ycxv,yczm,d,ycm,usV,spcO,spcC,ybl,ybb,d2,hs,splice,clash,go_sem,zA,zB,zD,zC,↓reduceIte,reduceCtorEq]
     repeat refine ybd ?_
     refine ybf (σ:=Nat×Nat) (fun z=>⟨[(66,.i .i64 z.1),(65,.i .i64 ((S.arcs k).length:Nat)),(64,ybl (S.arcs k)),(15,.i .i64 z.2),(14,.pt (14,0) 0 0),(53,.i .i64 u),(52,.i .i64 ((R k).length:Nat)),(51,usV (R k)),(11,.i .i64 k),(44,.i .i64 i),(43,.i .i64 (L.length:Nat)),(42,ycm L),(1,ybb S.N lg),(2,.pt (2,0) 0 0),(8,.sl 1 S.N fun k=>[usV (R k)]),(9,.mr (41,0))],
      [(14,.one (some ⟨109,true,2,1,fun _=>[.i .i64 (k:Nat),.i .u32 (s:Nat)]⟩)),(2,spcO S),d V]⟩) (fun z=>z.1<=(S.arcs k).length/\B k s z.2) (fun z=>(S.arcs k).length-z.1) (0,1) ⟨zG _,T.one k hkN D s G⟩ ?_ ?_
     .refine yw ?_;simp only[d,ycm,usV,spcO,spcC,ybl,ybb,wk,go_sem,zA,zC,↓reduceIte,reduceCtorEq];rfl
     .rintro⟨j,m⟩ ⟨hj,Q⟩;simp only at hj Q ⊢;have b2:=T.le _ _ _ Q
      by_cases b:j<(S.arcs k).length
      .have d3 := dec_lt b;have H:=h.to k hkN j b;have M:=(h.sub k hkN j b).1;have l:=T.done k hkN D s G j b;have o:=T.more k hkN D s G j b;obtain⟨⟨a,t⟩,J⟩:∃p,(S.arcs k).getD j (0,0)=p:=⟨_,rfl⟩;rw[J]at H M l o;simp only at H M l o;cases g:lg t with
       | true =>
         simp only[ybij,ybsm,ybpo,ybqq,d,ycm,usV,spcO,spcC,ybl,ybb,d3,J,g,splice,clash,go_sem,zA,zB,zC,↓reduceIte,reduceCtorEq]
         repeat refine ybd ?_
         refine yj (j+1,m) ⟨b,Q⟩ (by show _-(j+1)<_-j;omega) ?_
         refine yw ?_;simp only[wk,go_sem,zA,zC,↓reduceIte,reduceCtorEq];omega
       | false =>
         have C:=yww h (k:=k) (p:=s) (s:=a) (t:=t) (by omega) (by omega) H
         have a3:ygh S s a t<2^n:=by
          unfold ygh ypb;split
          .exact O t H
          .exact yceh (ywr G)
         have I:=K t H (ygh S s a t) a3;obtain⟨v,hv⟩:∃v,V (mkey (t:Int) (ygh S s a t:Int))=v:=⟨_,rfl⟩;rw[hv]at I
         have b3:v<=1000000:=by
          rcases I with r|⟨_,r⟩
          .omega
          .exact T.le _ _ _ r
         simp only[spcC,ybl]at C
         by_cases A:ypb S s a t=0
         .have e1:B k s (max m (1+v)):=by
           rcases zCH m (1+v)with r|r
           .rw[zBS r];rcases I with q|⟨_,q⟩
            .rw[q];exact T.one k hkN D s G
            .refine l g A v ?_;have:ygh S s a t=S.en t:=if_pos A;rw[this]at q;exact q
           .rw[zCA r];exact Q
          rw[decide_eq_true A]at C;simp only[ybij,ybsm,ybpo,yccz,d,ycm,usV,spcO,spcC,ybl,ybb,d3,J,g,splice,clash,go_sem,zA,zB,zC,↓reduceIte,reduceCtorEq]
          repeat refine ybd ?_
          refine C.use ?_;simp only[ybk,ybzm,yctu,ybqq,splice,clash,zAN,hv,go_sem,zA,zB,zC,↓reduceIte,reduceCtorEq]
          repeat refine ybd ?_
          refine yj (j+1,max m (1+v)) ⟨b,e1⟩ (by show _-(j+1)<_-j;omega) ?_
          refine yw ?_;simp only[wk,go_sem,zA,zC,↓reduceIte,reduceCtorEq];omega
         .have e1:B k s (max m v):=by
           rcases zCH m v with r|r
           .rw[zBS r];rcases I with q|⟨_,q⟩
            .have:m=v:=by omega
             rw[<-this];exact Q
            .refine o g A v ?_;have:ygh S s a t=ypb S s a t:=if_neg A;rw[this]at q;exact q
           .rw[zCA r];exact Q
          rw[decide_eq_false A]at C;simp only[ybij,ybsm,ybpo,yccz,d,ycm,usV,spcO,spcC,ybl,ybb,d3,J,g,splice,clash,go_sem,zA,zB,zC,↓reduceIte,reduceCtorEq]
          repeat refine ybd ?_
          refine C.use ?_;simp only[ybk,ybzm,ydah,ybqq,splice,clash,zAN,hv,go_sem,zA,zB,zC,↓reduceIte,reduceCtorEq]
          repeat refine ybd ?_
          refine yj (j+1,max m v) ⟨b,e1⟩ (by show _-(j+1)<_-j;omega) ?_
          refine yw ?_;simp only[wk,go_sem,zA,zC,↓reduceIte,reduceCtorEq];omega
      .obtain rfl:j=(S.arcs k).length:=by omega
       obtain⟨W,U⟩:∃W:Nat->Nat,(fun c=>if c=mkey (k:Int) (s:Int)then m else V c)=W:=⟨_,rfl⟩
       have a2:VI W:=fun k' a4 s' a5=>by
        rw[<-U];show(if _ then m else V _)=0\/(lg k'=false/\B k' s' (if _ then m else V _))
        by_cases e:mkey (k':Int) (s':Int)=mkey (k:Int) (s:Int)
        .obtain⟨rfl,rfl⟩:=yccp (by omega) (by omega) e
         rw[if_pos rfl];exact .inr ⟨D,Q⟩
        .rw[if_neg e];exact K k' a4 s' a5
       simp only[ybij,ycxl,ycwq,d,ycm,usV,spcO,spcC,ybl,ybb,zI,clash,yedo,go_sem,zA,zB,↓reduceIte,reduceCtorEq]
       repeat refine ybd ?_
       refine yj (u+1,W) ⟨F,a2⟩ (by show _-(u+1)<_-u;omega) ?_
       refine yw ?_;simp only[wk,go_sem,zA,zC,↓reduceIte,reduceCtorEq];refine⟨by omega,fun i=>?_,fun i Y=>absurd Y (by omega)⟩
       rw[<-U]
       by_cases e:i=mkey (k:Int) (s:Int)
       .simp only[if_pos e]
       .simp only[if_neg e]
    .obtain rfl:u=(R k).length:=by omega
     simp only[ychx,ycrj,d,ycm,usV,spcO,spcC,ybl,ybb,zI,clash,go_sem,zA,zB,↓reduceIte,reduceCtorEq]
     repeat refine ybd ?_
     refine yj (i+1,V) ⟨E,K⟩ (by show _-(i+1)<_-i;omega) ?_
     refine yw ?_;simp only[wk,go_sem,zA,zC,↓reduceIte,reduceCtorEq];omega
  .obtain rfl:i=L.length:=by omega
   simp only[ydfy,ycuf,ydfd,d,ycm,usV,spcO,spcC,ybl,ybb,zI,clash,go_sem,zA,zB,zD,zC,↓reduceIte,reduceCtorEq]
   repeat refine ybd ?_
   let f:Nat->Nat->Nat:=fun k q=>if q<k/\lg q=false then V (mkey (q:Int) (S.en q:Int))else 0
   refine ybf (σ:=Nat) (fun k=>⟨[(106,.i .i64 k),(105,.i .i64 (S.N:Nat)),(104,.sl 1 S.N fun k=>[.i .u32 (S.en k:Nat)]),(1,ybb S.N lg),(9,.mr (41,0)),(20,.os (102,0) 0 S.N true)],[(102,.one (some ⟨3,false,1,S.N,fun q=>[.i .i64 (f k q:Nat)]⟩)),d V]⟩) (fun k=>k<=S.N) (fun k=>S.N-k) 0 (zG _) ?_ ?_
   .refine yw ?_;simp only[d,ybb,wk,go_sem,zA,zC,↓reduceIte,reduceCtorEq]
    exact fun i _=>by
     show(0:Int)=((if i<0/\lg i=false then _ else 0:Nat):Int)
     rw[if_neg (fun r=>by omega)]
     rfl
   .intro k hk
    by_cases x:k<S.N
    .have d1:=dec_lt x;have he:=h.lt k x;cases Z:lg k with
     | true =>
       have P:∀q,f (k+1) q=f k q:=fun q=>by
        show(if _ then _ else _)=if _ then _ else _
        by_cases e:q=k
        .subst e;rw[Z,if_neg (fun r=>by cases r.2),if_neg (fun r=>by cases r.2)]
        .by_cases r:q<k/\lg q=false
         .rw[if_pos r,if_pos ⟨by omega,r.2⟩]
         .rw[if_neg r,if_neg (fun w=>r ⟨by omega,w.2⟩)]
       simp only[ybpq,ycjl,ybzs,ycfn,d,ybb,d1,Z,clash,go_sem,zA,zB,↓reduceIte,reduceCtorEq]
       repeat refine ybd ?_
       refine yj (k+1) x (by omega) ?_
       refine yw ?_;simp only[P,wk,go_sem,zA,zC,↓reduceIte,reduceCtorEq];omega
     | false =>
       have P:∀q,f (k+1) q=if q=k then V (mkey (k:Int) (S.en k:Int))else f k q:=fun q=>by
        show(if _ then _ else _)=if _ then _ else(if _ then _ else _)
        by_cases e:q=k
        .subst e;rw[if_pos rfl,if_pos ⟨by omega,Z⟩]
        .rw[if_neg e]
         by_cases r:q<k/\lg q=false
         .rw[if_pos r,if_pos ⟨by omega,r.2⟩]
         .rw[if_neg r,if_neg (fun w=>r ⟨by omega,w.2⟩)]
       simp only[ybpq,ycjl,ybzs,yctk,ycfn,d,ybb,d1,Z,splice,clash,zAN,go_sem,zA,zB,zD,↓reduceIte,reduceCtorEq]
       repeat refine ybd ?_
       refine yj (k+1) x (by omega) ?_
       refine yw ?_;simp only[P,wk,go_sem,zA,zC,↓reduceIte,reduceCtorEq];refine⟨by omega,fun i Y=>yfw ?_⟩
       by_cases e:i=k
       .simp only[if_pos e]
       .simp only[if_neg e]
    .obtain rfl:k=S.N:=by omega
     simp only[ybpq,ydea,d,ybb,zI,clash,go_sem,zA,zB,↓reduceIte,reduceCtorEq];refine⟨f S.N,Sim.refl _,fun k hk=>?_⟩;show(if _ then _ else _)=0\/(_/\B k (S.en k) (if _ then _ else _))
     by_cases r:k<S.N/\lg k=false
     .rw[if_pos r];exact K k hk (S.en k) (O k hk)
     .rw[if_neg r];exact .inl rfl
end Sh
end
section
structure WLaw(p:ProgT)(g:Gr)(perm:Nat->Bool)(D:Nat->Prop)(L:Conf->Bool)(J:Conf->Cnt->Prop)(R:Nat)(M:Nat->Prop):Prop where
 tab:TabOk (tabP p g)
 n4:g.ids.length<=4
 big:ybm (tabP p g)*2^g.ids.length<=262144
 fit:∀c,ydo p g c=true->∀s,ydo p g (ygn p g c s)=true
 permD:∀s,s<2^g.ids.length->perm s=true->D s
 low:∀e,e<16->e≠0->perm ((4294967296-e)&&&e)=true
 start:∀c,ydo p g c=true->J c (ybif (ybt p g c))
 step:∀c k s,ydo p g c=true->J c k->s≠0->subB s (ybt p g c)->D s->J (ygn p g c s) (addP k s (ybt p g (ygn p g c s)))
 rests:∀c,ydo p g c=true->(ybt p g c=0↔L c=true)
 rounds:∀c k,ydo p g c=true->J c k->L c=false->k.rounds+1<=R
 r1000:R<=100000
 moves:∀c k,ydo p g c=true->J c k->M k.moves
 noloop:∀c s m,Loop (ymq p g) (fun c=>ydo p g c=true) c s m->(∀i,D (s i))->False
theorem ydgd{perm:Nat->Bool}{e n:Nat}(b:n<=4)(d:e<2^n):(chP perm e).length<=2^n:=by
 have a:2^n<=16:=zJ (by omega) b
 have:=ymk (perm:=perm) (e:=e) (n:=2^n) (16-2^n) fun t c _ h=>by
  have:t&&&e<=e:=Nat.and_le_right;rw[h.2]at this;omega
 rw[show 2^n+(16-2^n)=16 by omega]at this
 show(chTo perm e 16).length<=_;rw[this];exact ybbx _ _ _
theorem ysm{s e:Nat}(h:s&&&e=s):subB s e:=fun v a=>by
 have:(s&&&e).testBit v=true:=by rw[h];exact a
 rw[zBZ,zT]at this;exact this.2
namespace WLaw
variable {p:ProgT}{g:Gr}{perm:Nat->Bool}{D:Nat->Prop}{L:Conf->Bool}{J:Conf->Cnt->Prop}{R:Nat}{M:Nat->Prop}
theorem en16(h:WLaw p g perm D L J R M)(c:Conf):ybt p g c<16:=zAO (Sh.yzj p g c) (zJ (by omega) h.n4:2^g.ids.length<=2^4)
theorem yxh(h:WLaw p g perm D L J R M){k i:Nat}(a:i<((spcP perm p g).arcs k).length) :
 ∃s,((spcP perm p g).arcs k).getD i (0,0)=(s,rkN p g (ygn p g (cfP p g k) s))/\s=(chP perm (ybt p g (cfP p g k))).getD i 0/\s<16/\s≠0/\s&&&ybt p g (cfP p g k)=s/\perm s=true:=by
 change i<((chP perm (ybt p g (cfP p g k))).map _).length at a
 rw[zAH]at a;refine⟨_,?_,rfl,ybrl (Sh.getD_mem a)⟩;show((chP perm (ybt p g (cfP p g k))).map _).getD i (0,0)=_;simp only[zAA,zBL,zK a];rfl
theorem conf(h:WLaw p g perm D L J R M)(k:Nat):ydo p g (cfP p g k)=true:=ybxp h.tab.bd k
theorem yean(h:WLaw p g perm D L J R M){d:Conf}(b:ydo p g d=true):rkN p g d<ybm (tabP p g)/\cfP p g (rkN p g d)=d:=by
 have a:=yiz.1 b;have:=ybaq a;refine⟨?_,ybrd a⟩;unfold rkN;omega
theorem ybna(h:WLaw p g perm D L J R M){k s:Nat}:cfP p g (rkN p g (ygn p g (cfP p g k) s))=ygn p g (cfP p g k) s:=(h.yean (h.fit _ (h.conf k) s)).2
theorem ybcj(h:WLaw p g perm D L J R M)(k:Nat):((spcP perm p g).arcs k).length=(chP perm (ybt p g (cfP p g k))).length:=zAH _
theorem ycwu(h:WLaw p g perm D L J R M):∀k,sumA (spcP perm p g) k<=k*2^g.ids.length
 |0=>zG _
 | k + 1=>by
   have a:=ycwu h k
   have b:((spcP perm p g).arcs k).length<=2^g.ids.length:=by
    rw[h.ybcj];exact ydgd h.n4 (Sh.yzj p g _)
   show sumA (spcP perm p g) k+((spcP perm p g).arcs k).length<=(k+1)*2^g.ids.length;rw[Nat.succ_mul];omega
theorem tot(h:WLaw p g perm D L J R M):sumA (spcP perm p g) (ybm (tabP p g))<=262144:=zS (h.ycwu _) h.big
theorem ybda(h:WLaw p g perm D L J R M)(k:Nat):(spcP perm p g).en k=0↔((spcP perm p g).arcs k).length=0:=by
 rw[h.ybcj];show ybt p g (cfP p g k)=0↔_;constructor
 .intro e;rw[e,ybqw];rfl
 .intro e;refine zAC fun q=>ydrg (h.en16 _) q (h.low _ (h.en16 _) q) (List.length_eq_zero_iff.1 e)
theorem ok(h:WLaw p g perm D L J R M):(spcP perm p g).ok:=by
 have c:∀k,ybt p g (cfP p g k)<2^24:=fun k=>zCI (h.en16 _) (by omega)
 refine⟨yqv h.tab.bd,h.tab.tot,fun k _=>c k,fun k _=>h.ybda k,fun k _ i a=>?_,fun k _ i a=>?_,fun k _ i a=>?_,h.tot⟩
 .obtain⟨s,e,-,d,-,f,-⟩:=h.yxh a;rw[e];exact⟨zCI d (by omega),Sh.ybox f⟩
 .obtain⟨s,e,m,d,o,f,-⟩:=h.yxh a;rw[e];unfold yblb
  by_cases q:i=0
  .rw[if_pos q];show 0<s;omega
  .rw[if_neg q];obtain⟨n,l,b,-⟩:=h.yxh (k:=k) (i:=i-1) (by omega)
   rw[l];show n<s;have j:=a;rw[h.ybcj]at j;rw[m,b,yjj j,yjj (by omega)]
   exact List.pairwise_iff_getElem.1 (yblm _ _ _) _ _ _ _ (by omega)
 .obtain⟨s,e,-⟩:=h.yxh a;rw[e];exact(h.yean (h.fit _ (h.conf k) s)).1
theorem free(h:WLaw p g perm D L J R M):(spcP perm p g).free fun k=>L (cfP p g k):=by
 refine⟨fun k _ v e=>?_,fun f m d=>?_⟩
 .have:(spcP perm p g).en k=0:=(h.ybda k).2 (by rw[e];rfl)
  have:=(h.rests _ (h.conf k)).1 this;rw[v]at this;cases this
 .have o:∀i,∃s,s<2^g.ids.length/\s≠0/\subB s (ybt p g (cfP p g (f i)))/\D s/\cfP p g (f (i+1))=ygn p g (cfP p g (f i)) s:=fun i=>by
   obtain⟨a,r,l⟩:=d.arc i;obtain⟨j,q,rfl⟩:=zAG r;obtain⟨s,e,-,w,t,n,u⟩:=h.yxh q;rw[yjj q]at e;rw[e]at l;have b:s<2^g.ids.length:=Sh.ybdz (ysm n) (Sh.yzj p g _);refine⟨s,b,t,ysm n,h.permD s b u,?_⟩;rw[<-l];exact h.ybna
  let s:Nat->Nat:=fun i=>(o i).choose
  have c:=fun i=>(o i).choose_spec;exact h.noloop (fun i=>cfP p g (f i)) s m ⟨d.pos,fun i=>by show cfP p g _=_;rw[d.per],fun i=>h.conf _,fun i=>(c i).2.1,fun i=>(c i).2.2.1,fun i=>(c i).2.2.2.2⟩ fun i=>(c i).2.2.2.1
theorem rest(h:WLaw p g perm D L J R M)(k:Nat)(a:L (cfP p g k)=true):((spcP perm p g).arcs k).length=0:=(h.ybda k).1 ((h.rests _ (h.conf k)).2 a)
def BM(p:ProgT)(g:Gr)(J:Conf->Cnt->Prop)(M:Nat->Prop)(k x:Nat):Prop:=∀a,J (cfP p g k) a->M (x+a.moves)
theorem mvB(h:WLaw p g perm D L J R M):Sh.MvB (spcP perm p g) (fun k=>L (cfP p g k)) (BM p g J M):=by
 refine⟨fun k _ a hk=>by rw[Nat.zero_add];exact h.moves _ _ (h.conf k) hk,fun k _ _ i l x d a hk=>?_⟩
 obtain⟨s,e,-,m,f,c,j⟩:=h.yxh l;rw[e]at d ⊢;have b:s<2^g.ids.length:=Sh.ybdz (ysm c) (Sh.yzj p g _);have:=h.step _ _ s (h.conf k) hk f (ysm c) (h.permD s b j);rw[<-h.ybna]at this;have:=d _ this;show M (popP s+x+a.moves);rw[show popP s+x+a.moves=x+(a.moves+popP s)by omega]
 exact this
def BR(p:ProgT)(g:Gr)(J:Conf->Cnt->Prop)(R k s x:Nat):Prop:=(∀a,J (cfP p g k) a->a.pend=s->a.rounds+x<=R)/\x<=1+R
theorem rdB(h:WLaw p g perm D L J R M):Sh.RdB (spcP perm p g) (fun k=>L (cfP p g k)) g.ids.length (BR p g J R):=by
 have q:∀k i,i<((spcP perm p g).arcs k).length->∀a,J (cfP p g k) a->J (cfP p g (((spcP perm p g).arcs k).getD i (0,0)).2) (addP a (((spcP perm p g).arcs k).getD i (0,0)).1 ((spcP perm p g).en (((spcP perm p g).arcs k).getD i (0,0)).2)):=fun k i d a hk=>by
  obtain⟨s,e,-,u,r,o,t⟩:=h.yxh d;rw[e];have n:s<2^g.ids.length:=Sh.ybdz (ysm o) (Sh.yzj p g _);have:=h.step _ _ s (h.conf k) hk r (ysm o) (h.permD s n t);rw[<-h.ybna]at this;exact this
 refine⟨fun k _ l s _=>⟨fun a hk _=>h.rounds _ _ (h.conf k) hk l,by omega⟩,fun k _ l s _ i d m f x b=>⟨fun a hk j=>?_,?_⟩,fun k _ l s _ i d m f x b=>⟨fun a hk j=>?_,b.2⟩,fun k s x b=>?_⟩
 .have c:=q k i d a hk;unfold ypb at f;unfold addP at c;simp only[j,f,if_true]at c;have:=b.1 _ c rfl;have:a.rounds+1+x<=R:=this;omega
 .have:=b.1 _ (h.start _ (h.conf _)) rfl;have:0+x<=R:=this;omega
 .have c:=q k i d a hk;unfold ypb at f b;unfold addP at c;simp only[j,if_neg f]at c;have:=b.1 _ c rfl;exact this
 .have:=b.2;have:=h.r1000;omega
theorem ycpe(h:WLaw p g perm D L J R M){k x:Nat}(a:BM p g J M k x):M x:=a _ (h.start _ (h.conf k))
theorem ybxz(h:WLaw p g perm D L J R M){k x:Nat}(a:x=0\/(L (cfP p g k)=false/\BR p g J R k ((spcP perm p g).en k) x)):x<=R:=by
 rcases a with rfl|⟨-,a⟩
 .exact zG _
 .have:=a.1 _ (h.start _ (h.conf k)) rfl;have:0+x<=R:=this;omega
end WLaw
end
section
theorem ybqb{r:Nat}:∀T:List (List (Int×Int)),(∀x∈T,ybs x<=r)->ybm T<=r^T.length
 |[],_=>zU _
 | x::T,h=>by
   show ybs x*ybm T<=r^(T.length+1);rw[Nat.pow_succ,zAT (r^T.length)];exact zBA (h x zL) (ybqb T fun y a=>h y (zAB _ a))
theorem yux{p:ProgT}{g:Gr}{x:List (Int×Int)}(h:x∈tabP p g):∃v,v<g.ids.length/\x=p.vars.map (ybj g v):=by
 unfold tabP tabT at h;obtain⟨v,a,rfl⟩:=List.mem_map.1 h;exact⟨v,List.mem_range.1 a,rfl⟩
theorem ycam {p:ProgT}{g:Gr}{m r:Nat}(h:g.ids.length<=m) (q:m<=4) (a:0<p.vars.length/\p.vars.length<=6)
 (f:∀v,v<g.ids.length->∀x∈p.vars,-1000000<=(ybj g v x).1/\(ybj g v x).1<=(ybj g v x).2/\(ybj g v x).2<=1000000)
 (n:∀v,v<g.ids.length->ybs (p.vars.map (ybj g v))<=r) (i:1<=r) (o:r^m<=32768) (j:r^m*2^m<=262144):TabOk (tabP p g)/\ybm (tabP p g)*2^g.ids.length<=262144:=by
 have k:(tabP p g).length=g.ids.length:=yhn _ _ _
 have l:ybm (tabP p g)<=r^m:=by
  refine zS (ybqb (r:=r) _ fun x d=>?_) ?_
  .obtain⟨v,a,rfl⟩:=yux d;exact n v a
  .rw[k];exact zJ i h
 refine⟨⟨fun x d b c=>?_,fun x d b c=>?_,by omega,fun x d=>?_,by omega⟩,zS (zBA l (zJ (by omega) h)) j⟩
 .obtain⟨v,a,rfl⟩:=yux d;obtain⟨y,e,rfl⟩:=List.mem_map.1 c;exact(f v a y e).2.1
 .obtain⟨v,a,rfl⟩:=yux d;obtain⟨y,e,rfl⟩:=List.mem_map.1 c;exact⟨(f v a y e).1,(f v a y e).2.2⟩
 .obtain⟨v,a,rfl⟩:=yux d;rw[zAH];omega
theorem ydkv{g:Gr}(f:ybh g)(v:Nat):(g.ports.getD v []).length<=g.ports.length:=by
 by_cases c:v<g.ports.length
 .obtain⟨d,e⟩:=f.2.2.2.2.2.1 ⟨v,c⟩;rw[yjj c]
  have:=yxq g.ports.length ((g.ports[v]).map (·.1)) (fun x i=>by
   obtain⟨l,h,rfl⟩:=List.mem_map.1 i;obtain⟨a,b,-⟩:=d l h;exact⟨a,by omega⟩) e
  rwa [zAH]at this
 .rw[zAA,zAZ (by omega)]
  exact zG _
theorem yeen {p:ProgT}{g:Gr}{P:Nat->Nat->List Int->Prop}{L:Conf->Bool}{R:Nat}(ht:TabOk (tabP p g)/\ybm (tabP p g)*2^g.ids.length<=262144) (n4:g.ids.length<=4)
 (fit:∀c,ydo p g c=true->∀s,ydo p g (ygn p g c s)=true) (hby:ByRounds (ymq p g) (fun c=>ydo p g c=true) P) (h0:∀c v,ydo p g c=true->v<g.ids.length->P 0 v (c.getD v []))
 (rests:∀c,ydo p g c=true->(ybt p g c=0↔L c=true)) (right:∀c r,ydo p g c=true->R<=r->(∀v,v<g.ids.length->P r v (c.getD v []))->L c=true) (hR:R<=100000)
 (noloop:∀(c:Nat->Conf) (s:Nat->Nat) (m:Nat),Loop (ymq p g) (fun c=>ydo p g c=true) c s m->False) :
 WLaw p g (fun _=>true) (fun _=>True) L (RInv (ymq p g) (fun c=>ydo p g c=true) P) R (fun _=>True) where
 tab:=ht.1
 n4:=n4
 big:=ht.2
 fit:=fit
 permD:=fun _ _ _=>trivial
 low:=fun _ _ _=>rfl
 start:=fun c hc=>hby.start hc fun v hv=>h0 c v hc hv
 step:=fun c k s hc hJ h1 h2 _=>hby.step c k s hJ h1 h2
 rests:=rests
 rounds:=fun c k hc hJ hl=>by
  refine zAC fun q=>?_;rw[right c k.rounds hc (by omega) hJ.all]at hl
  cases hl
 r1000:=hR
 moves:=fun _ _ _ _=>trivial
 noloop:=fun c s m h _=>noloop c s m h
end
section
theorem ybyy{l:List Int}{x:Int}(h:ydw l<x)(f:x<=1073741824):∃y∈l,y=ydw l:=by
 refine zAC fun c=>?_;have:∀b:Int,b<=1073741824->(∀y∈l,b<=y)->b<=ydw l:=fun b=>ykh
 have d:=this (ydw l+1) (by omega) fun y a=>by
  have:=ylw a;rcases Int.lt_or_lt_of_ne (show y≠ydw l from fun e=>c ⟨y,a,e⟩)with q|q<;>omega
 omega
theorem ybbk{j:Type}{l:List j}{a b:j->Int}{x:Int}(i:x<=1073741824)(h:∀p∈l,(a p<x->b p=a p)/\(x<=a p->x<=b p)) :
 (ydw (l.map a)<x->ydw (l.map b)=ydw (l.map a))/\(x<=ydw (l.map a)->x<=ydw (l.map b)):=by
 refine⟨fun d=>?_,fun k=>?_⟩
 .obtain⟨y,m,e⟩:=ybyy d i;obtain⟨p,g,rfl⟩:=List.mem_map.1 m;have r:=(h p g).1 (by omega)
  have n:ydw (l.map b)<=b p:=ylw (zAR g)
  have o:ydw (l.map a)<=ydw (l.map b):=ykh (by omega) fun z f=>by
   obtain⟨q,c,rfl⟩:=List.mem_map.1 f;have:=ylw (l:=l.map a) (zAR c);rcases Int.lt_or_le (a q) x with w|w
   .rw[(h q c).1 w];exact this
   .have:=(h q c).2 w;omega
  omega
 .refine ykh i fun z f=>?_;obtain⟨q,c,rfl⟩:=List.mem_map.1 f;have:=ylw (l:=l.map a) (zAR c);exact(h q c).2 (by omega)
theorem ybkn{g:Gr}(a:ybh g){v:Nat}(h:v<g.ids.length){l:Int×Int}(d:l∈g.ports.getD v []):l.1.toNat<g.ids.length/\1<=l.2/\l.2<=15:=by
 have e:g.ids.length=g.ports.length:=a.2.2.1;obtain⟨_,f,_,b,c⟩:=yds a (by omega) d
 exact⟨by omega,b,c⟩
end
section
section
variable {nm nd np nt nl:ByteArray}{g:Gr}
theorem ybtb(k:ybh g){c:Nat->Conf}{s:Nat->Nat}{m:Nat}(C:Loop (ymq (yfa nm nd np nt nl) g) (fun c=>ydo (yfa nm nd np nt nl) g c=true) c s m):False:=by
 have B:(g.ids.length:Int)<=24:=by have:=k.2.1;have:=k.2.2.1;omega
 refine(ybpx k).no_loop (fun c=>ybdk _ _) (fun r=>r.getD 0 0) (fun c v t i=>((ygp t).row v i).2.1.1) (fun c f v t u i d=>?_) (fun c f v t u i d=>?_) C
 .have i:v<g.ids.length:=i
  by_cases p:v=0
  .unfold ptT;rw[if_pos p,if_pos p]
  .have e:∀c,(ptT g c v).getD 0 0=ptD g c v:=fun c=>by unfold ptT;rw[if_neg p];rfl
   simp only[e]at d ⊢
   by_cases q:ptM g c v<15*(g.ids.length:Int)
   .have o:ptD g c v=ptM g c v:=by unfold ptD;rw[if_pos q]
    rw[o]at d ⊢
    have:=(ybbk (a:=ptK c) (b:=ptK f) (l:=g.ports.getD v []) (x:=ptM g c v+1) (by omega) fun l j=>by
     obtain⟨n,y,z⟩:=ybkn k i j;have h:((c.getD l.1.toNat []).getD 0 0<ptM g c v->(f.getD l.1.toNat []).getD 0 0=(c.getD l.1.toNat []).getD 0 0)/\(ptM g c v<=(c.getD l.1.toNat []).getD 0 0->ptM g c v<=(f.getD l.1.toNat []).getD 0 0):=d _ n;unfold ptK endP;omega).1 (by show ptM g c v<_;omega)
    have w:ptM g f v=ptM g c v:=this;unfold ptD;rw[w,if_pos q]
   .have o:ptD g c v=15*(g.ids.length:Int):=by unfold ptD;rw[if_neg q]
    rw[o]at d ⊢
    have:=(ybbk (a:=ptK c) (b:=ptK f) (l:=g.ports.getD v []) (x:=15*(g.ids.length:Int)) (by omega) fun l j=>by
     obtain⟨n,y,z⟩:=ybkn k i j;have h:((c.getD l.1.toNat []).getD 0 0<15*(g.ids.length:Int)->(f.getD l.1.toNat []).getD 0 0=(c.getD l.1.toNat []).getD 0 0)/\(15*(g.ids.length:Int)<=(c.getD l.1.toNat []).getD 0 0->15*(g.ids.length:Int)<=(f.getD l.1.toNat []).getD 0 0):=d _ n;unfold ptK endP;omega).2 (by show _<=ptM g c v;omega)
    have w:15*(g.ids.length:Int)<=ptM g f v:=this;unfold ptD;rw[if_neg (by omega)]
 .have i:v<g.ids.length:=i
  have e:∀l∈g.ports.getD v [],ptK f l=ptK c l:=fun l j=>by
   have h:(f.getD l.1.toNat []).getD 0 0=(c.getD l.1.toNat []).getD 0 0:=d _ (ybkn k i j).1;unfold ptK endP;rw[h]
  have A:ptM g f v=ptM g c v:=congrArg ydw (List.map_congr_left e);unfold ptT ptD ptF;rw[A,ytj fun l j=>by rw[e l j]]
end
end
section
section
variable {nm nd np nt nl:ByteArray}{g:Gr}
theorem ydlc{W:List Int}(n:IsW g W)(b:ybh g)(w:yil g=true){L:Conf->Bool}(k:∀c,ydo (yfa nm nd np nt nl) g c=true->(L c=true↔yxc g W c)){R:Nat}(t:∀v,v<g.ids.length->W.getD v 0<(R:Int)*yfr g)(u:R<=1000)(q:g.ports.length<=2) :
 WLaw (yfa nm nd np nt nl) g (fun _=>true) (fun _=>True) L (RInv (ymq (yfa nm nd np nt nl) g) (fun c=>ydo (yfa nm nd np nt nl) g c=true) (ptR g W)) R (fun _=>True):=by
 have y:=b.2.2.1;have j:=ydkv b;obtain⟨C,_,_⟩:=ynt b;have i:∀v,ybj g v ⟨nd,1,0,0,15,0⟩=(0,0+15*(g.ids.length:Int)+0*maxI g.ids):=fun v=>if_pos rfl;have h:∀v,ybj g v ⟨np,3,0,0,0,0⟩=(-1,((g.ports.getD v []).length:Int)-1):=fun v=>rfl
 refine yeen (ycam (m:=2) (r:=93) (by omega) (by omega) ⟨Nat.succ_pos _,by show 2<=6;omega⟩ (fun v f x p=>?_) (fun v f=>?_) (by omega) (by decide) (by decide)) (by omega)
  (fun c d s=>Sh.ykf b ydtv (ybmt b) d s) ((ybpx b).rounds (fun c v r o q a=>yble b n (ygp o) q r a) (ycoy b)) (fun c v d f=>ybpj n b (ygp d) f)
  (fun c d=>(yckq n b d).trans (k c d).symm) (fun c r d B a=>(k c d).2 fun v f=>?_) (by omega) (fun c s m k=>ybtb b k)
 .have:=j v;rcases List.mem_cons.1 p with e|p
  .rw[e,i];show -1000000<=(0:Int)/\(0:Int)<=0+15*(g.ids.length:Int)+0*maxI g.ids/\0+15*(g.ids.length:Int)+0*maxI g.ids<=1000000;omega
  .rw[List.mem_singleton.1 p,h];show -1000000<=(-1:Int)/\(-1:Int)<=((g.ports.getD v []).length:Int)-1/\((g.ports.getD v []).length:Int)-1<=1000000;omega
 .have:=j v;show szP (ybj g v ⟨nd,1,0,0,15,0⟩)*(szP (ybj g v ⟨np,3,0,0,0,0⟩)*1)<=93;rw[i,h];unfold szP;show(0+15*(g.ids.length:Int)+0*maxI g.ids-0+1).toNat*((((g.ports.getD v []).length:Int)-1 - -1+1).toNat*1)<=93;exact zS (zBA (show _<=31 by omega) (show _<=3 by omega)) (by decide)
 .have l:ptR g W r v (c.getD v []):=a v f;have z:=t v f;have A:(R:Int)*yfr g<=(r:Int)*yfr g:=zAI (by omega) (by omega)
  unfold ptR at l;rw[if_pos (by omega)]at l
  exact l
end
end
section
open Go Ev
theorem ybpm:∀(P:List (List (Int×Int))) (k v:Nat) (ls:List (Int×Int)) (l:Int×Int),P[v]?=some ls->l∈ls->(⟨k+v,l.1,l.2⟩:El)∈ybp k P
 |[],_,_,_,_,h,_=>by simp at h
 | r::P,k,0,ls,l,h,a=>by
   have:r=ls:=by simpa using h
   subst this;exact List.mem_append.2 (.inl (List.mem_map.2 ⟨l,a,rfl⟩))
 | r::P,k,v+1,ls,l,h,a=>by
   have:=ybpm P (k+1) v ls l (by simpa using h) a
   rw[show k+1+v=k+(v+1)by omega]at this
   exact List.mem_append.2 (.inr this)
theorem ycsn{g:Gr}{b:Int}(c:b<=15):∀k,(∀v l,v<k->l∈g.ports.getD v []->b<=l.2)->b<=lgV g k
 |0,_=>c
 |k+1,h=>(lgF (g.ports.getD k []) (lgV g k)).2.2 b (ycsn c k fun v l d a=>h v l (by omega) a) fun l a=>h k l (zBR k) a
theorem ycdd{g:Gr}(a:ybh g):max (Sh.ligP g) 1<=yfr g:=by
 have k:=(ynt a).1;obtain⟨-,b⟩:=Sh.ycew a _ (zU _);have c:=Sh.ybfq a _ (zU _);rw[zAU]at b c
 have m:Sh.ligP g<=yfr g:=ycsn c.2 _ fun v l j f=>by
  have h:=ybpm g.ports 0 v (g.ports.getD v []) l (by rw[zAA,zK j];rfl) f
  obtain⟨i,d,e⟩:=zAG h;have:=b i d;unfold Sh.yef at this;rw[Sh.getD_at d,e]at this;exact this
 omega
theorem ybyc:∀(D:List Int) (a:Int),a<=D.foldl max a
 |[],_=>Int.le_refl _
 |x::D,a=>zCJ (Int.le_max_left a x) (ybyc D _)
theorem ybpc:∀(D:List Int) (a x:Int),x∈D->x<=D.foldl max a
 | y::D,a,x,h=>by
   rcases List.mem_cons.1 h with rfl|h
   .exact zCJ (Int.le_max_right a x) (ybyc D _)
   .exact ybpc D _ x h
theorem ycqk{l:List Int}(b:∀x∈l,0<=x){v:Nat}(a:v<l.length):l.getD v 0<=maxI l:=by
 rw[ybei (by omega) b,yjj a]
 exact ybpc l 0 _ (zO a)
theorem ybwy{g:Gr}{W:List Int}(b:ybh g)(a:IsW g W):0<=Sh.yfx g W/\Sh.yfx g W<=1000/\∀v,v<g.ids.length->W.getD v 0<Sh.yfx g W*yfr g:=by
 have c:=Sh.yzs a b;have e:=ycdd b;have j:=b.2.2.1;unfold Sh.yfx;obtain⟨m,d⟩:∃m,max (Sh.ligP g) 1=m:=⟨_,rfl⟩;have h:1<=m:=by omega
 rw[d]at e ⊢;have d1:(maxI W).tdiv m=maxI W/m:=Int.tdiv_eq_ediv_of_nonneg c.1;have d2:0<=maxI W/m:=Int.ediv_nonneg c.1 (by omega)
 have d3:maxI W/m<=maxI W:=Int.ediv_le_self _ c.1;have d4:maxI W<(maxI W/m+1)*m:=Int.lt_ediv_add_one_mul_self _ (by omega)
 rw[d1];refine⟨by omega,by omega,fun v o=>?_⟩
 have l:W.getD v 0<=maxI W:=ycqk (fun x k=>by
  obtain⟨i,f,rfl⟩:=zAG k;have:=a.pos i (by rw[<-a.len];exact f)
  rwa [yjj f]at this) (by rw[a.len];omega)
 have n:(maxI W/m+1)*m<=(maxI W/m+1)*yfr g:=Int.mul_le_mul_of_nonneg_left e (by omega)
 omega
end
section
namespace Sh
open Go Ev
def c3_0:LO:=[bx' 24 0 1 0,mb false 2 0]
def c3_1:LO:=[la' 6 1 22 0,o3 (.call (.func 10) [(.tmp 22),(ci' 2)]) 23 1,o3 (.alloc 27 1 [.a (.slice none 0 0),.a (.slice none 0 0)]) 3 0,sto 2 3 23 7]
def c3_2:LO:=[cl' 12 [] 24 0,cl' 11 [24] 25 1,o3 (.alloc 32 1 [.a (.string (ByteArray.mk #[])),.a (.slice none 0 0),.a (.slice none 0 0)]) 4 0,sto 3 4 25 7]
def c3_3:LO:=[la' 2 3 26 0,cl' 13 [26] 27 1,o3 (.alloc 36 1 [.i .i64 0,.b false,.b false,.i .i64 0,.i .i64 0]) 5 0,sto 5 5 27 7]
def c3_4:LO:=[la' 3 4 29 0,la' 2 3 30 0,fa' 0 1 5 31 0,ld' 1 31 32 4,cl' 14 [29,30,32] 33 15,mv' 33 28 31,xt' 28 0 34 63,xt' 28 1 35 63,o3 (.alloc 41 1 [.a (.slice none 0 0),.a (.slice none 0 0)]) 6 0,sto 2 6 34 383,mv' 35 7 1023]
def c3_5:LO:=[mv' 7 36 0,bc .neq 36 0 37 1,mv' 37 38 3,gf (.faddr 1 1 (.tmp 6)) 39 38 7,gf (.load false 1 (.tmp 39)) 40 38 15,gf (.len (.tmp 40)) 41 38 31,gf (.bin .eql (.tmp 41) (ci' 0)) 42 38 63,pk' 38 42 43 127]
def c3_6:LO:=[mb false 2 0]
def c3_7:LO:=[nl' 8 0]
def c3_8:LO:=[mc 0 9 0]
def c3_9:LO:=[mv' 9 44 0,fa' 1 1 6 45 0,ld' 1 45 46 2,ln' 46 47 6,bn' .lss 44 47 48 15]
def ydvw:LO:=[la' 3 4 52 0,la' 2 3 53 0,mv' 9 54 0,cl' 15 [52,53,54] 55 7,mv' 55 51 15,xt' 51 0 56 31,xt' 51 1 57 31,mv' 56 10 63,mv' 57 11 255]
def ydyi:LO:=[mv' 11 58 0,bc .neq 58 0 59 1]
def yeff:LO:=[mb false 2 0]
def yecj:LO:=[mv' 8 60 0,la' 2 3 61 0,mv' 10 62 0,cl' 16 [61,62] 63 6,o3 (.bslice 4 1 1 [.b false] [(0,1,(.tmp 63))]) 64 14,o3 (.app 4 1 1 (.tmp 60) (.tmp 64)) 65 31,mv' 65 8 63]
def ydop:LO:=[mv' 9 49 0,bc .add 49 1 50 1,mv' 50 9 3]
def yebp:LO:=[la' 2 6 67 0,mv' 8 68 0,cl' 17 [67,68] 69 3,mv' 69 66 7,xt' 66 0 70 15,xt' 66 1 71 15,mv' 70 12 31,mv' 71 13 127]
def ydwj:LO:=[la' 2 6 73 0,mv' 8 74 0,cl' 18 [73,74] 75 3,mv' 75 72 7,xt' 72 0 76 15,xt' 72 1 77 15,mv' 76 14 31,mv' 77 15 127]
def ydvk:LO:=[mv' 13 78 0,bc .neq 78 0 79 1,mv' 79 80 3,gf (.mv (.tmp 15)) 81 80 7,gf (.bin .neq (.tmp 81) (ci' 0)) 82 80 15,pk' 80 82 83 31,mv' 83 84 63,gf (.mv (.tmp 14)) 85 84 127,gf (.un .not (.tmp 85)) 86 84 255,pk' 84 86 87 511,mv' 87 88 1023,gf (.mv (.tmp 12)) 89 88 2047,gf (.len (.tmp 89)) 90 88 4095,gf (.mv (.tmp 8)) 91 88 2047,gf (.len (.tmp 91)) 92 88 10239,gf (.bin .neq (.tmp 90) (.tmp 92)) 93 88 32767,pk' 88 93 94 65535]
def yedy:LO:=[mb false 2 0]
def ydpv:LO:=[mc 0 16 0]
def ydhc:LO:=[mv' 16 95 0,mv' 12 96 0,ln' 96 97 2,bn' .lss 95 97 98 7]
def yebw:LO:=[mv' 12 101 0,mv' 16 102 0,ix' 1 101 102 103 3,ld' 1 103 104 7]
def yeed:LO:=[mb false 2 0]
def ydzz:LO:=[mv' 16 99 0,bc .add 99 1 100 1,mv' 100 16 3]
def ydsv:LO:=[la' 2 6 106 0,mv' 8 107 0,cl' 19 [106,107] 108 3,mv' 108 105 7,xt' 105 0 109 15,xt' 105 1 110 15,mv' 109 17 31,mv' 110 18 127]
def ydvy:LO:=[la' 2 6 112 0,mv' 8 113 0,cl' 20 [112,113] 114 3,mv' 114 111 7,xt' 111 0 115 15,xt' 111 1 116 15,mv' 115 19 31,mv' 116 20 127]
def ydrj:LO:=[mv' 18 117 0,bc .neq 117 0 118 1,mv' 118 119 3,gf (.mv (.tmp 20)) 120 119 7,gf (.bin .neq (.tmp 120) (ci' 0)) 121 119 15,pk' 119 121 122 31,mv' 122 123 63,gf (.mv (.tmp 17)) 124 123 127,gf (.len (.tmp 124)) 125 123 255,gf (.mv (.tmp 8)) 126 123 127,gf (.len (.tmp 126)) 127 123 639,gf (.bin .neq (.tmp 125) (.tmp 127)) 128 123 2047,pk' 123 128 129 4095,mv' 129 130 8191,gf (.mv (.tmp 19)) 131 130 16383,gf (.len (.tmp 131)) 132 130 32767,gf (.mv (.tmp 8)) 133 130 16383,gf (.len (.tmp 133)) 134 130 81919,gf (.bin .neq (.tmp 132) (.tmp 134)) 135 130 262143,pk' 130 135 136 524287]
def yedn:LO:=[mb false 2 0]
def ydrr:LO:=[mc 0 21 0]
def ydjk:LO:=[mv' 21 137 0,mv' 17 138 0,ln' 138 139 2,bn' .lss 137 139 140 7]
def ydwr:LO:=[mv' 17 143 0,mv' 21 144 0,ix' 1 143 144 145 3,ld' 1 145 146 7,fa' 3 1 5 147 0,ld' 1 147 148 16,bn' .gtr 146 148 149 63,mv' 149 150 127,gf (.faddr 4 1 (.tmp 5)) 151 150 255,gf (.load false 1 (.tmp 151)) 152 150 511,gf (.bin .geq (.tmp 152) (ci' 0)) 153 150 1023,gf (.mv (.tmp 153)) 154 150 2047,gt (.mv (.tmp 19)) 155 154 4095,gt (.mv (.tmp 21)) 156 154 4095,gt (.idx 1 (.tmp 155) (.tmp 156)) 157 154 16383,gt (.load false 1 (.tmp 157)) 158 154 32767,gt (.faddr 4 1 (.tmp 5)) 159 154 4095,gt (.load false 1 (.tmp 159)) 160 154 69631,gt (.bin .gtr (.tmp 158) (.tmp 160)) 161 154 262143,gf (.pick (.tmp 154) (.tmp 161) (.const (.bool false))) 162 150 524287,pk' 150 162 163 1048575]
def yefy:LO:=[mb false 2 0]
def yefk:LO:=[mv' 21 141 0,bc .add 141 1 142 1,mv' 142 21 3]
def ydwd:LO:=[cl' 21 [] 164 0,mv' 164 2 1]
def c3:SC:=(sr c3_0 <| sr c3_1 <| sr c3_2 <| sr c3_3 <| sr c3_4 <| .seq (sr c3_5 <| cn 43 (sr c3_6 <| .ret) .skip) (sr c3_7 <| .seq (sr c3_8 <| .block 0 (.loop (.seq (sr c3_9 <| cn 48 .skip (.exit 0)) (.seq (.block 1 (sr ydvw <| .seq (sr ydyi <| cn 59 (sr yeff <| .ret) .skip) (.reg false yecj))) (.reg false ydop))))) (sr yebp <| sr ydwj <| .seq (sr ydvk <| cn 94 (sr yedy <| .ret) .skip) (.seq (sr ydpv <| .block 2 (.loop (.seq (sr ydhc <| cn 98 .skip (.exit 2)) (.seq (.block 3 (sr yebw <| cn 104 (sr yeed <| .ret) .skip)) (.reg false ydzz))))) (sr ydsv <| sr ydvy <| .seq (sr ydrj <| cn 136 (sr yedn <| .ret) .skip) (.seq (sr ydrr <| .block 4 (.loop (.seq (sr ydjk <| cn 140 .skip (.exit 4)) (.seq (.block 5 (.seq (.reg true ydwr) (cn 163 (sr yefy <| .ret) .skip))) (.reg false yefk))))) (sr ydwd <| .ret)))))))
theorem yefe:Fn 3 c3 [.t 2]:=fn_0 Tryz.func3
end Sh
end
section
namespace Sh
open Ev Go.RowKit
set_option maxHeartbeats 16000000 in
theorem ybiu{x:NetR}(hx:x.ok):Returns zH 3 [.ag (netC x)] (.b true):=by
 refine Returns.of (yefe _ _ ?_);have hC:=ycld hx (most:=2) (by omega)
 simp only[netC]at hC;simp only[c3,c3_0,c3_1,netC,clash,go_sem,zA,zB,zC];refine hC.found (V:=grV) (fun r g h=>h.2.2.2) fun r g h=>?_;obtain⟨hT,hit,a9,-⟩:=h;have y:=hT.good;have B:=hT.conn;have hI:=ycgz y;obtain⟨W,z⟩:=exW y B;have L:Checked (Lies PqB Pqv) (Lies PqC Pqr) PqP g:=⟨y,yebx,ybmt y,ycps⟩;have M:=yboc y B z;obtain⟨b0,b1,b2⟩:=ybwy y z;have a3:((yfx g W).toNat:Int)=yfx g W:=by omega
 have d:WLaw PqP g (fun _=>true) (fun _=>True) (ygc g W) _ (yfx g W).toNat (fun _=>True):=ydlc z y B (fun c hc=>ybod hc) (by rw[a3];exact b2) (by omega) a9
 have b3:2^g.ids.length<=2^4:=zJ (by omega) d.n4
 have I:∀e s,e<2^g.ids.length->s≠0->s<16->s&&&e=s->Returns zH 171 [usV (g.ports.map netP),.i .i64 3,.i .u32 (e:Nat),.i .u32 (s:Nat)] (.b true):=fun e s he h0 hs h=>ybgi _ (by omega) h0 (by omega) (ybox h)
 have R:g.ids.length<=24:=by have:=y.2.1;have:=y.2.2.1;omega
 have a5:=ybyu;have a2:=ybwo;have hB:=ybxq L d.tab (kind:=3) (.inr rfl) d.n4 (perm:=(fun _=>true)) I d.tot;have X:=fun k (hk:k<ybm (tabP PqP g))=>ybtl L d.tab (k0:=k) hk;have H:=fun k=>ybuo y B z (d.conf k);have t:=ycln d.ok d.free;have p:=ybtt d.ok (lg:=fun k=>ygc g W (cfP PqP g k)) fun k _ hl=>d.rest k hl;have v:=ychi d.ok d.free R (fun k _=>yzj _ _ _) d.big d.rdB;have u:=ycov d.ok d.free d.mvB;have Q:=fun k x=>d.ybxz (k:=k) (x:=x)
 have O:=fun k x=>d.ycpe (k:=k) (x:=x);have F:0<ybm (tabP PqP g):=d.ok.pos;have a8:ybm (tabP PqP g)<=32768:=d.ok.le;have hN:(spcP (fun _=>true) PqP g).N=ybm (tabP PqP g):=rfl;have a7:∀k,(unT (tabP PqP g) k).1=cfP PqP g k:=fun _=>rfl;obtain⟨lg,S⟩:∃lg:Nat->Bool,(fun k=>ygc g W (cfP PqP g k))=lg:=⟨_,rfl⟩;have T:∀k,ygc g W (cfP PqP g k)=lg k:=fun k=>by rw[<-S]
 simp only[a7]at X;simp only[T]at H;rw[S]at t p v u;rw[hN]at t p v u;obtain⟨N,P⟩:∃N,ybm (tabP PqP g)=N:=⟨_,rfl⟩;rw[P]at X t p v u F a8;obtain⟨E,a0⟩:∃E:Nat->SV,(fun k=>SV.i .u32 ((spcP (fun _=>true) PqP g).en k:Nat))=E:=⟨_,rfl⟩;obtain⟨A,Z⟩:∃A:Nat->SV,(fun k=>ybl ((spcP (fun _=>true) PqP g).arcs k))=A:=⟨_,rfl⟩;have a4:spcC (spcP (fun _=>true) PqP g)=[.sl 1 N fun k=>[E k],.sl 1 N fun k=>[A k]]:=by rw[<-P,<-a0,<-Z];rfl
 rw[a4]at hB t p v u;simp only[grV,yfs,ybb]at hB X H t p v u M;simp only[ybk,c3_2,grV,clash,go_sem,zA,zB,zC];refine a5.use ?_;simp only[go_sem];refine a2.use ?_;simp only[ybk,c3_3,yfs,clash,go_sem,zA,zB,zC];refine M.use ?_;simp only[ybk,c3_4,ytf,clash,go_sem,zA,zB,zD,zC];refine hB.use ?_;simp only[go_sem,zA,zB]
 repeat refine ybd ?_
 have d0:((N:Int)==0)=false:=by rw[beq_eq_false_iff_ne];omega
 simp only[c3_5,c3_7,c3_8,d0,zQ,clash,go_sem,zA,zB]
 let l:Own:=[(6,.one (some ⟨41,true,2,1,fun _=>[.sl 1 N fun k=>[E k],.sl 1 N fun k=>[A k]]⟩)),(5,.one (some ⟨36,true,5,1,fun _=>[.i .i64 3,.b false,.b true,.i .i64 (yfx g W),.i .i64 (-1)]⟩)),
  (4,.one (some ⟨32,true,3,1,fun _=>[.a (.string PqP.raw.name),.ex (Lies PqB Pqv) (yfi PqP.raw.vars),.ex (Lies PqC Pqr) (ydk PqP.raw.rules)]⟩)),(3,.one (some ⟨27,true,2,1,fun _=>[yba g.ids,yu g.ports]⟩))]
 let n:List (Nat×SV):=[(6,.pt (6,0) 0 0),(5,.pt (5,0) 0 0),(4,.pt (4,0) 0 0),(3,.pt (3,0) 0 0)]
 obtain⟨Y,w,G⟩:∃Y:Nat->SS,(∀k,k<N->Y k=⟨(9,.i .i64 k)::(8,.os (70,0) 0 k true)::n,(70,.one (some ⟨4,false,1,k,fun i=>[.b (lg i)]⟩))::l⟩)/\Y N=⟨(9,.i .i64 N)::(8,.sl 1 N fun i=>[.b (lg i)])::n,l⟩ :=
  ⟨fun k=>if k<N then⟨(9,.i .i64 k)::(8,.os (70,0) 0 k true)::n,(70,.one (some ⟨4,false,1,k,fun i=>[.b (lg i)]⟩))::l⟩else⟨(9,.i .i64 N)::(8,.sl 1 N fun i=>[.b (lg i)])::n,l⟩,fun k hk=>if_pos hk,if_neg (Nat.lt_irrefl _)⟩
 refine ybf (σ:=Nat) Y (fun k=>k<=N) (fun k=>N-k) 0 (zG _) ?_ ?_
 .rw[w 0 F];refine yca [] [70] [] ?_;simp only[n,l,wk,go_sem,zA,zC,zF];exact⟨(70,0),rfl,rfl,rfl⟩
 .intro k hk
  by_cases C:k<N
  .have d1:=dec_lt C;have a6:=X k C;have a1:=H k;rw[w k C];simp only[c3_9,ydvw,n,l,d1,clash,go_sem,zA,zB];refine a6.use ?_;simp only[ybk,ydyi,yecj,splice,clash,zQ,go_sem,zA,zB,zC];refine a1.use ?_;simp only[ydop,clash,go_sem,zA,zB,zD]
   repeat refine ybd ?_
   refine yj (k+1) C (by omega) ?_
   have J:∀i,i<k+1->(if i<k then[SV.b (lg i)]else zCB 1 (zCC ((i-k)*1) [SV.b (lg k)]))=[SV.b (lg i)]:=fun i K=>by
    by_cases q:i<k
    .rw[if_pos q]
    .obtain rfl:i=k:=by omega
     rw[if_neg q,zAD];rfl
   by_cases U:k+1<N
   .rw[w (k+1) U];refine yca [(70,fun i=>(65,i))] [] [] ?_;simp only[n,l,wk,go_sem,zA,zC];exact⟨by omega,fun i K=>ybyd (J i K)⟩
   .obtain rfl:k+1=N:=by omega
    rw[G];refine yca [] [] [(65,0)] ?_;simp only[n,l,wk,go_sem,zA,zD,zC];exact⟨fun i K=>by rw[J i K];rfl,by omega,yec fun i K=>by rw[J i K];exact⟨⟨Sim.refl _,trivial⟩,rfl⟩⟩
  .obtain rfl:k=N:=by omega
   rw[G];simp only[c3_9,yebp,n,l,zI,clash,go_sem,zA,zB];refine t.use ?_;simp only[ybk,ydwj,clash,go_sem,zA,zB];refine p.use ?_;simp only[ydvk,ydpv,clash,bne_self_eq_false,go_sem,zA,zB];refine ybf (σ:=Nat) (fun j=>⟨(16,.i .i64 j)::(12,.sl 1 k fun _=>[.b false])::(8,.sl 1 k fun i=>[.b (lg i)])::n,l⟩) (fun j=>j<=k) (fun j=>k-j) 0 (zG _) ?_ ?_
   .refine yw ?_;simp only[n,l,wk,go_sem,zA,zC]
   .intro j hj
    by_cases D:j<k
    .have d2:=dec_lt D;simp only[ydhc,ydzz,yebw,n,l,d2,clash,go_sem,zA,zB]
     repeat refine ybd ?_
     refine yj (j+1) D (by omega) ?_
     refine yw ?_;simp only[wk,go_sem,zA,zC];omega
    .obtain rfl:j=k:=by omega
     simp only[ydhc,ydsv,n,l,zI,clash,go_sem,zA,zB];refine v.found (V:=fun f=>.tp [.sl 1 j fun q=>[.i .i64 (f q:Nat)],.i .i64 0]) (fun r f h=>h.1) fun r f h=>?_;obtain⟨-,hf⟩:=h;simp only[ybk,ydvy,clash,go_sem,zA,zB];refine u.found (V:=fun f=>.tp [.sl 1 j fun q=>[.i .i64 (f q:Nat)],.i .i64 0]) (fun r f h=>h.1) fun r m h=>?_;obtain⟨-,hm,b4⟩:=h;simp only[ydrj,ydrr,clash,bne_self_eq_false,go_sem,zA,zB]
     refine ybf (σ:=Nat) (fun q=>⟨(21,.i .i64 q)::(19,.sl 1 j fun q=>[.i .i64 (m q:Nat)])::(17,.sl 1 j fun q=>[.i .i64 (f q:Nat)])::n,l⟩) (fun q=>q<=j) (fun q=>j-q) 0 (zG _) ?_ ?_
     .refine yw ?_;simp only[n,l,wk,go_sem,zA,zC]
     .intro q hq
      by_cases o:q<j
      .have d3:=dec_lt o;have r1:=Q q (f q) (hf q o);have m1:=O q (m q) (hm q o);have r2:decide (((f q:Nat):Int)>(yfx g W))=false:=decide_eq_false (by omega)
       simp only[ydjk,ydwr,n,l,d3,r2,ge_iff_le,Int.reduceLE,zBF,clash,go_sem,zA,zB,zD]
       repeat refine ybd ?_
       simp only[clash,go_sem,zA,zB]
       repeat refine ybd ?_
       refine yj (q+1) o (by omega) ?_
       refine yw ?_;simp only[wk,go_sem,zA,zC];omega
      .obtain rfl:q=j:=by omega
       have hK:=ybmh;simp only[ydjk,ydwd,n,l,zI,clash,go_sem,zA,zB];refine hK.use ?_;simp only[ybk,clash,go_sem,zB];exact Sim.refl _
end Sh
end
end Go.Proofs.YthclbjjgfcgbgaaGreatDoor
