/- Joined. -/
import Derived.Test.YthclbjjgfcgbgaaGreatDoorPkCl9
set_option linter.unusedSimpArgs false
set_option linter.unusedVariables false
set_option maxRecDepth 8000
open Nat renaming reduceEqDiff->zA,reduceAdd->zB,reduceLT->zC,reduceLeDiff->zD,reduceBEq->zF,zero_le->zH,pow_le_pow_right->zK,le_trans->zQ,le_of_ble_eq_true->zU,le_mul_of_pos_left->zY,not_lt_zero->zAA,reduceMul->zAB,le_refl->zAD,sub_self->zAE,mul_le_mul_left->zAG,lt_of_lt_of_le->zAQ,mul_le_mul->zAU,mul_assoc->zAY,mul_comm->zBB,sub_zero->zBC,le_mul_of_pos_right->zBD,testBit_lt_two_pow->zBF,ble_eq_true_of_le->zBH,blt->zBP,mul_one->zBU,div_eq_of_lt->zBZ,max_eq_right->zCC,mul_add_div->zCI,two_pow_pos->zCJ,div_le_self->zCK,testBit_and->zCM,max_eq_left->zCN,reduceSub->zCR,zero_add->zCT,le_total->zCX,lt_trans->zCY,ble->zDC
open Go.Proofs.Tryz renaming prog->zG,func133->zCU,func134->zCV
open Bool renaming and_eq_true->zI,or_eq_true->zAH,false_eq_true->zAW,not_eq_true'->zAZ,false_ne_true->zBO
open List renaming mem_cons_self->zJ,getElem?_eq_getElem->zM,getD->zN,getElem_mem->zT,length_append->zV,range->zW,mem_cons_of_mem->zX,take_succ_eq_append_getElem->zAF,length_map->zAI,take_append_drop->zAL,not_mem_nil->zAN,getD_eq_getElem?_getD->zAO,headD_cons->zAP,drop_length->zAR,getElem_of_mem->zAS,mem_map_of_mem->zAT,filter_append->zAV,getElem?_append_left->zBA,range_succ->zBE,length_filter_le->zBG,getElem?_eq_none->zBI,mem_of_mem_drop->zBL,mem_of_mem_take->zBM,append_toArray->zBN,size_toArray->zBQ,push_toArray->zBR,getElem?_map->zBS,filter_cons->zBV,length_cons->zBX,cons_append->zBY,take_length->zCA,filter_nil->zCD,append_nil->zCE,mem_filter->zCF,length_nil->zCG,nil_append->zCH,mem_range->zCO,take->zCP,drop->zCQ
open Int renaming lt_irrefl->zL,reduceBNe->zS,reduceToNat->zZ,mul_le_mul_of_nonneg_right->zAJ,toNat_natCast->zAK,add_mul_emod_self_right->zAX,emod_eq_of_lt->zBT,natCast_zero->zBW,natCast_mul->zCL,reduceNeg->zCS,reduceGE->zCW,lt_or_le->zCZ,add_comm->zDA,add_mul->zDB
open Go.Lib renaming hid->zO
open Classical renaming byContradiction->zAC
open And renaming intro->zAM
open Array renaming replicate_succ->zBJ,replicate_zero->zBK
open Option renaming getD_some->zCB
open Go
namespace Go.Proofs.YthclbjjgfcgbgaaGreatDoor
section
def chTo(perm:Nat->Bool)(e n:Nat):List Nat:=(zW n).filter fun s=>decide (s≠0/\s&&&e=s)&&perm s
def chP(perm:Nat->Bool)(e:Nat):List Nat:=chTo perm e 16
def nxB(e s:Nat):Nat:=((s+4294967296-e)%4294967296)&&&e
set_option maxRecDepth 100000 in
theorem ybji:∀e,e<16->e≠0->(4294967296-e)&&&e≠0/\(4294967296-e)&&&e<16/\((4294967296-e)&&&e)&&&e=(4294967296-e)&&&e/\∀t,t<16->t≠0->t&&&e=t->(4294967296-e)&&&e<=t:=by decide +kernel
set_option maxRecDepth 100000 in
theorem ybnv:((zW 16).all fun e=>(zW 16).all fun s=>s==0 || !(s&&&e==s)||(nxB e s==0&&(zW 16).all fun t=>!(t&&&e==t)||zDC t s)||(zBP s (nxB e s)&&zBP (nxB e s) 16&&(nxB e s&&&e==nxB e s)&&(zW 16).all fun t=>!(t&&&e==t)||zDC t s||zDC (nxB e s) t))=true:=by decide +kernel
theorem ybtf(e:Nat)(k:e<16)(s:Nat)(l:s<16)(i:s≠0)(j:s&&&e=s):(nxB e s=0/\∀t,t<16->t&&&e=t->t<=s)\/(s<nxB e s/\nxB e s<16/\nxB e s&&&e=nxB e s/\∀t,t<16->t&&&e=t->s<t->nxB e s<=t):=by
 have h:=List.all_eq_true.1 (List.all_eq_true.1 ybnv e (List.mem_range.2 k)) s (List.mem_range.2 l);rw[zAH,zAH,zAH]at h;rcases h with((h|h)|h)|h
 .exact absurd (beq_iff_eq.1 h) i
 .rw[zAZ,beq_eq_false_iff_ne]at h;exact absurd j h
 .rw[zI,beq_iff_eq]at h;refine .inl ⟨h.1,fun t g f=>?_⟩;have:=List.all_eq_true.1 h.2 t (List.mem_range.2 g);rw[zAH,zAZ,beq_eq_false_iff_ne]at this;exact this.elim (fun q=>absurd f q) zU
 .rw[zI,zI,zI,beq_iff_eq]at h;obtain⟨⟨⟨a,b⟩,c⟩,d⟩:=h;have a:s+1<=nxB e s:=zU a;have b:nxB e s+1<=16:=zU b;refine .inr ⟨a,b,c,fun t g f m=>?_⟩;have:=List.all_eq_true.1 d t (List.mem_range.2 g);rw[zAH,zAH,zAZ,beq_eq_false_iff_ne]at this;rcases this with(q|q)|q
  .exact absurd f q
  .have:=zU q;omega
  .exact zU q
theorem ynb{perm:Nat->Bool}{e n:Nat}:∀d,(∀t,n<=t->t<n+d->¬(t≠0/\t&&&e=t))->chTo perm e (n+d)=chTo perm e n
 |0,_=>rfl
 | d+1,h=>by
   have b:=ynb (perm:=perm) d fun t a c=>h t a (by omega)
   rw[<-b,<-Nat.add_assoc];unfold chTo;rw[zBE,zAV];have:=h (n+d) (by omega) (by omega)
   simp only[zBV,decide_eq_false this,Bool.false_and,zAW,if_false,zCD,zCE]
theorem yckl{perm:Nat->Bool}{e s:Nat}(h:s≠0/\s&&&e=s):chTo perm e (s+1)=chTo perm e s++if perm s=true then[s]else[]:=by
 unfold chTo;rw[zBE,zAV];congr 1;cases a:perm s<;>simp only[zBV,decide_eq_true h,a,Bool.true_and,zCD]<;>rfl
theorem ybqe{perm:Nat->Bool}{e l:Nat}(h:∀t,t<l->¬(t≠0/\t&&&e=t)):chTo perm e l=[]:=by
 have:=ynb (perm:=perm) (n:=0) l fun t _ a=>h t (by omega)
 rw[zCT]at this;exact this
theorem ybrx{perm:Nat->Bool}{e n s:Nat}(h:s∈chTo perm e n):s<n/\s≠0/\s&&&e=s/\perm s=true:=by
 unfold chTo at h;rw[zCF,zCO,zI,decide_eq_true_iff]at h;exact⟨h.1,h.2.1.1,h.2.1.2,h.2.2⟩
theorem ybnr(perm:Nat->Bool)(e n:Nat):(chTo perm e n).Pairwise (· < ·):=List.Pairwise.filter _ List.pairwise_lt_range
theorem ybcy(perm:Nat->Bool)(e n:Nat):(chTo perm e n).length<=n:=by
 have:=zBG (fun s=>decide (s≠0/\s&&&e=s)&&perm s) (zW n);unfold chTo
 simpa using this
theorem ybqx(perm:Nat->Bool):chP perm 0=[]:=by
 unfold chP;refine ybqe fun t _ h=>h.1 ?_;rw[<-h.2,Nat.and_zero]
theorem ydyn{perm:Nat->Bool}{e:Nat}(f:e<16)(a:e≠0)(g:perm ((4294967296-e)&&&e)=true):chP perm e≠[]:=fun h=>by
 obtain⟨b,c,d,_⟩:=ybji e f a
 have:((4294967296-e)&&&e)∈chP perm e:=by
  unfold chP chTo;rw[zCF,zCO,zI,decide_eq_true_iff];exact⟨c,⟨b,d⟩,g⟩
 rw[h]at this;cases this
theorem ydkl{a b:Nat}(c:a<2^32)(d:b<2^32):IntKind.wrap .u32 ((a:Int)-(b:Int))=(((a+4294967296-b)%4294967296:Nat):Int):=by
 unfold IntKind.wrap;simp[IntKind.bits,IntKind.signed];omega
namespace Sh
open Ev Go.RowKit
def usO(F:Nat)(L:List Nat):Nat×Fam:=(F,.one (some ⟨77,false,1,L.length,fun i=>[.i .u32 ((L.getD i 0:Nat):Int)]⟩))
theorem ydiq(L:List Nat)(x:Nat){i:Nat}(a:i<L.length+1):(if i<L.length then[SV.i .u32 ((L.getD i 0:Nat):Int)]else zCP 1 (zCQ ((i-L.length)*1) [SV.i .u32 (x:Int)]))=[SV.i .u32 (((L++[x]).getD i 0:Nat):Int)]:=by
 by_cases q:i<L.length
 .rw[if_pos q];simp[zN,zBA q]
 .obtain rfl:i=L.length:=by omega
  rw[if_neg q,zAE];simp[zN]
set_option maxHeartbeats 1000000 in
theorem ybny{net:List Nat}{kind:Int}(O:kind=2\/kind=3){e:Nat}(v:e<16){perm:Nat->Bool}(j:∀s,s≠0->s<16->s&&&e=s->Returns zG 171 [usV net,.i .i64 kind,.i .u32 (e:Nat),.i .u32 (s:Nat)] (.b (perm s))) :
 Returns zG 128 [usV net,.i .i64 kind,.i .u32 (e:Nat)] (.tp [usV (chP perm e),.i .i64 0]):=by
 refine Returns.of (ydod _ _ ?_)
 by_cases D:e=0
 .subst D;rw[ybqx];simp only[c128,ycix,yche,ydai,usV,clash,zBW,go_sem,zA,zB];exact ybbj ⟨ybee,Sim.refl _,trivial⟩
 .have U : ((e:Int)==0)=false:=by rw[beq_eq_false_iff_ne];omega
  have Q:(kind==1)=false:=by rw[beq_eq_false_iff_ne];omega
  have R:(kind==4)=false:=by rw[beq_eq_false_iff_ne];omega
  have M:=ybpn (s:=e) (by omega)
  have P:popP e<=10:=(by decide +kernel:∀e,e<16->popP e<=10) e v
  have d1:decide (((popP e:Nat):Int)>10)=false:=by simp;omega
  have K:=u32_neg (a:=e) (by omega) (by omega)
  have q:=u32_and (a:=2^32-e) (b:=e) (by omega) (by omega)
  simp only[IntKind.bits]at q;obtain⟨x,H,I,J⟩:=ybji e v D
  change ((4294967296-e)&&&e)≠0 at x
  obtain⟨l,F⟩:∃l,(4294967296-e)&&&e=l:=⟨_,rfl⟩;have w:(2^32-e)&&&e=l:=F;rw[F]at x H I J;rw[w]at q;simp only[c128,ycix,yche,ycuc,ycvu,ydeq,ycgg,ychn,usV,U,Q,R,clash,go_sem,zA,zB,zC];refine M.use ?_;simp only[ybk,ycci,d1,K,q,IntKind.signed,clash,go_sem,zA,zB]
  refine ybf (σ:=Nat×List Nat) (fun y=>⟨[(10,.i .u32 (y.1:Nat)),(8,.pt (8,0) 0 0),(0,usV net),(1,.i .i64 kind),(2,.i .u32 (e:Nat))],[(8,.one (some ⟨38,true,1,1,fun _=>[.os (70,0) 0 y.2.length true]⟩)),usO 70 y.2]⟩)
   (fun y=>(y.1=0/\y.2=chP perm e)\/(y.1≠0/\y.1<16/\y.1&&&e=y.1/\y.2=chTo perm e y.1)) (fun y=>if y.1=0 then 0 else 16-y.1) (l,[]) (.inr ⟨x,H,I,(ybqe fun t V h=>by have:=J t (by omega) h.1 h.2;omega).symm⟩) ?_ ?_
  .refine yby [] [70] [] ?_;simp only[usV,usO,wk,go_sem,zA,zC,zF];exact fun i _=>⟨(70,0),rfl,rfl,rfl⟩
  .rintro⟨s,L⟩ f;simp only at f;rcases f with⟨rfl,rfl⟩|⟨g,k,o,rfl⟩
   .simp only[ybll,ycac,usV,usO,zBW,zS,clash,go_sem,zA,zB];exact Sim.refl _
   .simp only at g k o ⊢;have d2:((s:Int)!=0)=true:=by rw[bne_iff_ne];omega
    have C:=ydkl (a:=s) (b:=e) (by omega) (by omega)
    have m:=u32_and (a:=(s+4294967296-e)%4294967296) (b:=e) (by omega) (by omega)
    change _=((nxB e s:Nat):Int)at m
    simp only[IntKind.bits]at m;have E:=j s g k o;have c:=yckl (perm:=perm) ⟨g,o⟩;have u:=ybcy perm e s
    have d:∀L,L=chTo perm e (s+1)->((nxB e s=0/\L=chP perm e)\/(nxB e s≠0/\nxB e s<16/\nxB e s&&&e=nxB e s/\L=chTo perm e (nxB e s)))/\(if nxB e s=0 then 0 else 16-nxB e s)<(if s=0 then 0 else 16-s):=fun L p=>by
     subst p;rw[if_neg g];rcases ybtf e v s k g o with⟨z,A⟩|⟨z,A,S,T⟩
     .refine⟨.inl ⟨z,?_⟩,by rw[if_pos z];omega⟩
      have:=ynb (perm:=perm) (e:=e) (n:=s+1) (16-(s+1)) fun t g k h=>by have:=A t (by omega) h.2;omega
      rw[show s+1+(16-(s+1))=16 by omega]at this
      exact this.symm
     .refine⟨.inr ⟨by omega,A,S,?_⟩,by rw[if_neg (by omega)];omega⟩
      have:=ynb (perm:=perm) (e:=e) (n:=s+1) (nxB e s-(s+1)) fun t g k h=>by have:=T t (by omega) h.2 (by omega);omega
      rw[show s+1+(nxB e s-(s+1))=nxB e s by omega]at this
      exact this.symm
    obtain⟨L,p⟩:∃L,chTo perm e s=L:=⟨_,rfl⟩;obtain⟨B,r⟩:∃L,chTo perm e (s+1)=L:=⟨_,rfl⟩;rw[p]at u c;rw[r]at c d;simp only[usV]at E;simp only[ybll,ychi,usV,usO,d2,p,clash,go_sem,zA,zB];refine E.use ?_;cases G:perm s with
    | true =>
      rw[G,if_pos rfl]at c;simp only[ybk,ybnp,ybxz,C,m,clash,go_sem,zA,zB,zD,zC]
      repeat refine ybe ?_
      refine yj (nxB e s,B) (d _ rfl).1 (d _ rfl).2 ?_;refine yby [(70,fun i=>(51,i))] [] [] ?_;simp only[c,zV,wk,go_sem,zA,zC];exact fun i N=>ygd (ydiq L s N)
    | false =>
      rw[G,if_neg (by decide),zCE]at c
      simp only[ybk,ybnp,C,m,clash,go_sem,zA,zB]
      repeat refine ybe ?_
      refine yj (nxB e s,B) (d _ rfl).1 (d _ rfl).2 ?_;refine yx ?_;simp only[c,wk,go_sem,zA,zC]
theorem ybqb{s e:Nat}(h:s&&&e=s):difB s e=0:=by
 unfold difB;rw[h,Nat.xor_self]
end Sh
end
section
namespace Ev
open Go Go.RowKit
noncomputable def ybfw(m:Mem)(A:Addr):Option Value:=match A.spot,m.b.get A.block with
 |none,some (.cells c n _ _)=>bif zBP A.off n then c.get A.off else none
 |_,_=>none
section
variable {φ φ':Phi}{M:AM}{w:World}{m:Mem}
theorem yben{A:Addr}{v box:Value}(h:ybfw m A=some v)(r:VR φ (.pointer (some A)) box)(i:Rel φ M w)(p:Sub m M) :
 ∃b o s,box = .pointer (some ⟨b,o,none⟩)/\w.cell? ⟨b,o,none⟩=some s/\VR φ v s:=by
 unfold ybfw at h;split at h
 .rename_i c n e z q j
  rw[Bool.cond_eq_ite]at h;split at h
  .rename_i a
   have a:A.off<n:=zU a;obtain⟨F,x,y,B,d,C,D,_,f,E,g⟩:=i.cellsAt (p _ _ j);obtain⟨s,t,u⟩:=g _ _ a h;cases r with
   |simple l=>cases l
   | ptr k =>
     rw[k]at d;cases d
     exact⟨_,_,s,rfl,cell_of f t,u⟩
  .cases h
 .cases h
end
abbrev ydqe(x:Int×Int):Value:=.agg #[.int .i64 x.1,.int .i64 x.2]
set_option maxRecDepth 100000 in
set_option maxHeartbeats 1000000 in
theorem ycpe{A:Addr}{v:Value}{us:List Value}:ItOk zG 133 [.pointer (some A)]
 ⟨us.length,fun k=>[.int .i64 ((us.length-1-k:Nat):Int),us.getD (us.length-1-k) undef],fun _ m=>ybfw m A=some v/\∃ft,rowOf m 1 v=some (us,ft),fun _ m=>m,fun _ _ M w R w'=>R=M/\w'=w⟩:=by
 refine⟨fun E w=>ycc yur zCU rfl E w,fun k m hk hw _=>Grow.refl hw,?_,?_⟩
 .rintro k φ M w m R w' hk hw G K hp ⟨rfl,rfl⟩;exact Good.refl G K
 .intro l St a2 φ M w a3 a C d U H;obtain⟨box,rfl,f⟩:=yha H;obtain⟨m,G,K,N,ft,O⟩:=(a 0 φ M w U).2;obtain⟨b,o,s,rfl,V,L⟩:=yben N f G K;obtain⟨As,cs,rfl,b0,b1⟩:=ycj (ycyu O L G K);have Hread:=zO a;have Hyield:=zO d;have Hbox:=zO f;have H0:=zO U
  clear a C d L U f G K N O
  refine callsIn_of_wp zCU rfl trivial ?_
  simp only[Tryz.ntmps133,zBQ,zBX,zCG,zB,zCR,zBJ,
   zBK,zBR,zBN,zCH,zBY]
  gi_wp2
  gi_loopg [3] us.length (fun q t wr=>∃k:Nat,q+k=us.length/\t = .int .i64 ((us.length:Int)-1-k)/\Hid (∃φ' R,φ.le φ'/\St k φ' R wr))
  case atStart=>exact⟨0,by omega,by simp,zO ⟨φ,M,φ.le_refl,H0.out⟩⟩
  case round =>
   obtain⟨k,hq,rfl,D⟩:=hrel
   by_cases X:k<us.length
   .obtain⟨Q,M1,g,c⟩:=D.out;obtain⟨m1,z,h,N,a7,O⟩:=(Hread.out _ _ _ _ c).2;obtain⟨b',o',s',e1,S,y⟩:=yben N (Hbox.out.mono g) z h;cases e1
    obtain⟨a5,a6,rfl,e2,e3,e4⟩:=ycyu O y z h;obtain⟨rb,ro,rfl,a9,e5⟩:=e4 (by omega)
    obtain⟨j,hj⟩:∃j,us.length-1-k=j:=⟨_,rfl⟩;have W:(us.length:Int)-1-k=(j:Int):=by omega
    have I:j<us.length:=by omega
    rw[W];obtain⟨r,Y,J⟩:=e5 j _ (zM I);rw[zBU]at Y;have a8:(decide ((j:Int)>=0))=true:=by simp
    obtain⟨fn,P,n,F,T,B⟩:=Hyield.out k Q M1 wr [.int .i64 (j:Int),r] X c (by
     show VRL Q [.int .i64 ((us.length-1-k:Nat):Int),us.getD (us.length-1-k) undef] _;rw[hj,Sh.getD_at I];exact .cons (.simple rfl) (.cons J .nil))
    have T:(Instr.yield l #[.int .i64 (j:Int),r]).run zG wr = .ok (.round l fn P n F) wr:=T;have a1:=zO c;have Hle1:=zO g
    clear D c g N O z h y e5 e4 J
    gi_wp2
    refine B.mono ?_;rintro e W3 (⟨rfl,a0,M3,p,_,x⟩|⟨rfl,i⟩)
    .have Hst3:=zO (x _ _ ⟨rfl,rfl⟩);have Hle3:=zO p
     clear x p B T
     gi_wp2
     gi_roundg (gk-1)
     case measure=>omega
     case rel =>
      refine⟨k+1,by omega,?_,zO ⟨a0,M3,Phi.le_trans Hle1.out Hle3.out,Hst3.out⟩⟩
      congr 1;omega
    .have Hstop:=zO i
     clear i B T
     gi_wp2
     refine bodyPost_ret (results_none rfl _ _ _) rfl ?_;exact⟨⟨_,rfl⟩,.inr Hstop.out⟩
   .gi_wp2
    obtain⟨Z,M2,a4,u⟩:=D.out
    go_end0
    have hk:k=us.length:=by omega
    rw[hk]at u;exact⟨⟨_,rfl⟩,.inl ⟨Z,M2,u⟩⟩
set_option maxRecDepth 100000 in
set_option maxHeartbeats 1000000 in
theorem ycnl{A:Addr}{v:Value}{ls:List (Int×Int)}:ItOk zG 134 [.pointer (some A)]
 ⟨ls.length,fun k=>[.int .i64 ((ls.length-1-k:Nat):Int),ydqe (ls.getD (ls.length-1-k) (0,0))],fun _ m=>ybfw m A=some v/\ypc m v=some ls,fun _ m=>m,fun _ _ M w P w'=>P=M/\w'=w⟩:=by
 refine⟨fun E w=>ycc yur zCV rfl E w,fun k m hk hw _=>Grow.refl hw,?_,?_⟩
 .rintro k φ M w m P w' hk hw G I hp ⟨rfl,rfl⟩;exact Good.refl G I
 .intro l St a1 φ M w a2 a C d S H;obtain⟨box,rfl,f⟩:=yha H;obtain⟨m,G,I,K,L⟩:=(a 0 φ M w S).2;obtain⟨b,o,s,rfl,T,J⟩:=yben K f G I;obtain⟨As,cs,rfl,b0,b1⟩:=ycj (ytf L J G I);have Hread:=zO a;have Hyield:=zO d;have Hbox:=zO f;have H0:=zO S
  clear a C d J S f G I K L
  refine callsIn_of_wp zCV rfl trivial ?_
  simp only[Tryz.ntmps134,zBQ,zBX,zCG,zB,zCR,zBJ,
   zBK,zBR,zBN,zCH,zBY]
  gi_wp2
  gi_loopg [3] ls.length (fun q t wr=>∃k:Nat,q+k=ls.length/\t = .int .i64 ((ls.length:Int)-1-k)/\Hid (∃φ' P,φ.le φ'/\St k φ' P wr))
  case atStart=>exact⟨0,by omega,by simp,zO ⟨φ,M,φ.le_refl,H0.out⟩⟩
  case round =>
   obtain⟨k,hq,rfl,D⟩:=hrel
   by_cases W:k<ls.length
   .obtain⟨O,M1,g,c⟩:=D.out;obtain⟨m1,z,h,K,L⟩:=(Hread.out _ _ _ _ c).2;obtain⟨b',o',s',e1,Q,y⟩:=yben K (Hbox.out.mono g) z h;cases e1
    obtain⟨a4,a5,rfl,e2,e3,e4⟩:=ytf L y z h;obtain⟨rb,ro,rfl,a9,e5⟩:=e4 (by omega)
    obtain⟨j,hj⟩:∃j,ls.length-1-k=j:=⟨_,rfl⟩;have U:(ls.length:Int)-1-k=(j:Int):=by omega
    have V:j<ls.length:=by omega
    rw[U];obtain⟨x,hx⟩:∃x,ls[j]?=some x:=⟨_,zM V⟩;obtain⟨a6,a7,_,_⟩:=e5 j x hx;have X:ls.getD j (0,0)=x:=by simp[zN,hx]
    have a8:(decide ((j:Int)>=0))=true:=by simp
    obtain⟨fn,N,n,F,R,B⟩:=Hyield.out k O M1 wr [.int .i64 (j:Int),.agg #[.int .i64 x.1,.int .i64 x.2]] W c (by
     show VRL O [.int .i64 ((ls.length-1-k:Nat):Int),ydqe (ls.getD (ls.length-1-k) (0,0))] _;rw[hj,X];exact .cons (.simple rfl) (.cons (VR.ydi (v:=ydqe x) rfl) .nil))
    have R:(Instr.yield l #[.int .i64 (j:Int),.agg #[.int .i64 x.1,.int .i64 x.2]]).run zG wr = .ok (.round l fn N n F) wr:=R;have a0:=zO c;have Hle1:=zO g
    clear D c g K L z h y e5 e4
    gi_wp2
    refine B.mono ?_;rintro e W3 (⟨rfl,Z,M3,p,_,u⟩|⟨rfl,i⟩)
    .have Hst3:=zO (u _ _ ⟨rfl,rfl⟩);have Hle3:=zO p
     clear u p B R
     gi_wp2
     gi_roundg (gk-1)
     case measure=>omega
     case rel =>
      refine⟨k+1,by omega,?_,zO ⟨Z,M3,Phi.le_trans Hle1.out Hle3.out,Hst3.out⟩⟩
      congr 1;omega
    .have Hstop:=zO i
     clear i B R
     gi_wp2
     refine bodyPost_ret (results_none rfl _ _ _) rfl ?_;exact⟨⟨_,rfl⟩,.inr Hstop.out⟩
   .gi_wp2
    obtain⟨Y,M2,a3,r⟩:=D.out
    go_end0
    have hk:k=ls.length:=by omega
    rw[hk]at r;exact⟨⟨_,rfl⟩,.inl ⟨Y,M2,r⟩⟩
end Ev
namespace Sh
open Ev
def bwdS(n:Nat)(e:Nat->SV):ItS:=⟨n,fun k=>[.i .i64 ((n-1-k:Nat):Int),e (n-1-k)],[],fun _ _=>True,fun _ o=>o⟩
theorem ybko{ls:List (Int×Int)}(t:∀l∈ls,I64 l.1/\I64 l.2):ItC zG 134 [.rf [ybb ls]] (bwdS ls.length fun k=>.ag [.i .i64 (ls.getD k (0,0)).1,.i .i64 (ls.getD k (0,0)).2]):=by
 intro H F O s f m J G x _;obtain⟨u,rfl,y⟩:=rvl1 x;obtain⟨j,p,T,N,e,K,L,rfl,n,o,q,r,E⟩:=y.rf_inv;obtain⟨v,rfl,z⟩:=rvl1 r;have h:RV F om0 (ybb ls) v:=z
 have c:∀d:Mem,Le F d.b.get->ybfw d ⟨j,p,none⟩=some v:=fun d g=>by
  unfold ybfw;simp only;rw[g _ _ n];simp only;rw[show zBP p N=true from zBH (show p+1<=N by simp at o;omega)]
  simp only[cond_true];exact q 0 (by simp)
 exact⟨_,ycnl (A:=⟨j,p,none⟩) (v:=v) (ls:=ls),rfl,fun C B I D d k g _ a hk _=>⟨⟨c d (g.trans a.sub),ybui (g.trans a.sub) h t⟩,fun hk=>⟨.cons .i (.cons (.ag (.cons .i (.cons .i .nil))) .nil),a⟩⟩⟩
theorem ybgo{n:Nat}{e:Nat->SV}:ItC zG 133 [.rf [.sl 1 n fun k=>[e k]]] (bwdS n e):=by
 intro O F ω s f m us hc hr _;obtain⟨u,rfl,hu⟩:=rvl1 hr;obtain⟨C,p,T,N,ee,zz,L,rfl,X,Y,Z,h4,h5⟩:=hu.rf_inv;obtain⟨v,rfl,J⟩:=rvl1 h4
 have r:∀c:Mem,Le F c.b.get->ybfw c ⟨C,p,none⟩=some v:=fun c g=>by
  unfold ybfw;simp only;rw[g _ _ X];simp only;rw[show zBP p N=true from zBH (show p+1<=N by simp at Y;omega)]
  simp only[cond_true];exact Z 0 (by simp)
 have d:∀(us:List Value) (G:List Nat),(∀m:Mem,Le F m.b.get->rowOf m 1 v=some (us,G))->us.length=n->(∀(k:Nat) x,us[k]?=some x->RV F om0 (e k) x) ->
  ∃ T : It,ItOk zG 133 [.pointer (some ⟨C,p,none⟩)] T/\T.n=n /\
    ∀ (l:AM) (a:Om) (y:SS) (E:Fr) (c:Mem) (k:Nat),Le F l->(∀P∈(bwdS n e).pr,∀x,ω P=some x->a P=some x)->Conc O l a y E c->k<=n->(bwdS n e).own k y.o ->
      T.pre k c/\(k<n->RVL l a ((bwdS n e).el k) (T.el k)/\Conc O l a ⟨y.f,(bwdS n e).adv k y.o⟩ E (T.adv k c)):=fun us G t hl I=>by
  subst hl;refine⟨_,ycpe (A:=⟨C,p,none⟩) (v:=v) (us:=us),rfl,fun l a y E c k g _ j hk _=>⟨⟨r c (g.trans j.sub),G,t c (g.trans j.sub)⟩,fun hk=>⟨.cons .i (.cons ?_ .nil),j⟩⟩⟩;have K:us.length-1-k<us.length:=by omega
  have h:=I (us.length-1-k) _ (zM K);rw[getD_at K];exact h.mono g (ytx _)
 rcases J.sl_inv with⟨k0,hz⟩|⟨D,p',cp,T',N',e',a0,Q,rfl,S,g2,U,z,V,W,g7⟩
 .subst k0;exact d [] [] (fun m _=>row_zero hz 1) rfl (fun k x q=>by simp at q)
 .rcases Nat.eq_zero_or_pos n with H|H
  .subst H;exact d [] [] (fun m _=>rfl) rfl (fun k x q=>by simp at q)
  .refine d (ycx Q n) [D] (fun m g=>row_of (g _ _ S) H U z V) (by rw[ydj z,zBU]) fun k x B=>?_
   have hk:k<n:=by
    have:=(List.getElem?_eq_some_iff.1 B).1;rw[ydj z,zBU]at this;exact this
   rw[ycfn z hk]at B;obtain⟨v,R,J⟩:=rvl1 (W k hk);rw[R]at B;cases B
   exact J
theorem ybhc{n:Nat}{e:Nat->SV}:Returns zG 67 [.sl 1 n fun k=>[e k]] (.fn 133 [] [.rf [.sl 1 n fun k=>[e k]]]):=by
 refine Returns.of (yehb _ _ ?_);simp only[c67,ydzx,yeca,go_sem,zA,zB,zD,zC];exact Sim.refl _
theorem ybfu{ls:List (Int×Int)}:Returns zG 68 [ybb ls] (.fn 134 [] [.rf [ybb ls]]):=by
 refine Returns.of (ydwh _ _ ?_);simp only[c68,ydus,ydqj,go_sem,zA,zB,zD,zC];exact Sim.refl _
end Sh
end
section
def ypm(S:Spc)(p s t:Nat):Nat:=difB p s&&&S.en t
def ygq(S:Spc)(p s t:Nat):Nat:=if ypm S p s t=0 then S.en t else ypm S p s t
namespace Sh
open Ev Go.RowKit
theorem ywo{S:Spc}(h:S.ok){k p s t:Nat}(e:p<2^32)(j:s<2^32)(l:t<S.N) :
 Returns zG 76 [.ag (spcC S),.ag [.i .i64 (k:Nat),.i .u32 (p:Nat)],.ag [.i .u32 (s:Nat),.i .i64 (t:Nat)]] (.tp [.ag [.i .i64 (t:Nat),.i .u32 (ygq S p s t:Nat)],.b (decide (ypm S p s t=0))]):=by
 refine Returns.of (ydyx _ _ ?_);have g:=h.le;have n:=h.lt t l;have d:=u32_andNot (a:=p) (b:=s) e j;have f:difB p s<2^32:=yxv e;have c:=u32_and (a:=difB p s) (b:=S.en t) f (by omega)
 change _=((ypm S p s t:Nat):Int)at c
 simp only[IntKind.bits]at d c;obtain⟨x,m⟩:∃x,ypm S p s t=x:=⟨_,rfl⟩;unfold ygq;rw[m]at c ⊢
 by_cases q:x=0
 .have d1:((x:Int)==0)=true:=by rw[q];rfl
  rw[if_pos q,decide_eq_true q];simp only[c76,ydks,ydnp,ydkj,yefa,spcC,ybl,d,c,d1,splice,clash,go_sem,zA,zB,zD,zC]
  repeat refine ybe ?_
  exact Sim.refl _
 .have d1:((x:Int)==0)=false:=by rw[beq_eq_false_iff_ne];omega
  rw[if_neg q,decide_eq_false q];simp only[c76,ydks,ydnp,ydkj,yebr,spcC,ybl,d,c,d1,splice,clash,go_sem,zA,zB,zD,zC]
  repeat refine ybe ?_
  exact Sim.refl _
def ygy(Q:List (Nat×Nat)):Fam:=.one (some ⟨109,false,2,Q.length,fun i=>[.i .i64 ((Q.getD i (0,0)).1:Nat),.i .u32 ((Q.getD i (0,0)).2:Nat)]⟩)
def yga(N:Nat)(lg:Nat->Bool)(seen:Nat->Bool)(Q:List (Nat×Nat)):Own :=
 [(301,.one (some ⟨45,true,1,1,fun _=>[ybd N lg]⟩)),(302,.one (some ⟨166,true,1,1,fun _=>[.mr (303,0)]⟩)),(303,.one (some ⟨CU,true,0,0,fun c=>[.b (seen c)]⟩)),
  (304,.one (some ⟨167,true,1,1,fun _=>[.os (305,0) 0 Q.length true]⟩)),(305,ygy Q)]
def addS(seen:Nat->Bool)(c:Nat):Nat->Bool:=fun d=>if d=c then true else seen d
theorem ycgr(Q:List (Nat×Nat))(x:Nat×Nat){i:Nat}(a:i<Q.length+1):(if i<Q.length then[SV.i .i64 ((Q.getD i (0,0)).1:Nat),SV.i .u32 ((Q.getD i (0,0)).2:Nat)]else zCP 2 (zCQ ((i-Q.length)*2) [SV.i .i64 (x.1:Int),SV.i .u32 (x.2:Int)]))=[SV.i .i64 (((Q++[x]).getD i (0,0)).1:Nat),SV.i .u32 (((Q++[x]).getD i (0,0)).2:Nat)]:=by
 by_cases q:i<Q.length
 .rw[if_pos q];simp[zN,zBA q]
 .obtain rfl:i=Q.length:=by omega
  rw[if_neg q,zAE];simp[zN]
theorem yqt{h:Nm->Nm}{a:List Nat}{c O:Own}{X:List SV}{k b:IntKind}{x y:Int}(e:X=[.i k x,.i b y]):telL h a [] c O X [.i k x,.i b y]:=by
 subst e;exact⟨.inl ⟨(yir _ _ _).2 trivial,by rw[yew];exact Sim.refl _,rfl⟩,rfl,.inl ⟨(yir _ _ _).2 trivial,by rw[yew];exact Sim.refl _,rfl⟩,rfl,trivial⟩
theorem yeie(x:Bool):mval 0 (.b x)=true:=rfl
theorem yehu(n:Int):mval 1 (.i .i64 n)=true:=rfl
set_option maxHeartbeats 1000000 in
theorem ydwk{N:Nat}{lg:Nat->Bool}{seen:Nat->Bool}{Q:List (Nat×Nat)}(f:Q.length<=300000){k s:Nat}(hk:k<N)(d:N<=32768)(g:s<2^32) :
 Cm zG 137 [(301,0),(302,0),(304,0)] (yga N lg seen Q) [.ag [.i .i64 (k:Nat),.i .u32 (s:Nat)],.pt (301,0) 0 0,.pt (302,0) 0 0,.pt (304,0) 0 0]
  fun r o=>r = .tp []/\o=if lg k=false/\seen (mkey k s)=false then yga N lg (addS seen (mkey k s)) (Q++[(k,s)])else yga N lg seen Q:=by
 refine ycpd [(301,0),(302,0),(304,0)] [] _ _ _ ?_;cases c:lg k with
 | true =>
   rw[if_neg (fun q=>by cases q.1)]
   simp only[c137,ybsg,ybqa,yga,ygy,ybd,c,clash,yhs,go_sem,zA,zB,zD,zC]
   repeat refine ybe ?_
   refine⟨.tp [],yga N lg seen Q,?_,?_,rfl,rfl⟩
   .refine ybo [] [] [] ?_;simp only[yga,ygy,ybd,wk,go_sem,zA,zC]
   .simp only[yga,ygy,ybd,ycp,yfq,wk,go_sem,zA]
 | false =>
   cases a:seen (mkey k s)with
   | true =>
     rw[if_neg (fun q=>by cases q.2)]
     simp only[c137,ybsg,ybqa,yga,ygy,ybd,c,a,clash,zAP,yhs,go_sem,zA,zB,zD,zC]
     repeat refine ybe ?_
     refine⟨.tp [],yga N lg seen Q,?_,?_,rfl,rfl⟩
     .refine ybo [] [] [] ?_;simp only[yga,ygy,ybd,wk,go_sem,zA,zC]
     .simp only[yga,ygy,ybd,ycp,yfq,wk,go_sem,zA]
   | false =>
     rw[if_pos ⟨rfl,rfl⟩];simp only[c137,ybsg,ybqa,ycxw,ydga,yga,ygy,ybd,c,a,splice,clash,zAP,yeie,yhs,go_sem,zA,zB,zD,zC]
     repeat refine ybe ?_
     refine⟨.tp [],yga N lg (addS seen (mkey k s)) (Q++[(k,s)]),?_,?_,rfl,rfl⟩
     .refine ybo [(305,fun i=>(22,i))] [] [] ?_;simp only[yga,ygy,ybd,zV,wk,go_sem,zA,zC];refine⟨⟨fun i=>?_,fun i b=>absurd b (by omega)⟩,fun i b=>yqt (ycgr Q (k,s) b)⟩
      unfold addS
      by_cases e:i=mkey k s
      .rw[if_pos e,if_pos e]
      .rw[if_neg e,if_neg e]
     .simp only[yga,ygy,ybd,ycp,yfq,wk,go_sem,zA]
def yyy(lg:Nat->Bool)(x:(Nat->Bool)×List (Nat×Nat))(k s:Nat):(Nat->Bool)×List (Nat×Nat):=if lg k=false/\x.1 (mkey k s)=false then(addS x.1 (mkey k s),x.2++[(k,s)])else x
theorem ybfi{N:Nat}{lg:Nat->Bool}{x:(Nat->Bool)×List (Nat×Nat)}(d:x.2.length<=300000){k s:Nat}(hk:k<N)(c:N<=32768)(e:s<2^32) :
 Cm zG 137 [(301,0),(302,0),(304,0)] (yga N lg x.1 x.2) [.ag [.i .i64 (k:Nat),.i .u32 (s:Nat)],.pt (301,0) 0 0,.pt (302,0) 0 0,.pt (304,0) 0 0]
  fun r o=>r = .tp []/\o=yga N lg (yyy lg x k s).1 (yyy lg x k s).2:=by
 refine(ydwk d hk c e).mono fun r o ⟨a,b⟩=>⟨a,b.trans ?_⟩;unfold yyy
 by_cases q:lg k=false/\x.1 (mkey k s)=false
 .rw[if_pos q,if_pos q]
 .rw[if_neg q,if_neg q]
structure QI(N n:Nat)(lg:Nat->Bool)(x:(Nat->Bool)×List (Nat×Nat)):Prop where
 nd:x.2.Nodup
 lt:∀p∈x.2,p.1<N/\p.2<2^n/\lg p.1=false
 seen:∀p∈x.2,x.1 (mkey (p.1:Nat) (p.2:Nat))=true
theorem QI.start(N n:Nat)(lg:Nat->Bool):QI N n lg (fun _=>false,[]):=⟨List.nodup_nil,fun _ h=>(nomatch h),fun _ h=>(nomatch h)⟩
theorem QI.step{N n:Nat}{lg:Nat->Bool}{x:(Nat->Bool)×List (Nat×Nat)}(h:QI N n lg x){k s:Nat}(hk:k<N)(g:s<2^n):QI N n lg (yyy lg x k s):=by
 unfold yyy
 by_cases q:lg k=false/\x.1 (mkey k s)=false
 .rw[if_pos q];refine⟨List.nodup_append.2 ⟨h.nd,List.pairwise_singleton _ _,fun a d b f=>?_⟩,fun p c=>?_,fun p c=>?_⟩
  .rw[List.mem_singleton.1 f];rintro rfl;have:=h.seen _ d;rw[q.2]at this;cases this
  .rcases List.mem_append.1 c with r|r
   .exact h.lt p r
   .rw[List.mem_singleton.1 r];exact⟨hk,g,q.1⟩
  .show(if _ then true else _)=true
   split
   .rfl
   .rcases List.mem_append.1 c with r|r
    .exact h.seen p r
    .rename_i e
     rw[List.mem_singleton.1 r]at e;exact absurd rfl e
 .rw[if_neg q];exact h
theorem ybri{lg:Nat->Bool}{x:(Nat->Bool)×List (Nat×Nat)}{k s:Nat}:x.2.length<=(yyy lg x k s).2.length:=by
 unfold yyy;split
 .show _<=(x.2++[(k,s)]).length;rw[zV];omega
 .exact zAD _
theorem QI.len{N n:Nat}{lg:Nat->Bool}{x:(Nat->Bool)×List (Nat×Nat)}(h:QI N n lg x):x.2.length<=N*2^n:=by
 have g:∀p∈x.2,∀q∈x.2,p.1*2^n+p.2=q.1*2^n+q.2->p=q:=fun p f q t e=>by
  have c:=(h.lt p f).2.1;have j:=(h.lt q t).2.1;have k:(p.1*2^n+p.2)/2^n=p.1:=by rw[zBB,zCI (zCJ n),zBZ c];omega
  have l:(q.1*2^n+q.2)/2^n=q.1:=by rw[zBB,zCI (zCJ n),zBZ j];omega
  have i:p.1=q.1:=by rw[<-k,e,l]
  refine Prod.ext i ?_;rw[i]at e;omega
 have s:(x.2.map fun p=>p.1*2^n+p.2).Nodup:=by
  unfold List.Nodup;rw[List.pairwise_map];exact h.nd.imp_of_mem fun {a b} o r d e=>d (g a o b r e)
 have:=ymf (l2:=zW (N*2^n)) s fun y u=>by
  obtain⟨p,f,rfl⟩:=List.mem_map.1 u;obtain⟨c,j,-⟩:=h.lt p f;refine List.mem_range.2 ?_;have m:(p.1+1)*2^n<=N*2^n:=Nat.mul_le_mul_right _ c;rw[Nat.add_mul]at m;omega
 simpa using this
end Sh
end
section
def tabT(n:Nat)(a:List VarR)(b:Nat->VarR->Int×Int):List (List (Int×Int)):=(zW n).map fun v=>a.map (b v)
theorem yib(n:Nat)(a:List VarR)(b:Nat->VarR->Int×Int):(tabT n a b).length=n:=by simp[tabT]
theorem ybnz{n:Nat}{a:List VarR}{b:Nat->VarR->Int×Int}{v:Nat}(c:v<n):(tabT n a b).getD v []=a.map (b v):=by simp[tabT,zN,c]
structure TabOk(T:List (List (Int×Int))):Prop where
 bd:bdT T
 sm:∀r∈T,∀b∈r,-1000000<=b.1/\b.2<=1000000
 len:T.length<=24
 row:∀r∈T,0<r.length/\r.length<=6
 tot:ybm T<=32768
theorem yji:∀(a b:List (Int×Int)),ybs (a++b)=ybs a*ybs b
 |[],b=>by simp[ybs]
 | x::a,b=>by
   show szP x*ybs (a++b)=szP x*ybs a*ybs b;rw[yji a b,zAY]
theorem yho:∀(a b:List (List (Int×Int))),ybm (a++b)=ybm a*ybm b
 |[],b=>by simp[ybm]
 | x::a,b=>by
   show ybs x*ybm (a++b)=ybs x*ybm a*ybm b;rw[yho a b,zAY]
def pTo(T:List (List (Int×Int)))(v i:Nat):Nat:=ybm (T.take v)*ybs ((T.getD v []).take i)
section
variable {T:List (List (Int×Int))}{v i:Nat}
theorem yiu{a:Type}{l:List a}{k:Nat}{d:a}(h:k<l.length):l.getD k d=l[k]:=by simp[zN,h]
theorem ycqu:pTo T 0 0=1:=by simp[pTo,ybm,ybs]
theorem ycrf(a:i<(T.getD v []).length):pTo T v (i+1)=pTo T v i*szP ((T.getD v []).getD i (0,0)):=by
 unfold pTo;rw[zAF a,yji,yiu a,zAY];simp[ybs]
theorem ycmc(a:v<T.length):pTo T v (T.getD v []).length=pTo T (v+1) 0:=by
 unfold pTo;rw[zCA,zAF a,yho,yiu a];simp[ybm,ybs]
theorem ydmq:pTo T T.length 0=ybm T:=by simp[pTo,ybs]
theorem ycip(h:bdT T):bdR (T.getD v []):=by
 by_cases a:v<T.length
 .rw[yiu a];exact h _ (zT _)
 .rw[zN,zBI (by omega)];exact fun _ h=>nomatch h
theorem ybwv(h:bdR (T.getD v []))(i:Nat):ybs ((T.getD v []).take i)<=ybs (T.getD v []):=by
 conv=>rhs;rw[<-zAL i (T.getD v []),yji]
 exact zBD _ (yly fun b a=>h b (zBL a))
theorem ydzt(h:bdT T)(a:v<T.length)(i:Nat):pTo T v i<=ybm T:=by
 have c:pTo T v i<=ybm (T.take (v+1)):=by
  rw[zAF a,yho];unfold pTo;have:=ybwv (T:=T) (v:=v) (ycip h) i;rw[yiu a]at this ⊢;have e:ybm [T[v]]=ybs T[v]:=by simp[ybm]
  rw[e];exact zAG _ this
 refine zQ c ?_
 conv=>rhs;rw[<-zAL (v+1) T,yho]
 exact zBD _ (yqu fun b d=>h b (zBL d))
theorem TabOk.at_(h:TabOk T)(f:v<T.length):(0<(T.getD v []).length/\(T.getD v []).length<=6)/\∀i,i<(T.getD v []).length->((T.getD v []).getD i (0,0)).1<=((T.getD v []).getD i (0,0)).2 /\ -1000000<=((T.getD v []).getD i (0,0)).1/\((T.getD v []).getD i (0,0)).2<=1000000:=by
 have e:=yiu (d:=[]) f;have a:T.getD v []∈T:=by rw[e];exact zT _
 refine⟨h.row _ a,fun i c=>?_⟩;have b:(T.getD v []).getD i (0,0)∈T.getD v []:=by rw[yiu c];exact zT _
 exact⟨h.bd _ a _ b,h.sm _ a _ b⟩
end
theorem ypf:∀{bs:List (Int×Int)}{xs:List Int},inR bs xs↔xs.length=bs.length/\∀i,i<bs.length->(bs.getD i (0,0)).1<=xs.getD i 0/\xs.getD i 0<=(bs.getD i (0,0)).2
 |[],[]=>⟨fun _=>⟨rfl,fun i h=>by simp at h⟩,fun _=>trivial⟩
 |[],_::_=>⟨fun h=>h.elim,fun h=>by simp at h⟩
 |_::_,[]=>⟨fun h=>h.elim,fun h=>by simp at h⟩
 | b :: bs,x::xs=>by
   show(_/\inR bs xs)↔_;rw[ypf];constructor
   .rintro⟨c,a,e⟩;refine⟨by simp[a],fun i d=>?_⟩
    cases i with
    |zero=>exact c
    |succ i=>exact e i (by simpa using d)
   .rintro⟨c,a⟩;exact⟨a 0 (by simp),by simpa using c,fun i d=>a (i+1) (by simpa using d)⟩
theorem ync:∀{rs:List (List (Int×Int))}{c:Conf},inT rs c↔c.length=rs.length/\∀v,v<rs.length->inR (rs.getD v []) (c.getD v [])
 |[],[]=>⟨fun _=>⟨rfl,fun i h=>by simp at h⟩,fun _=>trivial⟩
 |[],_::_=>⟨fun h=>h.elim,fun h=>by simp at h⟩
 |_::_,[]=>⟨fun h=>h.elim,fun h=>by simp at h⟩
 | b :: f,x::j=>by
   show(_/\inT f j)↔_;rw[ync];constructor
   .rintro⟨d,a,g⟩;refine⟨by simp[a],fun i e=>?_⟩
    cases i with
    |zero=>exact d
    |succ i=>exact g i (by simpa using e)
   .rintro⟨d,a⟩;exact⟨a 0 (by simp),by simpa using d,fun i e=>a (i+1) (by simpa using e)⟩
def tabP(p:ProgT)(g:Gr):List (List (Int×Int)):=tabT g.ids.length p.vars (ybi g)
theorem yjf{p:ProgT}{g:Gr}{c:Conf}:yef p g c=true↔inT (tabP p g) c:=by
 unfold yef;rw[ygi,ync];unfold tabP;rw[yib];refine and_congr_right fun r=>⟨fun h v j=>?_,fun h v n e=>?_⟩
 .rw[ybnz j];obtain⟨a,k⟩:=h v (c.getD v []) (by rw[yiu (by omega)];exact zM (by omega))
  refine ypf.2 ⟨a,fun i f=>?_⟩;have a:(c.getD v []).length=(p.vars.map (ybi g v)).length:=a;have d:i<(c.getD v []).length:=by omega
  exact k i _ _ (by rw[yiu f];exact zM f) (by rw[yiu d];exact zM d)
 .have j:v<g.ids.length:=by have:=(List.getElem?_eq_some_iff.1 e).1;omega
  have a:=h v j;rw[ybnz j,show c.getD v []=n by simp[zN,e]]at a
  obtain⟨k,o⟩:=ypf.1 a;refine⟨k,fun i b x m q=>?_⟩;have f:=(List.getElem?_eq_some_iff.1 m).1;have l:=o i f;rw[show(p.vars.map (ybi g v)).getD i (0,0)=b by simp only[zN,m,zCB],show n.getD i 0=x by simp only[zN,q,zCB]]at l
  exact l
end
section
theorem yblo:∀(bs:List (Int×Int)) (k:Nat),(unR bs k).1.length=bs.length
 |[],_=>rfl
 |b::bs,k=>by show(unR bs k).1.length+1=_;rw[yblo bs k];rfl
theorem ybxb:∀(rs:List (List (Int×Int))) (k:Nat),(unT rs k).1.length=rs.length
 |[],_=>rfl
 |r::rs,k=>by show(unT rs k).1.length+1=_;rw[ybxb rs k];rfl
theorem ycgd:∀(rs:List (List (Int×Int))) (k v:Nat),v<rs.length->((unT rs k).1.getD v []).length=(rs.getD v []).length
 |[],_,_,h=>by simp at h
 |r::rs,k,0,_=>yblo r _
 |r::rs,k,v+1,h=>ycgd rs k v (by simpa using h)
def rowU(bs:List (Int×Int))(k x t:Nat):Int:=if t<bs.length-x then(bs.getD t (0,0)).1 else(unR (bs.drop (bs.length-x)) k).1.getD (t-(bs.length-x)) 0
def kU(bs:List (Int×Int))(k x:Nat):Nat:=(unR (bs.drop (bs.length-x)) k).2
theorem ydii(bs:List (Int×Int))(k:Nat):kU bs k 0=k:=by unfold kU;rw[zBC,zAR];rfl
theorem ydzl(bs:List (Int×Int))(k:Nat):kU bs k bs.length=(unR bs k).2:=by unfold kU;rw[zAE];rfl
theorem ycdc(bs:List (Int×Int))(k:Nat){t:Nat}(a:t<bs.length):rowU bs k 0 t=(bs.getD t (0,0)).1:=by unfold rowU;rw[if_pos (by omega)]
theorem ycmv(bs:List (Int×Int))(k t:Nat):rowU bs k bs.length t=(unR bs k).1.getD t 0:=by unfold rowU;rw[if_neg (by omega),zAE];rfl
section
variable {bs:List (Int×Int)}{k x i:Nat}
theorem drop_at{b:Type}{l:List b}{i:Nat}(d:b)(a:i<l.length):l.drop i=l.getD i d::l.drop (i+1):=by rw[List.drop_eq_getElem_cons a,yiu a]
theorem ycgy(d:x<bs.length)(c:i=bs.length-1-x):unR (bs.drop (bs.length-(x+1))) k=(((bs.getD i (0,0)).1+((kU bs k x%szP (bs.getD i (0,0)):Nat):Int))::(unR (bs.drop (bs.length-x)) k).1,kU bs k x/szP (bs.getD i (0,0))):=by
 have a:bs.length-(x+1)=i:=by omega
 have b:bs.length-x=i+1:=by omega
 unfold kU;rw[a,b,drop_at (0,0) (show i<bs.length by omega)]
 rfl
theorem ydih(b:x<bs.length)(a:i=bs.length-1-x):kU bs k (x+1)=kU bs k x/szP (bs.getD i (0,0)):=by
 show(unR _ k).2=_;rw[ycgy b a]
theorem ychl(b:x<bs.length)(a:i=bs.length-1-x)(t:Nat):rowU bs k (x+1) t=if t=i then(bs.getD i (0,0)).1+((kU bs k x%szP (bs.getD i (0,0)):Nat):Int)else rowU bs k x t:=by
 unfold rowU
 by_cases e:t=i
 .rw[if_pos e,if_neg (by omega),ycgy b a,show t-(bs.length-(x+1))=0 by omega]
  rfl
 .rw[if_neg e]
  by_cases q:t<i
  .rw[if_pos (by omega),if_pos (by omega)]
  .rw[if_neg (by omega),if_neg (by omega),ycgy b a,show t-(bs.length-(x+1))=(t-(bs.length-x))+1 by omega]
   rfl
theorem ycqx(b:x<bs.length)(a:i=bs.length-1-x):rowU bs k x i=(bs.getD i (0,0)).1:=by unfold rowU;rw[if_pos (by omega)]
end
def lowT(T:List (List (Int×Int)))(v:Nat):List Int:=(T.getD v []).map (·.1)
theorem ybed(T:List (List (Int×Int)))(v:Nat):(lowT T v).length=(T.getD v []).length:=by simp[lowT]
theorem ydqd{T:List (List (Int×Int))}{v t:Nat}(a:t<(T.getD v []).length):(lowT T v).getD t 0=((T.getD v []).getD t (0,0)).1:=by
 unfold lowT;rw[yiu (by simpa using a),yiu a];simp
theorem yyw{T:List (List (Int×Int))}{v:Nat}(a:v<T.length):(yrc T).getD v []=lowT T v:=by
 unfold yrc lowT;rw[yiu (by simpa using a),yiu a];simp
def cU(T:List (List (Int×Int)))(k q j:Nat):List Int:=if j<T.length-q then lowT T j else(unT (T.drop (T.length-q)) k).1.getD (j-(T.length-q)) []
def kT(T:List (List (Int×Int)))(k q:Nat):Nat:=(unT (T.drop (T.length-q)) k).2
theorem ydku(T:List (List (Int×Int)))(k:Nat):kT T k 0=k:=by unfold kT;rw[zBC,zAR];rfl
theorem ycjg(T:List (List (Int×Int)))(k:Nat){j:Nat}(a:j<T.length):cU T k 0 j=lowT T j:=by unfold cU;rw[if_pos (by omega)]
theorem ydws(T:List (List (Int×Int)))(k j:Nat):cU T k T.length j=(unT T k).1.getD j []:=by unfold cU;rw[if_neg (by omega),zAE];rfl
section
variable {T:List (List (Int×Int))}{k q v:Nat}
theorem ybzg(c:q<T.length)(d:v=T.length-1-q):unT (T.drop (T.length-(q+1))) k=((unR (T.getD v []) (kT T k q)).1::(unT (T.drop (T.length-q)) k).1,(unR (T.getD v []) (kT T k q)).2):=by
 have a:T.length-(q+1)=v:=by omega
 have b:T.length-q=v+1:=by omega
 unfold kT;rw[a,b,drop_at [] (show v<T.length by omega)]
 rfl
theorem ydou(a:q<T.length)(b:v=T.length-1-q):kT T k (q+1)=(unR (T.getD v []) (kT T k q)).2:=by
 show(unT _ k).2=_;rw[ybzg a b]
theorem ydoo(a:q<T.length)(b:v=T.length-1-q)(j:Nat):cU T k (q+1) j=if j=v then(unR (T.getD v []) (kT T k q)).1 else cU T k q j:=by
 unfold cU
 by_cases e:j=v
 .rw[if_pos e,if_neg (by omega),ybzg a b,show j-(T.length-(q+1))=0 by omega]
  rfl
 .rw[if_neg e]
  by_cases w:j<v
  .rw[if_pos (by omega),if_pos (by omega)]
  .rw[if_neg (by omega),if_neg (by omega),ybzg a b,show j-(T.length-(q+1))=(j-(T.length-q))+1 by omega]
   rfl
theorem ydtu(a:q<T.length)(b:v=T.length-1-q):cU T k q v=lowT T v:=by unfold cU;rw[if_pos (by omega)]
theorem yeet(c:q<=T.length){j:Nat}(b:j<T.length):(cU T k q j).length=(T.getD j []).length:=by
 unfold cU;split
 .exact ybed T j
 .rename_i w
  have a:=ycgd (T.drop (T.length-q)) k (j-(T.length-q)) (by rw[List.length_drop];omega)
  rw[a];congr 1;simp only[zN,List.getElem?_drop];rw[show T.length-q+(j-(T.length-q))=j by omega]
theorem ydox:∀(bs:List (Int×Int)) (k:Nat),(unR bs k).2<=k
 |[],_=>zAD _
 |b::bs,k=>zQ (zCK _ _) (ydox bs k)
theorem ydux:∀(rs:List (List (Int×Int))) (k:Nat),(unT rs k).2<=k
 |[],_=>zAD _
 |r::rs,k=>zQ (ydox r _) (ydux rs k)
end
def ybup(bs:List (Int×Int))(xs:List Int)(i:Nat):Prop:=∀t,i<=t->t<bs.length->¬xs.getD t 0<(bs.getD t (0,0)).2
def ycjw(T:List (List (Int×Int)))(c:Conf)(v:Nat):Prop:=∀j,v<=j->j<T.length->ybup (T.getD j []) (c.getD j []) 0
theorem yyj:∀{bs:List (Int×Int)}{xs:List Int},xs.length=bs.length->ybup bs xs 0->advR bs xs=(bs.map (·.1),false)
 |[],[],_,_=>rfl
 |[],_::_,h,_=>by simp at h
 |_::_,[],h,_=>by simp at h
 | b::bs,x::xs,h,a=>by
   have e:=yyj (bs:=bs) (xs:=xs) (by simpa using h) fun t _ d=>a (t+1) (by omega) (by simpa using d)
   have c:¬x<b.2:=a 0 (by omega) (by simp)
   unfold advR;rw[e];simp[c]
theorem ybaa:∀{bs:List (Int×Int)}{xs:List Int}{i:Nat},xs.length=bs.length->i<bs.length->ybup bs xs (i+1)->xs.getD i 0<(bs.getD i (0,0)).2 ->
 (advR bs xs).2=true/\(advR bs xs).1.length=bs.length/\∀t,t<bs.length->(advR bs xs).1.getD t 0=if t<i then xs.getD t 0 else if t=i then xs.getD i 0+1 else(bs.getD t (0,0)).1
 |[],_,i,_,h,_,_=>by simp at h
 |_::_,[],_,h,_,_,_=>by simp at h
 | b :: bs,x::xs,0,h,_,c,e=>by
   have d:xs.length=bs.length:=by simpa using h
   have p:=yyj d fun t _ a=>c (t+1) (by omega) (by simpa using a)
   have j:x<b.2:=e;unfold advR;rw[p];simp only[zAW,if_false,if_pos j];refine⟨trivial,by simp,fun t a=>?_⟩
   cases t with
   |zero=>rfl
   | succ t =>
     rw[if_neg (by omega),if_neg (by omega)]
     show(bs.map (·.1)).getD t 0=(bs.getD t (0,0)).1;rw[yiu (by simpa using a),yiu (by simpa using a)];simp
 | b :: bs,x::xs,i+1,h,o,c,e=>by
   have d:xs.length=bs.length:=by simpa using h
   obtain⟨f,l,m⟩:=ybaa (i:=i) d (by simpa using o) (fun t f a=>c (t+1) (by omega) (by simpa using a)) e
   unfold advR;rw[f];simp only[if_true];refine⟨trivial,by simp[l],fun t a=>?_⟩
   cases t with
   |zero=>rw[if_pos (by omega)];rfl
   | succ t =>
     have n:=m t (by simpa using a)
     show(advR bs xs).1.getD t 0=_;rw[n]
     by_cases q:t<i
     .rw[if_pos q,if_pos (by omega)];rfl
     .by_cases g:t=i
      .rw[if_neg q,if_pos g,if_neg (by omega),if_pos (by omega)];rfl
      .rw[if_neg q,if_neg g,if_neg (by omega),if_neg (by omega)];rfl
theorem yys:∀{T:List (List (Int×Int))}{c:Conf},c.length=T.length->(∀j,j<T.length->(c.getD j []).length=(T.getD j []).length)->ycjw T c 0->advT T c=(yrc T,false)
 |[],[],_,_,_=>rfl
 |[],_::_,h,_,_=>by simp at h
 |_::_,[],h,_,_=>by simp at h
 | b::bs,x::xs,h,d,a=>by
   have l:=yys (T:=bs) (c:=xs) (by simpa using h) (fun j f=>d (j+1) (by simpa using f)) fun t _ g=>a (t+1) (by omega) (by simpa using g)
   have e:=yyj (bs:=b) (xs:=x) (d 0 (by simp)) (a 0 (by omega) (by simp))
   unfold advT;rw[l,e];simp[yrc]
theorem ybbe:∀{T:List (List (Int×Int))}{c:Conf}{v:Nat},c.length=T.length->(∀j,j<T.length->(c.getD j []).length=(T.getD j []).length)->v<T.length->ycjw T c (v+1)->(advR (T.getD v []) (c.getD v [])).2=true ->
 (advT T c).2=true/\(advT T c).1.length=T.length/\∀j,j<T.length->(advT T c).1.getD j []=if j<v then c.getD j []else if j=v then(advR (T.getD v []) (c.getD v [])).1 else lowT T j
 |[],_,i,_,_,h,_,_=>by simp at h
 |_::_,[],_,h,_,_,_,_=>by simp at h
 | b :: bs,x::d,0,h,l,_,e,m=>by
   have g:d.length=bs.length:=by simpa using h
   have y:=yys g (fun j f=>l (j+1) (by simpa using f)) fun t _ a=>e (t+1) (by omega) (by simpa using a)
   have p:(advR b x).2=true:=m;unfold advT;rw[y];simp only[zAW,if_false];refine⟨p,by simp[yrc],fun t a=>?_⟩
   cases t with
   |zero=>rfl
   | succ t =>
     rw[if_neg (by omega),if_neg (by omega)]
     exact yyw (T:=bs) (by simpa using a)
 | b :: bs,x::d,i+1,h,l,w,e,m=>by
   have g:d.length=bs.length:=by simpa using h
   obtain⟨n,r,s⟩:=ybbe (v:=i) g (fun j f=>l (j+1) (by simpa using f)) (by simpa using w) (fun t n a=>e (t+1) (by omega) (by simpa using a)) m
   unfold advT;rw[n];simp only[if_true];refine⟨trivial,by simp[r],fun t a=>?_⟩
   cases t with
   |zero=>rw[if_pos (by omega)];rfl
   | succ t =>
     have u:=s t (by simpa using a)
     show(advT bs d).1.getD t []=_;rw[u]
     by_cases q:t<i
     .rw[if_pos q,if_pos (by omega)];rfl
     .by_cases o:t=i
      .rw[if_neg q,if_pos o,if_neg (by omega),if_pos (by omega)];rfl
      .rw[if_neg q,if_neg o,if_neg (by omega),if_neg (by omega)];rfl
end
section
namespace Sh
open Ev Go.RowKit
theorem ybwj(n:Nat)(a:List VarR)(b:Nat->VarR->Int×Int):Sim (ybag n a b) (yw (tabT n a b)):=by
 unfold ybag yw;rw[yib];refine yeb fun v d=>⟨⟨?_,trivial⟩,rfl⟩;rw[ybnz d];unfold ybb;rw[zAI];refine ybrk fun i c=>?_
 have e:(a.map (b v)).getD i (0,0)=b v (a.getD i default):=by
  rw[yiu (by simpa using c),yiu c];simp
 rw[e]
theorem ynk{b c:(Nat->Option ABlk)->Value->Prop}{p:ProgT}{g:Gr}(h:Checked b c p g):Returns zG 63 [.ag (ygc b c p.raw),grV g] (yw (tabP p g)):=by
 have a:=h.hp;unfold ProgT.ok at a;simp only[zI,decide_eq_true_eq]at a;have d:=ybic p.raw h.hg a.1.1.2 a.1.1.1.2;exact Returns.of ((d.use (ybwj _ _ _)).simL ⟨ybhe _ _ _,Sim.refl _,trivial⟩)
theorem ybbn{T:List (List (Int×Int))}(h:TabOk T):Returns zG 64 [yw T] (.tp [.i .i64 (ybm T:Nat),.i .i64 0]):=by
 refine Returns.of (yeai _ _ ?_);have q:=h.len;have t:=h.tot;simp only[c64,ydvf,ydqp,ydwo,yw,clash,go_sem,zB,↓reduceIte,reduceCtorEq];refine ybf (σ:=Nat) (fun v=>⟨[(11,.i .i64 v),(10,.i .i64 (T.length:Nat)),(9,yw T),(4,.i .i64 (pTo T v 0:Nat))],[]⟩) (fun v=>v<=T.length) (fun v=>T.length-v) 0 (zH _) ?_ ?_
 .refine yx ?_;simp only[yw,ycqu,wk,go_sem,zA,↓reduceIte,reduceCtorEq];rfl
 .intro v B
  by_cases c:v<T.length
  .have d1:=dec_lt c;obtain⟨y,p⟩:=h.at_ c;have g:=fun i=>ydzt h.bd c i;have k:=fun i=>ycrf (T:=T) (v:=v) (i:=i);have j:=ycmc c;obtain⟨row,d⟩:∃r,T.getD v []=r:=⟨_,rfl⟩;rw[d]at y p k j;simp only[ydlh,ydua,ydrp,yw,ybb,d1,d,clash,go_sem,zA,zB,↓reduceIte,reduceCtorEq]
   repeat refine ybe ?_
   refine ybf (σ:=Nat) (fun i=>⟨[(17,.i .i64 i),(16,.i .i64 (row.length:Nat)),(15,ybb row),(11,.i .i64 v),(10,.i .i64 (T.length:Nat)),(9,yw T),(4,.i .i64 (pTo T v i:Nat))],[]⟩) (fun i=>i<=row.length) (fun i=>row.length-i) 0 (zH _) ?_ ?_
   .refine yx ?_;simp only[yw,ybb,wk,go_sem,zA,↓reduceIte,reduceCtorEq]
   .intro i z
    by_cases a:i<row.length
    .have d2:=dec_lt a;obtain⟨m,n,o⟩:=p i a;have A:=g (i+1);have x:=g i;have s:=k i a;obtain⟨⟨u,f⟩,e⟩:∃b,row.getD i (0,0)=b:=⟨_,rfl⟩;rw[e]at m n o s;simp only at m n o;have l:=(yqf (b:=(u,f)) m).2;simp only at l;have w:((pTo T v i:Nat):Int)*(f-u+1)=((pTo T v (i+1):Nat):Int):=by rw[s,zCL,l]
     have d3:decide (((pTo T v (i+1):Nat):Int)>32768)=false:=by simp;omega
     simp only[ydps,ydsd,ydsu,yebi,ydaw,yw,ybb,d2,e,w,d3,splice,clash,go_sem,zZ,zA,zB,zD,zC,zAB,↓reduceIte,reduceCtorEq]
     repeat refine ybe ?_
     refine yj (i+1) a (by omega) ?_
     refine yx ?_;simp only[wk,go_sem,zA,↓reduceIte,reduceCtorEq];omega
    .obtain rfl:i=row.length:=by omega
     simp only[ydps,ycwj,yw,ybb,zL,clash,go_sem,zA,zB,↓reduceIte,reduceCtorEq]
     repeat refine ybe ?_
     refine yj (v+1) c (by omega) ?_
     refine yx ?_;simp only[j,wk,go_sem,zA,↓reduceIte,reduceCtorEq];omega
  .obtain rfl:v=T.length:=by omega
   simp only[ydlh,ycwd,zL,ydmq,go_sem,zA,zB,↓reduceIte,reduceCtorEq];exact Sim.refl _
theorem ybxs{b c:(Nat->Option ABlk)->Value->Prop}{p:ProgT}{g:Gr}(h:Checked b c p g)(f:TabOk (tabP p g)):Returns zG 56 [.ag (ygc b c p.raw),grV g] (.tp [.i .i64 (ybm (tabP p g):Nat),.i .i64 0]):=by
 refine Returns.of (ydsh _ _ ?_);have d:=ybdk p h.hg h.hp h.hf h.hV h.gv;have a:=ynk h;have e:=ybbn f;simp only[ygc,grV]at d a;simp only[c56,ydvv,yeag,ygc,grV,clash,go_sem,zA,zB,zC];refine d.use ?_;simp only[ybk,ydwc,yeep,clash,zS,go_sem,zA,zB];refine a.use ?_;simp only[go_sem];refine e.use ?_;simp only[go_sem];exact Sim.refl _
theorem ygu{ρ:List (Nat×(Nat->Nm))}{b O:Own}{a:Nm}{p n:Nat}{ap:Bool}{X:List SV}(d:live O a=true)(c:X=[.os (rid ρ a) p n ap]):telL (rid ρ) [] [] b O X [.os a p n ap]:=by
 subst c;refine⟨.inl ⟨(yir _ _ _).2 trivial,by rw[yew];exact Sim.refl _,?_⟩,rfl,trivial⟩
 show(live O a && !(List.elem a.1 []))=true;rw[d];rfl
theorem yjh{h:Nm->Nm}{b O:Own}{X:List SV}(c:X=[.a (.slice none 0 0)]):telL h [] [] b O X [.a (.slice none 0 0)]:=by
 subst c;exact⟨.inl ⟨(yir _ _ _).2 trivial,by rw[yew];exact Sim.refl _,rfl⟩,rfl,trivial⟩
def intO(l:List Int):OB:=⟨3,false,1,l.length,fun i=>[.i .i64 (l.getD i 0)]⟩
theorem yco{l:List Int}{c:OB}{h:Nm->Nm}{b d:Own}(a:(c.e=3/\c.bx=false/\c.z=1/\c.n=l.length)/\∀i,i<l.length->c.g i=[.i .i64 (l.getD i 0)]) :
 (c.e=(intO l).e/\c.bx=(intO l).bx/\c.z=(intO l).z/\c.n=(intO l).n)/\(mapE (intO l).e=true->∀i,c.g i=(intO l).g i)/\∀i,i<(intO l).n->telL h [] [] b d (c.g i) ((intO l).g i) :=
 ⟨a.1,fun q=>absurd (show false=true from q) zBO,fun i f=>ygd (a.2 i f)⟩
theorem ycw(l:List Int):((intO l).e=3/\(intO l).bx=false/\(intO l).z=1/\(intO l).n=l.length)/\∀i,i<l.length->(intO l).g i=[.i .i64 (l.getD i 0)]:=⟨⟨rfl,rfl,rfl,rfl⟩,fun _ _=>rfl⟩
theorem ydd{i n:Nat}{x b:OB}(h:(if i<n then some x else none)=some b):i<n/\b=x:=by
 split at h
 .cases h;exact⟨by assumption,rfl⟩
 .cases h
def ycz(n:Nat)(w:Nat->List Int):Fam:=.many fun v=>if v<n then some (intO (w v))else none
def ybv(F G n:Nat)(w:Nat->List Int):Own:=[(F,.one (some ⟨22,false,1,n,fun v=>[.os (G,v) 0 (w v).length true]⟩)),(G,ycz n w)]
theorem ycmr{ρ:List (Nat×(Nat->Nm))}{G n v:Nat}{w:Nat->List Int}{a O:Own}{X:List SV}(d:v<n)(b:lookO O (G,v)=if v<n then some (intO (w v))else none)(c:X=[.os (rid ρ (G,v)) 0 (w v).length true]):telL (rid ρ) [] [] a O X [.os (G,v) 0 (w v).length true] :=
 ygu (by unfold live;rw[b,if_pos d];rfl) c
theorem yli{l:List Int}{p:Nm->Bool}:∀i,i<(intO l).n->((intO l).g i).all (cln p 5)=true:=fun _ _=>rfl
theorem yed{h:Nm->Nm}{a d:Own}{n i:Nat}{w:Nat->List Int}{b:OB}(f:(if i<n then some (intO (w i))else none)=some b):∃c,(if i<n then some (intO (w i))else none)=some c/\(c.e=b.e/\c.bx=b.bx/\c.z=b.z/\c.n=b.n)/\(mapE b.e=true->∀i,c.g i=b.g i)/\∀i,i<b.n->telL h [] [] a d (c.g i) (b.g i):=by
 obtain⟨j,rfl⟩:=ydd f;exact⟨_,if_pos j,yco (ycw _)⟩
theorem yjv{h h':Nm->Nm}{a d:Own}{n i:Nat}{w:Nat->List Int}{b:OB}(f:(if i<n then some (intO (w i))else none)=some b):∃c,(match (if i<n then some (intO (w i))else none)with|some b=>some (OB.ren h' b)|none=>none)=some c/\(c.e=b.e/\c.bx=b.bx/\c.z=b.z/\c.n=b.n)/\(mapE b.e=true->∀i,c.g i=b.g i)/\∀i,i<b.n->telL h [] [] a d (c.g i) (b.g i):=by
 obtain⟨j,rfl⟩:=ydd f;exact⟨OB.ren h' (intO (w i)),by rw[if_pos j],yco ⟨⟨rfl,rfl,rfl,rfl⟩,fun _ _=>rfl⟩⟩
def boxT(F:Nat)(T:List (List (Int×Int))):Nat×Fam:=(F,.one (some ⟨84,true,1,1,fun _=>[yw T]⟩))
set_option maxHeartbeats 1000000 in
theorem ybqr{T:List (List (Int×Int))}(h:TabOk T){f:FuncId}(z:∀v,v<T.length->∀i,i<(T.getD v []).length->Returns zG f [.i .i64 (v:Nat),.i .i64 (i:Nat),.rf [yw T]] (.i .i64 ((T.getD v []).getD i (0,0)).1)) :
 Cm zG 65 [(301,0)] [boxT 301 T] [yw T,.fn f [] [.pt (301,0) 0 0]] fun r o=>r = .os (302,0) 0 T.length true/\o=boxT 301 T::ybv 302 303 T.length (lowT T):=by
 refine ydkt [(301,0)] [] _ _ _ ?_;have y:=h.len;have s:∀v,(lowT T v).length=(T.getD v []).length:=ybed T;simp only[c65,ydwr,ydrh,yegk,yw,boxT,clash,go_sem,zA,zB,zC,↓reduceIte,reduceCtorEq]
 repeat refine ybe ?_
 let p:Nat->Nat×Fam:=fun k=>(303,.many fun v=>if v<k then some (intO (lowT T v))else none)
 refine ybf (σ:=Nat) (fun k=>⟨[(13,.i .i64 k),(12,.i .i64 (T.length:Nat)),(0,yw T),(1,.fn f [] [.pt (301,0) 0 0]),(5,.os (10,0) 0 T.length true),(11,yw T)],
  [boxT 301 T,(10,.one (some ⟨22,false,1,T.length,fun v=>if v<k then[.os (303,v) 0 (T.getD v []).length true]else[.a (.slice none 0 0)]⟩)),p k]⟩) (fun k=>k<=T.length) (fun k=>T.length-k) 0 (zH _) ?_ ?_
 .refine ybo [] [] [] ?_;simp only[p,boxT,yw,zAA,wk,go_sem,zA,zC,↓reduceIte,reduceCtorEq]
 .intro k hk
  by_cases n:k<T.length
  .have d1 := dec_lt n;obtain⟨B,g⟩:=h.at_ n;obtain⟨row,d⟩:∃r,T.getD k []=r:=⟨_,rfl⟩;rw[d]at B g;have A:lowT T k=row.map (·.1):=by unfold lowT;rw[d]
   simp only[ydkz,yecf,ydsm,yeev,p,boxT,yw,ybb,d1,d,clash,go_sem,zA,zB,zC,↓reduceIte,reduceCtorEq]
   repeat refine ybe ?_
   refine ybf (σ:=Nat) (fun i=>⟨[(30,.i .i64 i),(29,.i .i64 (row.length:Nat)),(6,.i .i64 k),(13,.i .i64 k),(12,.i .i64 (T.length:Nat)),(0,yw T),(1,.fn f [] [.pt (301,0) 0 0]),(5,.os (10,0) 0 T.length true),(11,yw T)],
    [boxT 301 T,(10,.one (some ⟨22,false,1,T.length,fun v=>if v=k then[.os (23,0) 0 row.length true]else if v<k then[.os (303,v) 0 (T.getD v []).length true]else[.a (.slice none 0 0)]⟩)),(23,.one (some ⟨3,false,1,row.length,fun j=>[.i .i64 (if j<i then(row.getD j (0,0)).1 else 0)]⟩)),p k]⟩) (fun i=>i<=row.length) (fun i=>row.length-i) 0 (zH _) ?_ ?_
   .refine ybo [] [] [] ?_;simp only[p,boxT,yw,ybb,zAA,wk,go_sem,zA,zC,↓reduceIte,reduceCtorEq];refine⟨fun _ _ _ _ e=>e,fun v u=>?_,fun v b g=>⟨b,g,?_⟩⟩
    .by_cases q:v=k
     .simp only[if_pos q];exact ygu rfl rfl
     .by_cases m:v<k
      .simp only[if_neg q,if_pos m];exact ygu (by show(if v<k then some (intO (lowT T v))else none).isSome=true;rw[if_pos m];rfl) rfl
      .simp only[if_neg q,if_neg m];exact yjh rfl
    .obtain⟨q,rfl⟩:=ydd g;exact yco (ycw _)
   .intro i t
    by_cases l:i<row.length
    .have d2:=dec_lt l;have w:=z k n i (by rw[d];exact l)
     rw[d]at w;simp only[yw,ybb]at w;simp only[ydmu,yeeb,ydrw,ycwq,p,boxT,yw,ybb,d2,clash,go_sem,zA,zB,zD,↓reduceIte,reduceCtorEq]
     repeat refine ybe ?_
     refine .inl (w.use ?_);simp only[ybk,splice,clash,go_sem,zA,zB,↓reduceIte,reduceCtorEq]
     repeat refine ybe ?_
     refine yj (i+1) l (by omega) ?_
     refine ybo [] [] [] ?_;simp only[wk,go_sem,zA,zC,↓reduceIte,reduceCtorEq];refine⟨fun _ _ _ _ e=>e,by omega,fun v u=>?_,fun j C=>ygd ?_,fun v b g=>⟨b,g,?_⟩⟩
     .by_cases q:v=k
      .simp only[if_pos q];exact ygu rfl rfl
      .by_cases m:v<k
       .simp only[if_neg q,if_pos m];exact ygu (by show(if v<k then some (intO (lowT T v))else none).isSome=true;rw[if_pos m];rfl) rfl
       .simp only[if_neg q,if_neg m];exact yjh rfl
     .by_cases e:j=i
      .subst e;rw[if_pos rfl,if_pos (by omega)]
      .rw[if_neg e]
       by_cases x:j<i
       .rw[if_pos x,if_pos (by omega)]
       .rw[if_neg x,if_neg (by omega)]
     .obtain⟨q,rfl⟩:=ydd g;exact yco (ycw _)
    .obtain rfl:i=row.length:=by omega
     simp only[ydmu,ycuw,p,boxT,yw,ybb,zL,clash,go_sem,zA,zB,↓reduceIte,reduceCtorEq]
     repeat refine ybe ?_
     refine yj (k+1) n (by omega) ?_
     refine ybo [(303,fun v=>if v=k then(23,0)else(303,v))] [] [] ?_
     simp only[wk,go_sem,zA,zC,↓reduceIte,reduceCtorEq];refine⟨?_,by omega,fun v u=>?_,fun v b g=>?_⟩
     .repeat' apply zAM
      all_goals first|exact fun i _=>ybde (by decide) (by decide)|exact fun i _=>yto (by decide) (by decide)|exact fun i _ j _=>ybat (by decide)
     .by_cases q:v=k
      .subst q;simp only[↓reduceIte,if_pos (Nat.lt_succ_self v),d];exact ygu (by show(if v<v+1 then some (intO (lowT T v))else none).isSome=true;rw[if_pos (by omega)];rfl) (by simp only[go_sem,↓reduceIte])
      .by_cases m:v<k
       .simp only[if_neg q,if_pos m,if_pos (show v<k+1 by omega)]
        exact ygu (by show(if v<k+1 then some (intO (lowT T v))else none).isSome=true;rw[if_pos (by omega)];rfl) (by simp only[q,go_sem,↓reduceIte])
       .simp only[if_neg q,if_neg m,if_neg (show ¬v<k+1 by omega)];exact yjh rfl
     .obtain⟨u,rfl⟩:=ydd g
      by_cases q:v=k
      .subst q;simp only[go_sem,zA,↓reduceIte];refine yco (c:=⟨3,false,1,row.length,fun j=>[.i .i64 (if j<row.length then(row.getD j (0,0)).1 else 0)]⟩) ⟨⟨rfl,rfl,rfl,by rw[s,d]⟩,fun i t=>?_⟩
       have t:i<row.length:=by rw[s,d]at t;exact t
       rw[ydqd (by rw[d];exact t),d]
       simp only[if_pos t]
      .simp only[q,go_sem,zA,↓reduceIte];exact⟨_,if_pos (by omega),yco (ycw _)⟩
  .obtain rfl:k=T.length:=by omega
   simp only[ydkz,ydav,p,boxT,yw,zL,yhs,go_sem,zA,zB,↓reduceIte,reduceCtorEq];refine⟨.os (302,0) 0 T.length true,boxT 301 T::ybv 302 303 T.length (lowT T),?_,?_,rfl,rfl⟩
   .refine ybo [(302,fun i=>(10,i))] [] [] ?_;simp only[ybv,ycz,boxT,yw,wk,go_sem,zA,zC,↓reduceIte,reduceCtorEq];refine⟨fun _ _ _ _ e=>e,fun v u=>?_,fun v b g=>yed g⟩;rw[if_pos u,<-ybed];exact ycmr u rfl rfl
   .simp only[ybv,boxT,yw,ycz,ycp,yfq,wk,go_sem,zA,↓reduceIte];exact⟨fun k hk=>by rw[if_pos hk],fun i b g=>(ydd g).2▸yli⟩
theorem ybuv{T:List (List (Int×Int))}{v i:Nat}(b:v<T.length)(a:i<(T.getD v []).length):Returns zG 125 [.i .i64 (v:Nat),.i .i64 (i:Nat),.rf [yw T]] (.i .i64 ((T.getD v []).getD i (0,0)).1):=by
 refine Returns.of (ydiv _ _ ?_);simp only[c125,ydfm,ydhp,yw,ybb,clash,go_sem,zZ,zA,zB,zD,zAB]
 repeat refine ybe ?_
 exact Sim.refl _
theorem yboc{T:List (List (Int×Int))}{v i:Nat}(b:v<T.length)(a:i<(T.getD v []).length):Returns zG 66 [.i .i64 (v:Nat),.i .i64 (i:Nat),.rf [yw T]] (.i .i64 ((T.getD v []).getD i (0,0)).1):=by
 refine Returns.of (ydxx _ _ ?_);simp only[c66,ydts,ydqz,yw,ybb,clash,go_sem,zZ,zA,zB,zD,zAB]
 repeat refine ybe ?_
 exact Sim.refl _
set_option maxHeartbeats 1000000 in
theorem ycoa{j l:(Nat->Option ABlk)->Value->Prop}{p:ProgT}{g:Gr}(h:Checked j l p g)(q:TabOk (tabP p g)) :
 Cm zG 59 [] [] [.ag (ygc j l p.raw),grV g] fun r o=>r = .tp [.os (302,0) 0 (tabP p g).length true,.i .i64 0]/\o=ybv 302 303 (tabP p g).length (lowT (tabP p g)):=by
 refine ydjj [] [65] _ _ _ ?_;have n:=ybdk p h.hg h.hp h.hf h.hV h.gv;have a:=ynk h;have m:=ybqr q (f:=125) fun v d i s=>ybuv d s
 generalize tabP p g=T at a m q
 simp only[ygc,grV]at n a;simp only[c59,yefm,ydxl,ygc,grV,clash,go_sem,zA,zB,zC,zF,↓reduceIte,reduceCtorEq];refine n.use ?_;simp only[ybk,yece,ydtv,yeaq,clash,zS,go_sem,zA,zB,zC,zF,↓reduceIte,reduceCtorEq];refine a.use ?_;simp only[go_sem,↓reduceIte]
 repeat refine ybe ?_
 refine yfb m [(301,7),(302,72),(303,73)] 400 [] [] ?_ ?_
 .simp only[boxT,to1,okN,ycp,yfq,yeq,yeg,wk,go_sem,zB,zC,↓reduceIte,reduceCtorEq]
 rintro r t ⟨rfl,rfl⟩;simp only[boxT,ybv,ypd,ymp,nuF,nu,difN,yeq,yeg,Fam.ren,OB.ren,dim,ykn,go_sem,zA,zB,zF,↓reduceIte,reduceCtorEq];simp only[yhs,go_sem];refine⟨.tp [.os (302,0) 0 T.length true,.i .i64 0],ybv 302 303 T.length (lowT T),?_,?_,rfl,rfl⟩
 .refine ybo [(302,fun i=>(72,i)),(303,fun i=>(73,i))] [] [] ?_;simp only[ybv,ycz,wk,go_sem,zA,zC,↓reduceIte,reduceCtorEq];exact⟨fun _ _ _ _ e=>e,fun v d=>by rw[if_pos d],fun i b c=>yjv (h':=nu [(301,7),(302,72),(303,73)] 400) c⟩
 .simp only[ybv,ycz,ycp,yfq,wk,go_sem,zA,↓reduceIte];exact⟨fun k hk=>by rw[if_pos hk],fun i b c=>(ydd c).2▸yli⟩
end Sh
end
section
def rowL(bs:List (Int×Int))(k x:Nat):List Int:=(zW bs.length).map (rowU bs k x)
theorem ybdl(bs:List (Int×Int))(k x:Nat):(rowL bs k x).length=bs.length:=by simp[rowL]
theorem ywa{bs:List (Int×Int)}{k x t:Nat}(a:t<bs.length):(rowL bs k x).getD t 0=rowU bs k x t:=by simp[rowL,zN,a]
theorem yvo{l l':List Int}(h:l.length=l'.length)(c:∀t,t<l.length->l.getD t 0=l'.getD t 0):l=l':=by
 refine List.ext_getElem h fun t a b=>?_;have:=c t a
 rwa [yiu a,yiu b]at this
theorem ycag(bs:List (Int×Int))(k:Nat):rowL bs k 0=bs.map (·.1):=yvo (by simp[rowL]) fun t a=>by
 have a:t<bs.length:=by simpa[rowL]using a
 rw[ywa a,ycdc bs k a];simp[zN,a]
theorem ycpo(bs:List (Int×Int))(k:Nat):rowL bs k bs.length=(unR bs k).1:=yvo (by rw[ybdl,yblo]) fun t a=>by
 rw[ywa (by simpa[rowL]using a),ycmv]
namespace Sh
open Ev Go.RowKit
section
variable {Q1 Q2:(Nat->Option ABlk)->Value->Prop}{p:ProgT}{g:Gr}
set_option maxHeartbeats 4000000 in
theorem ybvi(h:Checked Q1 Q2 p g)(O:TabOk (tabP p g)){k0:Nat}(hk:k0<ybm (tabP p g)):Returns zG 15 [.ag (ygc Q1 Q2 p.raw),grV g,.i .i64 (k0:Nat)] (.tp [ydb (unT (tabP p g) k0).1,.i .i64 0]):=by
 refine Returns.of (ydnv [65] _ _ ?_);have hF:=ybdk p h.hg h.hp h.hf h.hV h.gv;have I:=ynk h;have hB:=ybqr O (f:=66) fun v z i F=>yboc z F;have hC:=ybbn O;have H:=O.tot;have X:=O.len
 generalize tabP p g=T at I hB O hC hk H X ⊢
 obtain⟨N,hN⟩:∃N,ybm T=N:=⟨_,rfl⟩;rw[hN]at hC hk H;simp only[ygc,grV]at hF I;have d1:decide ((k0:Int)<0)=false:=by simp
 have d2:decide ((k0:Int)>=(N:Int))=false:=by simp;omega
 simp only[c15,ydyg,ydrg,ygc,grV,clash,go_sem,zA,zB,zC,zF];refine hF.use ?_;simp only[ybk,yeej,yegu,yedf,clash,zS,go_sem,zA,zB,zC,zF];refine I.use ?_;simp only[go_sem]
 repeat refine ybe ?_
 refine hC.use ?_;simp only[yefp,ydzy,ydce,clash,zS,d1,d2,go_sem,zA,zB]
 repeat refine ybe ?_
 refine yfb hB [(301,9),(302,72),(303,73)] 400 [9,5] [5] ?_ ?_
 .simp only[boxT,to1,okN,ycp,yfq,yeq,yeg,wk,go_sem,zA,zB,zC,zF]
 rintro r o' ⟨rfl,rfl⟩;simp only[boxT,ybv,ypd,ymp,nuF,nu,difN,yeq,yeg,Fam.ren,OB.ren,dim,ykn,go_sem,zA,zB,zC,zF];simp only[ydbo,yw,go_sem,zA,zB,zF]
 repeat refine ybe ?_
 refine(ybhc (n:=T.length) (e:=fun v=>ybb (T.getD v []))).use ?_;simp only[ybk,clash,go_sem]
 let d:(Nat->List Int)->Nat->Own:=fun w k=>(5,.one (some ⟨3,true,1,1,fun _=>[.i .i64 (k:Nat)]⟩))::(12,.one (some ⟨46,true,1,1,fun _=>[.os (72,0) 0 T.length true]⟩))::ybv 72 73 T.length w
 refine yrg (ybgo (n:=T.length) (e:=fun v=>ybb (T.getD v []))) [(12,0),(5,0)] (fun q (_:Unit)=>⟨[(46,.fn 133 [] [.rf [yw T]]),(12,.pt (12,0) 0 0),(5,.pt (5,0) 0 0)],d (cU T k0 q) (kT T k0 q)⟩)
  (fun q _=>q<=T.length) () (zH _) ⟨fun _ h=>absurd h zAN,fun β h=>absurd h zAN⟩ ?_ (fun _=>rfl) ?_ ?_ ?_
 .refine yx ?_;simp only[d,ybv,ycz,yw,ydku,wk,go_sem,zA,zC];refine⟨fun _ _ _ _ e=>e,fun v z=>?_,fun v b B=>?_⟩
  .rw[ycjg T k0 z];exact⟨Sim.refl _,by rw[if_pos z]⟩
  .obtain⟨z,rfl⟩:=ydd B;rw[ycjg T k0 z];exact yjv (w:=lowT T) (h':=nu [(301,9),(302,72),(303,73)] 400) (if_pos z)
 .intro i _ F _;refine⟨trivial,?_⟩;simp only[yw,wk,go_sem,zA]
 .intro q _ hq C;have C:q<T.length:=C;obtain⟨v,z⟩:∃v,T.length-1-q=v:=⟨_,rfl⟩;have a3:v<T.length:=by omega
  refine⟨_,rfl,?_⟩;simp only[bwdS,z];simp only[ycsn,yder,ydfw,d,ybv,yw,splice,clash,go_sem,zA,zB,zC,zF];refine(ybfu (ls:=T.getD v [])).use ?_;obtain⟨hr,B⟩:=O.at_ a3
  have hI:∀l∈T.getD v [],I64 l.1/\I64 l.2:=fun l hl=>by
   obtain⟨i,F,rfl⟩:=zAS hl;have:=B i F;rw[yiu F]at this;unfold I64;omega
  have J:=ydoo (k:=k0) C z.symm;have a4:=ydtu (k:=k0) C z.symm;have L:=ydou (k:=k0) C z.symm;have Y:lowT T v=(T.getD v []).map (·.1):=rfl;have S:=fun {j}=>yeet (k:=k0) (q:=q) hq (j:=j);have a6:kT T k0 q<=k0:=ydux _ _;obtain⟨m,W⟩:∃m,kT T k0 q=m:=⟨_,rfl⟩;rw[W]at J L a6;obtain⟨a,R⟩:∃a,T.getD v []=a:=⟨_,rfl⟩;rw[R]at hr B hI J L Y;simp only[ybk,clash,R,go_sem]
  refine yrg (ybko (ls:=a) hI) [(12,0),(5,0),(13,0)] (fun x (_:Unit)=>⟨[(50,.fn 134 [] [.rf [ybb a]]),(12,.pt (12,0) 0 0),(5,.pt (5,0) 0 0),(13,.pt (13,0) 0 0)],(13,.one (some ⟨3,true,1,1,fun _=>[.i .i64 (v:Nat)]⟩))::d (fun j=>if j=v then rowL a m x else cU T k0 q j) (kU a m x)⟩)
   (fun x _=>x<=a.length) () (zH _) ⟨fun β h=>(by rcases List.mem_cons.1 h with r|r;rw[r];exact zJ;rw[List.mem_singleton.1 r];exact zX _ zJ),fun β h=>absurd h zAN⟩ ?_ (fun _=>rfl) ?_ ?_ ?_
  .refine ybo [] [] [] ?_
   have e0:∀j,(if j=v then rowL a m 0 else cU T k0 q j)=cU T k0 q j:=fun j=>by
    by_cases e:j=v
    .rw[if_pos e,ycag,e,a4,Y]
    .rw[if_neg e]
   simp only[d,ybv,ycz,ydii,e0,W,wk,go_sem,zA,zC];exact⟨fun _ _ _ _ e=>e,fun j u=>by rw[if_pos u],fun j b B=>yed B⟩
  .intro x _ hx _;refine⟨trivial,?_⟩;simp only[ybb,wk,go_sem,zA]
  .intro x _ hx o;have o:x<a.length:=o;obtain⟨i,F⟩:∃i,a.length-1-x=i:=⟨_,rfl⟩;have V:i<a.length:=by omega
   refine⟨_,rfl,?_⟩;simp only[bwdS,F];obtain⟨b1,b2,b3⟩:=B i V;have D:=ychl (k:=m) o F.symm;have M:=ycqx (k:=m) o F.symm;have s:=ydih (k:=m) o F.symm;obtain⟨⟨P,K⟩,Q⟩:∃b,a.getD i (0,0)=b:=⟨_,rfl⟩;rw[Q]at b1 b2 b3 D M s;simp only at b1 b2 b3 M;have G:=yqf (b:=(P,K)) b1;obtain⟨A,a2⟩:∃A,szP (P,K)=A:=⟨_,rfl⟩;rw[a2]at G D s;simp only at G D;have a1:K-P+1=(A:Int):=G.2.symm;have a5:kU a m x<=m:=ydox _ _;obtain⟨y,hy⟩:∃y,kU a m x=y:=⟨_,rfl⟩
   rw[hy]at D s a5;have Z:(y:Int).tmod (A:Int)=((y%A:Nat):Int):=rfl;have U:(y:Int).tdiv (A:Int)=((y/A:Nat):Int):=rfl;have a7:(rowL a m x).getD i 0=P:=by rw[ywa V,M]
   have a0:=ybdl a m x;have b0:y%A<A:=Nat.mod_lt _ G.1;have a9:y/A<=y:=zCK _ _;simp only[ycxb,yddu,ycvd,ydhe,ydcr,d,ybv,ycz,intO,if_pos a3,a0,hy,a7,Q,a1,Z,U,splice,clash,go_sem,zZ,zA,zB,zD,zC,zAB]
   repeat refine ybe ?_
   refine zAM ⟨by omega,ikw (by omega) (by omega)⟩ ?_
   repeat refine ybe ?_
   refine ybo [] [] [] ?_
   have hw:∀t,t<a.length->(if t=i then[SV.i .i64 (P+((y%A:Nat):Int))]else[SV.i .i64 ((rowL a m x).getD t 0)])=[SV.i .i64 ((rowL a m (x+1)).getD t 0)]:=fun t ht=>by
    rw[ywa ht,ywa ht,D]
    by_cases e:t=i
    .rw[if_pos e,if_pos e]
    .rw[if_neg e,if_neg e]
   have E:=ybdl a m (x+1);simp only[s,wk,go_sem,zA,zC];refine⟨fun _ _ _ _ e=>e,fun j u=>?_,fun j b B=>?_⟩
   .by_cases e:j=v
    .subst e;simp only[a0,E,if_pos u,wk,go_sem]
    .simp only[e,if_pos u,wk,go_sem]
   .obtain⟨u,rfl⟩:=ydd (x:=intO (if j=v then rowL a m (x+1)else cU T k0 q j)) B
    by_cases e:j=v
    .subst e;simp only[go_sem];exact yco (l:=rowL a m (x+1)) (c:=⟨3,false,1,a.length,fun t=>if t=i then[SV.i .i64 (P+((y%A:Nat):Int))]else[SV.i .i64 ((rowL a m x).getD t 0)]⟩) ⟨⟨rfl,rfl,rfl,E.symm⟩,fun t ht=>hw t (by rw[E]at ht;exact ht)⟩
    .simp only[e,go_sem];exact⟨_,if_pos u,yco (l:=cU T k0 q j) (ycw _)⟩
  .intro _ _
   have e0:∀j,(if j=v then rowL a m a.length else cU T k0 q j)=cU T k0 (q+1) j:=fun j=>by
    rw[J]
    by_cases e:j=v
    .rw[if_pos e,if_pos e,ycpo]
    .rw[if_neg e,if_neg e]
   simp only[bwdS,go_sem]
   repeat refine ybe ?_
   refine ybo [] [] [] ?_;simp only[d,ybv,ycz,ydzl,e0,L,wk,go_sem,zA,zC];exact⟨fun _ _ _ _ e=>e,fun j u=>by rw[if_pos u],fun j b B=>yed B⟩
 .intro _ _;simp only[ydey,bwdS,d,ybv,clash,go_sem,zA,zB];have S:∀j,j<T.length->(unT T k0).1.getD j []=cU T k0 T.length j:=fun j _=>(ydws T k0 j).symm;have a8:=ybxb T k0;refine⟨fun j u=>?_,ybbj ⟨?_,Sim.refl _,trivial⟩⟩
  .simp only[ycz,intO,if_pos u,go_sem]
  .unfold ydb ybc;rw[a8];refine yeb fun j u=>?_;simp only[ycz,intO,if_pos u,SimL,S j u,go_sem];exact Sim.refl _
end
end Sh
end
section
def rowD(bs:List (Int×Int))(xs:List Int)(x:Nat):List Int:=(zW bs.length).map fun t=>if t<bs.length-x then xs.getD t 0 else(bs.getD t (0,0)).1
theorem yqh(bs:List (Int×Int))(xs:List Int)(x:Nat):(rowD bs xs x).length=bs.length:=by simp[rowD]
theorem yth{bs:List (Int×Int)}{xs:List Int}{x t:Nat}(a:t<bs.length):(rowD bs xs x).getD t 0=if t<bs.length-x then xs.getD t 0 else(bs.getD t (0,0)).1:=by simp[rowD,zN,a]
theorem ybya{bs:List (Int×Int)}{xs:List Int}(h:xs.length=bs.length):rowD bs xs 0=xs:=yvo (by rw[yqh,h]) fun t a=>by
 have a:t<bs.length:=by rwa [yqh]at a
 rw[yth a,if_pos (by omega)]
theorem ycqq(bs:List (Int×Int))(xs:List Int):rowD bs xs bs.length=bs.map (·.1):=yvo (by simp[rowD]) fun t a=>by
 have a:t<bs.length:=by rwa [yqh]at a
 rw[yth a,if_neg (by omega)]
 simp[zN,a]
def cD(T:List (List (Int×Int)))(c:Conf)(q j:Nat):List Int:=if j<T.length-q then c.getD j []else lowT T j
namespace Sh
open Ev Go.RowKit
set_option maxHeartbeats 4000000 in
theorem ybwi{T:List (List (Int×Int))}(hT:TabOk T){c:Conf}(hc:inT T c) :
 Cm zG 61 [(302,0)] (ybv 302 303 T.length fun j=>c.getD j []) [yw T,.os (302,0) 0 T.length true] fun r o=>r = .tp []/\o=ybv 302 303 T.length fun j=>(advT T c).1.getD j []:=by
 refine ydkr [(302,0)] [] _ _ _ ?_;have a8:=hT.len;obtain⟨Y,Z⟩:=ync.1 hc;have N:∀j,j<T.length->(c.getD j []).length=(T.getD j []).length:=fun j a=>(ypf.1 (Z j a)).1;simp only[c61,ydzu,ydtz,yw,ybv,go_sem,zA,zB,zC];refine(ybhc (n:=T.length) (e:=fun v=>ybb (T.getD v []))).use ?_;simp only[ybk,clash,go_sem]
 let f:(Nat->List Int)->Own:=fun w=>(3,.one (some ⟨46,true,1,1,fun _=>[.os (302,0) 0 T.length true]⟩))::ybv 302 303 T.length w
 refine yrg (ybgo (n:=T.length) (e:=fun v=>ybb (T.getD v []))) [(302,0),(3,0)] (fun q (_:Unit)=>⟨[(9,.fn 133 [] [.rf [yw T]]),(3,.pt (3,0) 0 0)],f (cD T c q)⟩)
  (fun q _=>q<=T.length/\ycjw T c (T.length-q)) () ⟨zH _,fun j O J=>absurd O (by omega)⟩ ⟨fun β h=>by rw[List.mem_singleton.1 h];exact zJ,fun β h=>absurd h zAN⟩ ?_ (fun _=>rfl) ?_ ?_ ?_
 .refine ybo [] [] [] ?_;have I:∀j,j<T.length->cD T c 0 j=c.getD j []:=fun j a=>by unfold cD;rw[if_pos (by omega)]
  simp only[f,ybv,ycz,yw,wk,go_sem,zA,zC];refine⟨fun _ _ _ _ e=>e,fun j a=>?_,fun j b m=>?_⟩
  .rw[I j a];exact⟨Sim.refl _,by rw[if_pos a]⟩
  .obtain⟨a,rfl⟩:=ydd (x:=intO (cD T c 0 j)) m;rw[I j a];exact⟨_,if_pos a,yco (ycw _)⟩
 .intro i _ hi _;refine⟨trivial,?_⟩;simp only[yw,wk,go_sem,zA]
 .rintro q _ ⟨hq,B⟩ U;have U:q<T.length:=U;obtain⟨v,hv⟩:∃v,T.length-1-q=v:=⟨_,rfl⟩;have F:v<T.length:=by omega
  refine⟨_,rfl,?_⟩;simp only[bwdS,hv];simp only[ydqt,ydyp,ydsw,f,ybv,yw,splice,clash,go_sem,zA,zB,zC];refine(ybfu (ls:=T.getD v [])).use ?_;obtain⟨hr,m⟩:=hT.at_ F
  have hI:∀l∈T.getD v [],I64 l.1/\I64 l.2:=fun l hl=>by
   obtain⟨i,hi,rfl⟩:=zAS hl;have:=m i hi;rw[yiu hi]at this;unfold I64;omega
  have a1:ycjw T c (v+1):=fun j O J=>B j (by omega) J
  have a0:cD T c q v=c.getD v []:=by unfold cD;rw[if_pos (by omega)]
  have a5:∀j,cD T c (q+1) j=if j=v then lowT T v else cD T c q j:=fun j=>by
   unfold cD
   by_cases e:j=v
   .rw[if_pos e,if_neg (by omega),e]
   .rw[if_neg e]
    by_cases w:j<v
    .rw[if_pos (by omega),if_pos (by omega)]
    .rw[if_neg (by omega),if_neg (by omega)]
  have R:∀j,j<T.length->cD T c q j=if j<v then c.getD j []else if j=v then c.getD v []else lowT T j:=fun j a=>by
   unfold cD
   by_cases w:j<v
   .rw[if_pos (by omega),if_pos w]
   .by_cases e:j=v
    .rw[if_pos (by omega),if_neg w,if_pos e,e]
    .rw[if_neg (by omega),if_neg w,if_neg e]
  have p:=ybbe Y N F a1;have a2:lowT T v=(T.getD v []).map (·.1):=rfl;have C:=ypf.1 (Z v F);obtain⟨d,P⟩:∃d,T.getD v []=d:=⟨_,rfl⟩;obtain⟨g,a4⟩:∃g,c.getD v []=g:=⟨_,rfl⟩;rw[P]at hr m hI a2 p C;rw[a4]at p C a0 R;obtain⟨a3,a7⟩:=C;simp only[ybk,clash,P,go_sem]
  refine yrg (ybko (ls:=d) hI) [(302,0),(3,0),(4,0)] (fun x (_:Unit)=>⟨[(13,.fn 134 [] [.rf [ybb d]]),(3,.pt (3,0) 0 0),(4,.pt (4,0) 0 0)],(4,.one (some ⟨3,true,1,1,fun _=>[.i .i64 (v:Nat)]⟩))::f (fun j=>if j=v then rowD d g x else cD T c q j)⟩)
   (fun x _=>x<=d.length/\ybup d g (d.length-x)) () ⟨zH _,fun j O J=>absurd O (by omega)⟩ ⟨fun β h=>(by rcases List.mem_cons.1 h with r|r;rw[r];exact zJ;rw[List.mem_singleton.1 r];exact zX _ zJ),fun β h=>absurd h zAN⟩ ?_ (fun _=>rfl) ?_ ?_ ?_
  .refine ybo [] [] [] ?_
   have I:∀j,(if j=v then rowD d g 0 else cD T c q j)=cD T c q j:=fun j=>by
    by_cases e:j=v
    .rw[if_pos e,ybya a3,e,a0]
    .rw[if_neg e]
   simp only[f,ybv,ycz,I,wk,go_sem,zA,zC];exact⟨fun _ _ _ _ e=>e,fun j a=>by rw[if_pos a],fun j b m=>yed m⟩
  .rintro x _ hx _;refine⟨trivial,?_⟩;simp only[ybb,wk,go_sem,zA]
  .rintro x _ ⟨hx,u⟩ D;have D:x<d.length:=D;obtain⟨i,hi⟩:∃i,d.length-1-x=i:=⟨_,rfl⟩;have K:i<d.length:=by omega
   refine⟨_,rfl,?_⟩;simp only[bwdS,hi];obtain⟨b1,b2,b3⟩:=m i K;have W:=a7 i K;have a6:ybup d g (i+1):=fun t O J=>u t (by omega) J
   have M:=ybaa a3 K a6;have V:(rowD d g x).getD i 0=g.getD i 0:=by rw[yth K,if_pos (by omega)]
   have L:=yqh d g x;have E:=yqh d g (x+1);obtain⟨⟨lo,S⟩,A⟩:∃b,d.getD i (0,0)=b:=⟨_,rfl⟩;rw[A]at b1 b2 b3 W M;simp only at b1 b2 b3 W M;obtain⟨y,hy⟩:∃y,g.getD i 0=y:=⟨_,rfl⟩;rw[hy]at W M V
   by_cases s:y<S
   .have d1:decide (y<S)=true:=decide_eq_true s;simp only[ydmx,ydpv,ydpz,ydyw,f,ybv,ycz,intO,if_pos F,L,V,A,d1,splice,clash,yhs,go_sem,zZ,zA,zB,zC,zAB]
    repeat refine ybe ?_
    obtain⟨w1,w2,w3⟩:=M s;obtain⟨_,_,H⟩:=p w1
    have Q:∀t,t<d.length->(if t=i then[SV.i .i64 (y+1)]else[SV.i .i64 ((rowD d g x).getD t 0)])=[SV.i .i64 ((advR d g).1.getD t 0)]:=fun t z=>by
     rw[w3 t z]
     by_cases e:t=i
     .rw[if_pos e,if_neg (by omega),if_pos e]
     .rw[if_neg e,if_neg e,yth z]
      by_cases w:t<i
      .rw[if_pos (by omega),if_pos w]
      .rw[if_neg (by omega),if_neg w]
    refine⟨.tp [],ybv 302 303 T.length (fun j=>(advT T c).1.getD j []),?_,?_,rfl,rfl⟩
    .refine ybo [] [] [] ?_;simp only[ybv,ycz,wk,go_sem,zA,zC];refine⟨fun _ _ _ _ e=>e,fun j a=>?_,fun j b m=>?_⟩
     .have G:=H j a
      by_cases e:j=v
      .subst e;rw[if_neg (by omega),if_pos rfl]at G
       simp only[L,G,w2,if_pos a,wk,go_sem]
      .rw[if_neg e]at G;have:=R j a;rw[if_neg e,<-G]at this;simp only[e,this,if_pos a,wk,go_sem]
     .obtain⟨a,rfl⟩:=ydd (x:=intO ((advT T c).1.getD j [])) m;have G:=H j a
      by_cases e:j=v
      .subst e;rw[if_neg (by omega),if_pos rfl]at G
       rw[G];simp only[go_sem];exact yco (l:=(advR d g).1) (c:=⟨3,false,1,d.length,fun t=>if t=i then[SV.i .i64 (y+1)]else[SV.i .i64 ((rowD d g x).getD t 0)]⟩) ⟨⟨rfl,rfl,rfl,w2.symm⟩,fun t z=>Q t (by rw[w2]at z;exact z)⟩
      .rw[if_neg e]at G;have:=R j a;rw[if_neg e,<-G]at this;rw[<-this];simp only[e,go_sem];exact⟨_,if_pos a,yco (l:=cD T c q j) (ycw _)⟩
    .simp only[ybv,ycz,ycp,yfq,wk,go_sem,zA];exact⟨fun k hk=>by rw[if_pos hk],fun i b m=>(ydd m).2▸yli⟩
   .have d1:decide (y<S)=false:=decide_eq_false s;simp only[ydmx,ydpv,ydpz,yeei,f,ybv,ycz,intO,if_pos F,L,V,A,d1,splice,clash,go_sem,zZ,zA,zB,zD,zC,zAB]
    repeat refine ybe ?_
    refine zAM ⟨D,fun t O J=>?_⟩ ?_
    .by_cases e:t=i
     .rw[e,hy,A];exact s
     .exact u t (by omega) J
    refine ybo [] [] [] ?_
    have hw:∀t,t<d.length->(if t=i then[SV.i .i64 lo]else[SV.i .i64 ((rowD d g x).getD t 0)])=[SV.i .i64 ((rowD d g (x+1)).getD t 0)]:=fun t z=>by
     rw[yth z,yth z]
     by_cases e:t=i
     .rw[if_pos e,if_neg (by omega),e,A]
     .rw[if_neg e]
      by_cases w:t<i
      .rw[if_pos (by omega),if_pos (by omega)]
      .rw[if_neg (by omega),if_neg (by omega)]
    simp only[wk,go_sem,zA,zC];refine⟨fun _ _ _ _ e=>e,fun j a=>?_,fun j b m=>?_⟩
    .by_cases e:j=v
     .subst e;simp only[L,E,if_pos a,wk,go_sem]
     .simp only[e,if_pos a,wk,go_sem]
    .obtain⟨a,rfl⟩:=ydd (x:=intO (if j=v then rowD d g (x+1)else cD T c q j)) m
     by_cases e:j=v
     .subst e;simp only[go_sem];exact yco (l:=rowD d g (x+1)) (c:=⟨3,false,1,d.length,fun t=>if t=i then[SV.i .i64 lo]else[SV.i .i64 ((rowD d g x).getD t 0)]⟩) ⟨⟨rfl,rfl,rfl,E.symm⟩,fun t z=>hw t (by rw[E]at z;exact z)⟩
     .simp only[e,go_sem];exact⟨_,if_pos a,yco (l:=cD T c q j) (ycw _)⟩
  .rintro _ ⟨_,u⟩
   have I:∀j,(if j=v then rowD d g d.length else cD T c q j)=cD T c (q+1) j:=fun j=>by
    rw[a5]
    by_cases e:j=v
    .rw[if_pos e,if_pos e,ycqq,a2]
    .rw[if_neg e,if_neg e]
   have u:ybup d g (d.length-d.length):=u;simp only[bwdS,go_sem];refine zAM ⟨U,fun j O J=>?_⟩ ?_
   .by_cases e:j=v
    .subst e;rw[P,a4];exact fun t _ z=>u t (by omega) z
    .exact a1 j (by omega) J
   refine ybo [] [] [] ?_;simp only[f,ybv,ycz,I,wk,go_sem,zA,zC];exact⟨fun _ _ _ _ e=>e,fun j a=>by rw[if_pos a],fun j b m=>yed m⟩
 .rintro _ ⟨_,B⟩;simp only[bwdS,f,ybv,yhs,go_sem];have B:ycjw T c (T.length-T.length):=B;have X:=yys Y N fun j _ a=>B j (by omega) a
  have I:∀j,j<T.length->cD T c T.length j=(advT T c).1.getD j []:=fun j a=>by
   rw[X,yyw a];unfold cD;rw[if_neg (by omega)]
  refine⟨.tp [],ybv 302 303 T.length (fun j=>(advT T c).1.getD j []),?_,?_,rfl,rfl⟩
  .refine ybo [] [] [] ?_;simp only[ybv,ycz,wk,go_sem,zA,zC];refine⟨fun _ _ _ _ e=>e,fun j a=>?_,fun j b m=>?_⟩
   .rw[I j a];exact⟨Sim.refl _,by rw[if_pos a]⟩
   .obtain⟨a,rfl⟩:=ydd (x:=intO ((advT T c).1.getD j [])) m;rw[<-I j a];exact⟨_,if_pos a,yco (ycw _)⟩
  .simp only[ybv,ycz,ycp,yfq,wk,go_sem,zA];exact⟨fun k hk=>by rw[if_pos hk],fun i b m=>(ydd m).2▸yli⟩
end Sh
end
section
def rowP(bs:List (Int×Int))(p x t:Nat):Int:=if t<bs.length-x then 0 else(plR (bs.drop (bs.length-x)) p).1.getD (t-(bs.length-x)) 0
def pP(bs:List (Int×Int))(p x:Nat):Nat:=(plR (bs.drop (bs.length-x)) p).2
theorem ydov(bs:List (Int×Int))(p:Nat):pP bs p 0=p:=by unfold pP;rw[zBC,zAR];rfl
theorem yeap(bs:List (Int×Int))(p:Nat):pP bs p bs.length=(plR bs p).2:=by unfold pP;rw[zAE];rfl
theorem ycjy(bs:List (Int×Int))(p:Nat){t:Nat}(a:t<bs.length):rowP bs p 0 t=0:=by unfold rowP;rw[if_pos (by omega)]
theorem yclt(bs:List (Int×Int))(p t:Nat):rowP bs p bs.length t=(plR bs p).1.getD t 0:=by unfold rowP;rw[if_neg (by omega),zAE];rfl
section
variable {bs:List (Int×Int)}{p x i:Nat}
theorem ybzn(d:x<bs.length)(c:i=bs.length-1-x):plR (bs.drop (bs.length-(x+1))) p=(((pP bs p x:Nat):Int)::(plR (bs.drop (bs.length-x)) p).1,pP bs p x*szP (bs.getD i (0,0))):=by
 have a:bs.length-(x+1)=i:=by omega
 have b:bs.length-x=i+1:=by omega
 unfold pP;rw[a,b,drop_at (0,0) (show i<bs.length by omega)]
 rfl
theorem ydmh(b:x<bs.length)(a:i=bs.length-1-x):pP bs p (x+1)=pP bs p x*szP (bs.getD i (0,0)):=by
 show(plR _ p).2=_;rw[ybzn b a]
theorem rowP_step(b:x<bs.length)(a:i=bs.length-1-x)(t:Nat):rowP bs p (x+1) t=if t=i then((pP bs p x:Nat):Int)else rowP bs p x t:=by
 unfold rowP
 by_cases e:t=i
 .rw[if_pos e,if_neg (by omega),ybzn b a,show t-(bs.length-(x+1))=0 by omega]
  rfl
 .rw[if_neg e]
  by_cases q:t<i
  .rw[if_pos (by omega),if_pos (by omega)]
  .rw[if_neg (by omega),if_neg (by omega),ybzn b a,show t-(bs.length-(x+1))=(t-(bs.length-x))+1 by omega]
   rfl
theorem yehw:pP bs p x=p*ybs (bs.drop (bs.length-x)):=ysi _ _
theorem yeji(h:bdR bs):pP bs p x<=p*ybs bs:=by
 rw[yehw];refine zAG _ ?_
 conv=>rhs;rw[<-zAL (bs.length-x) bs,yji]
 exact zY _ (yly fun b a=>h b (zBM a))
end
def cP(T:List (List (Int×Int)))(q j:Nat):List Int:=if j<T.length-q then[]else(plT (T.drop (T.length-q)) 1).1.getD (j-(T.length-q)) []
def ppT(T:List (List (Int×Int)))(q:Nat):Nat:=(plT (T.drop (T.length-q)) 1).2
theorem ycpr(T:List (List (Int×Int))):ppT T 0=1:=by unfold ppT;rw[zBC,zAR];rfl
theorem yeao(T:List (List (Int×Int)))(j:Nat):cP T T.length j=(plT T 1).1.getD j []:=by unfold cP;rw[if_neg (by omega),zAE];rfl
section
variable {T:List (List (Int×Int))}{q v:Nat}
theorem ycdm(c:q<T.length)(d:v=T.length-1-q):plT (T.drop (T.length-(q+1))) 1=((plR (T.getD v []) (ppT T q)).1::(plT (T.drop (T.length-q)) 1).1,(plR (T.getD v []) (ppT T q)).2):=by
 have a:T.length-(q+1)=v:=by omega
 have b:T.length-q=v+1:=by omega
 unfold ppT;rw[a,b,drop_at [] (show v<T.length by omega)]
 rfl
theorem ybqt(a:q<T.length)(b:v=T.length-1-q):ppT T (q+1)=(plR (T.getD v []) (ppT T q)).2:=by
 show(plT _ 1).2=_;rw[ycdm a b]
theorem ydmd(a:q<T.length)(b:v=T.length-1-q)(j:Nat):cP T (q+1) j=if j=v then(plR (T.getD v []) (ppT T q)).1 else cP T q j:=by
 unfold cP
 by_cases e:j=v
 .rw[if_pos e,if_neg (by omega),ycdm a b,show j-(T.length-(q+1))=0 by omega]
  rfl
 .rw[if_neg e]
  by_cases w:j<v
  .rw[if_pos (by omega),if_pos (by omega)]
  .rw[if_neg (by omega),if_neg (by omega),ycdm a b,show j-(T.length-(q+1))=(j-(T.length-q))+1 by omega]
   rfl
theorem yedr:ppT T q=ybm (T.drop (T.length-q)):=by unfold ppT;rw[ybds,Nat.one_mul]
theorem yefo(h:bdT T):ppT T q<=ybm T:=by
 rw[yedr]
 conv=>rhs;rw[<-zAL (T.length-q) T,yho]
 exact zY _ (yqu fun b a=>h b (zBM a))
theorem yeck(h:bdT T)(a:q<T.length)(b:v=T.length-1-q)(x:Nat):pP (T.getD v []) (ppT T q) x<=ybm T:=by
 refine zQ (yeji (ycip h)) ?_;have:ppT T q*ybs (T.getD v [])=ppT T (q+1):=by rw[ybqt a b,ysi]
 rw[this];exact yefo h
end
end
section
namespace Sh
open Ev Go.RowKit
def yfd(T:List (List (Int×Int))):List (List Int):=(plT T 1).1
theorem ycbt:∀(rs:List (List (Int×Int))) (p v:Nat),v<rs.length->((plT rs p).1.getD v []).length=(rs.getD v []).length
 |[],_,_,h=>by simp at h
 |r::rs,p,0,_=>ybov r _
 |r::rs,p,v+1,h=>ycbt rs p v (by simpa using h)
theorem yym{T:List (List (Int×Int))}{j:Nat}(a:j<T.length):((yfd T).getD j []).length=(T.getD j []).length:=ycbt T 1 j a
def yds(p:ProgT)(g:Gr)(net:List Nat)(kind:Int)(T:List (List (Int×Int))):List SV:=[yfv p g,usV net,.i .i64 kind,yw T,ydb (yfd T)]
theorem ybwk{Q1 Q2:(Nat->Option ABlk)->Value->Prop}{p:ProgT}{g:Gr}(h:Checked Q1 Q2 p g):Returns zG 123 [.ag (ygc Q1 Q2 p.raw),grV g] (yfv p g):=by
 have a:=h.hp;unfold ProgT.ok at a;simp only[zI,decide_eq_true_eq]at a;have c:Returns zG 123 [.ag (ypp p.raw),grV g] (yfv p g):=(ybjy p.raw h.hg a.1.1.2 a.1.1.1.2).exT
 have b:Ct zG 123 [.ag (ygc Q1 Q2 p.raw),grV g] fun r=>Sim r (yfv p g):=by
  refine(c.use (Q:=fun r=>Sim r (yfv p g)) (Sim.refl _)).simL ?_;exact⟨ybhe _ _ _,Sim.refl _,trivial⟩
 exact Returns.of b
section
variable {Q1 Q2:(Nat->Option ABlk)->Value->Prop}{p:ProgT}{g:Gr}
set_option maxHeartbeats 4000000 in
theorem yblr(h:Checked Q1 Q2 p g)(I:TabOk (tabP p g))(kind:Int):Returns zG 58 [.ag (ygc Q1 Q2 p.raw),grV g,.i .i64 kind] (.rf (yds p g (g.ports.map netP) kind (tabP p g))):=by
 refine Returns.of (ydyu _ _ ?_);have hM:=ybwk h;have W:=ybwm h.hg;have D:=ynk h;have V:=I.tot;have M:=I.len;obtain⟨T,Y⟩:∃T,tabP p g=T:=⟨_,rfl⟩;rw[Y]at D I V M ⊢
 generalize g.ports.map netP=net at W ⊢
 simp only[ygc,grV]at hM W D;simp only[c58,yebp,yeay,ygc,grV,clash,go_sem,zA,zB,zC];refine hM.use ?_;simp only[usV,yfv]at W ⊢;simp only[ybk,clash,go_sem,zA,zB,zD,zC];refine W.use ?_;simp only[go_sem,zB,zD]
 repeat refine ybe ?_
 refine D.use ?_;simp only[ydql,ydyt,yege,yw,splice,clash,go_sem,zA,zB,zD,zC]
 repeat refine ybe ?_
 let B:Nat×Fam:=(21,.one (some ⟨86,true,5,1,fun _=>[yfv p g,usV net,.i .i64 kind,yw T,.os (28,0) 0 T.length true]⟩))
 let y:Nat->Nat×Fam:=fun q=>(303,.many fun j=>if T.length-q<=j/\j<T.length then some (intO (cP T q j))else none)
 let f:Nat->Nat->List SV:=fun q j=>if T.length-q<=j then[.os (303,j) 0 (T.getD j []).length true]else[.a (.slice none 0 0)]
 have G:∀(O:Own) (q j:Nat),T.length-q<=j/\j<T.length->look O 303=some (y q).2->live O (303,j)=true:=fun O q j m ho=>by
  show(lookO O (303,j)).isSome=true;unfold lookO;rw[ho];show(if T.length-q<=j/\j<T.length then some (intO (cP T q j))else none).isSome=true
  rw[if_pos m];rfl
 refine ybf (σ:=Nat) (fun q=>⟨[(9,.i .i64 ((T.length:Int)-1-(q:Nat))),(8,.i .i64 (ppT T q:Nat)),(7,.pt (21,0) 0 0)],[B,(28,.one (some ⟨22,false,1,T.length,f q⟩)),y q]⟩) (fun q=>q<=T.length) (fun q=>T.length-q) 0 (zH _) ?_ ?_
 .refine yx ?_;simp only[B,y,f,usV,yfv,yw,ycpr,wk,go_sem,zA,zC];refine⟨fun _ _ _ _ e=>e,⟨by omega,rfl⟩,fun j m=>?_,fun j b k=>?_⟩
  .rw[if_neg (by omega)];exact yjh rfl
  .rw[if_neg (by omega)]at k;cases k
 .intro q hq
  by_cases z:q<T.length
  .obtain⟨v,hv⟩:∃v,T.length-1-q=v:=⟨_,rfl⟩;have a2:v<T.length:=by omega
   have H:(T.length:Int)-1-(q:Nat)=(v:Int):=by omega
   have d1:decide ((v:Int)>=0)=true:=by simp
   obtain⟨hr,k⟩:=I.at_ a2;have P:=ybqt z hv.symm;have E:=ydmd z hv.symm;have u:=yeck I.bd z hv.symm;obtain⟨n,Q⟩:∃n,ppT T q=n:=⟨_,rfl⟩;obtain⟨d,o⟩:∃d,T.getD v []=d:=⟨_,rfl⟩;rw[o,Q]at P E u;rw[o]at hr k;have a0:¬T.length-q<=v:=by omega
   simp only[ydkq,yeft,ydvg,if_neg a0,B,y,f,usV,yfv,yw,ybb,H,d1,o,Q,splice,clash,go_sem,zA,zB,zD,zC]
   repeat refine ybe ?_
   have N:∀(O:Own) (j:Nat),T.length-q<=j/\j<T.length->look O 303=some (y q).2->Sh.live O (303,j)=true:=fun O j=>G O q j;refine ybf (σ:=Nat) (fun x=>⟨[(10,.i .i64 ((d.length:Int)-1-(x:Nat))),(9,.i .i64 (v:Nat)),(8,.i .i64 (pP d n x:Nat)),(7,.pt (21,0) 0 0)],[B,(28,.one (some ⟨22,false,1,T.length,fun j=>if j=v then[.os (54,0) 0 d.length true]else f q j⟩)),(54,.one (some ⟨3,false,1,d.length,fun t=>[.i .i64 (rowP d n x t)]⟩)),y q]⟩) (fun x=>x<=d.length) (fun x=>d.length-x) 0 (zH _) ?_ ?_
   .refine yx ?_;simp only[B,y,f,usV,yfv,yw,ybb,ydov,wk,go_sem,zA,zC];refine⟨fun _ _ _ _ e=>e,by omega,fun j m=>?_,fun t ht=>by rw[ycjy d n ht],fun j b k=>?_⟩
    .by_cases e:j=v
     .simp only[if_pos e];exact ygu rfl rfl
     .by_cases w:T.length-q<=j
      .simp only[if_neg e,if_pos w];exact ygu (N _ j ⟨w,m⟩ rfl) rfl
      .simp only[if_neg e,if_neg w];exact yjh rfl
    .by_cases w:T.length-q<=j/\j<T.length
     .rw[if_pos w]at k;cases k
      exact⟨_,if_pos w,yco (ycw _)⟩
     .rw[if_neg w]at k;cases k
   .intro x hx
    by_cases s:x<d.length
    .obtain⟨i,hi⟩:∃i,d.length-1-x=i:=⟨_,rfl⟩;have Z:i<d.length:=by omega
     have F:(d.length:Int)-1-(x:Nat)=(i:Int):=by omega
     have d2:decide ((i:Int)>=0)=true:=by simp
     have S:=ydmh (p:=n) s hi.symm;have a1:=rowP_step (p:=n) s hi.symm;have a3:=u x;have a4:=u (x+1);obtain⟨X,b2,b3⟩:=k i Z;obtain⟨⟨lo,L⟩,J⟩:∃b,d.getD i (0,0)=b:=⟨_,rfl⟩;rw[J]at X b2 b3 S;simp only at X b2 b3;have U:=(yqf (b:=(lo,L)) X).2;simp only at U;have hm:((pP d n x:Nat):Int)*(L-lo+1)=((pP d n (x+1):Nat):Int):=by rw[S,zCL,U]
     simp only[ydmr,ydgw,ycuh,ycwh,B,y,f,usV,yfv,yw,ybb,F,d2,o,J,hm,splice,clash,go_sem,zZ,zA,zB,zD,zAB]
     repeat refine ybe ?_
     refine yj (x+1) s (by omega) ?_
     refine yx ?_;simp only[wk,go_sem,zA,zC];refine⟨fun _ _ _ _ e=>e,by omega,fun j m=>?_,fun t ht=>ygd ?_,fun j b k=>?_⟩
     .by_cases e:j=v
      .simp only[if_pos e];exact ygu rfl rfl
      .by_cases w:T.length-q<=j
       .simp only[if_neg e,if_pos w];exact ygu (N _ j ⟨w,m⟩ rfl) rfl
       .simp only[if_neg e,if_neg w];exact yjh rfl
     .rw[a1]
      by_cases e:t=i
      .rw[if_pos e,if_pos e]
      .rw[if_neg e,if_neg e]
     .by_cases w:T.length-q<=j/\j<T.length
      .rw[if_pos w]at k;cases k
       exact⟨_,if_pos w,yco (ycw _)⟩
      .rw[if_neg w]at k;cases k
    .obtain rfl:x=d.length:=by omega
     have F:(d.length:Int)-1-(d.length:Nat) = -1:=by omega
     simp only[ydmr,yebt,B,y,f,usV,yfv,yw,ybb,F,clash,zCS,zCW,go_sem,zA,zB]
     repeat refine ybe ?_
     refine yj (q+1) z (by omega) ?_
     refine yby [(303,fun j=>if j=v then(54,0)else(303,j))] [] [] ?_
     simp only[yeap,P,wk,go_sem,zA,zC];refine⟨?_,by omega,fun j m=>?_,fun j b k=>?_⟩
     .repeat' apply zAM
      all_goals first|exact fun i _=>ybde (by decide) (by decide)|exact fun i _=>yto (by decide) (by decide)|exact fun i _ j _=>ybat (by decide)
     .by_cases e:j=v
      .have C:T.length-(q+1)<=j:=by omega
       simp only[if_pos e,if_pos C];exact ygu (G _ (q+1) j ⟨C,m⟩ rfl) (by subst e;simp only[o,go_sem])
      .by_cases w:T.length-q<=j
       .have C:T.length-(q+1)<=j:=by omega
        simp only[if_neg e,if_pos w,if_pos C];exact ygu (G _ (q+1) j ⟨C,m⟩ rfl) (by simp only[e,go_sem])
       .have C:¬T.length-(q+1)<=j:=by omega
        simp only[if_neg e,if_neg w,if_neg C];exact yjh rfl
     .by_cases w:T.length-(q+1)<=j/\j<T.length
      .rw[if_pos w]at k;cases k
       by_cases e:j=v
       .subst e;simp only[go_sem,zA];have r:=E j;rw[if_pos rfl]at r;rw[r];refine yco (l:=(plR d n).1) (c:=⟨3,false,1,d.length,fun t=>[SV.i .i64 (rowP d n d.length t)]⟩) ⟨⟨rfl,rfl,rfl,(ybov d n).symm⟩,fun t ht=>?_⟩;show[SV.i .i64 (rowP d n d.length t)]=_;rw[yclt]
       .have r:=E j;rw[if_neg e]at r;rw[r];have w2:T.length-q<=j/\j<T.length:=⟨by omega,w.2⟩
        simp only[e,go_sem,zA];exact⟨_,if_pos w2,yco (ycw _)⟩
      .rw[if_neg w]at k;cases k
  .obtain rfl:q=T.length:=by omega
   have H:(T.length:Int)-1-(T.length:Nat) = -1:=by omega
   simp only[ydkq,yczb,B,y,f,usV,yfv,yw,ybb,H,clash,zCS,zCW,go_sem,zA,zB,zD];have A:∀j,T.length-T.length<=j:=fun j=>by omega
   have K:∀j,cP T T.length j=(yfd T).getD j []:=fun j=>yeao T j;have u:(yfd T).length=T.length:=ybdy T 1;have R:∀j,j<T.length->((yfd T).getD j []).length=(T.getD j []).length:=fun j m=>yym m;refine⟨fun j m=>?_,ycxi ⟨Sim.refl _,Sim.refl _,Sim.refl _,Sim.refl _,?_,trivial⟩ rfl⟩
   .simp only[if_pos (A j)];have w:T.length-T.length<=j/\j<T.length:=⟨A j,m⟩;simp only[if_pos w,intO,K,R j m,go_sem,zA]
   .unfold ydb ybc;rw[u];refine yeb fun j m=>?_;simp only[if_pos (A j)];have w:T.length-T.length<=j/\j<T.length:=⟨A j,m⟩;simp only[if_pos w,intO,K,R j m,SimL,go_sem,zA];exact Sim.refl _
end
end Sh
end
section
namespace Sh
open Ev Go.RowKit
theorem yduq{h:Nm->Nm}{a:List Nat}{c:List Nm}{b O:Own}{X:List SV}{k:IntKind}{x:Int}(e:X=[.i k x]):telL h a c b O X [.i k x]:=by
 subst e;exact⟨.inl ⟨trivial,by rw[ycak];exact Sim.refl _,rfl⟩,rfl,trivial⟩
theorem ybgp{l:List Int}{c:OB}{h:Nm->Nm}{f:List Nm}{b d:Own}(a:(c.e=3/\c.bx=false/\c.z=1/\c.n=l.length)/\∀i,i<l.length->c.g i=[.i .i64 (l.getD i 0)]) :
 (c.e=(intO l).e/\c.bx=(intO l).bx/\c.z=(intO l).z/\c.n=(intO l).n)/\(mapE (intO l).e=true->∀i,c.g i=(intO l).g i)/\∀i,i<(intO l).n->telL h [] f b d (c.g i) ((intO l).g i) :=
 ⟨a.1,fun q=>absurd (show false=true from q) zBO,fun i j=>yduq (a.2 i j)⟩
set_option maxHeartbeats 8000000 in
theorem ycok(p:ProgT){g:Gr}(M:ybj g)(V:p.ok=true){c:Conf}(C:ConfIn g.ports.length p.vars.length c){v:Nat}(P:v<g.ports.length){r:Nat}(O:r<p.rules.length) :
 Cm zG 127 [(302,0)] (ybv 302 303 c.length fun j=>c.getD j []) [.rf (ykh p.raw g),.os (302,0) 0 c.length true,.i .i64 v,.i .i64 r] fun W o=>W=ybc (yjx p g c v r)/\o=ybv 302 303 c.length fun j=>c.getD j []:=by
 refine ycmg [(302,0)] [] _ _ _ ?_;obtain⟨R,D⟩:∃R,p.rules.getD r default=R:=⟨_,rfl⟩;have f:=V;unfold ProgT.ok at f;simp only[zI,decide_eq_true_eq]at f
 have d:R.ok p.vars.length=true:=by
  rw[<-D,getD_at O];exact List.all_eq_true.1 f.2 _ (zT _)
 unfold RuleT.ok at d;simp only[zI,decide_eq_true_eq]at d
 have z:p.raw.rules.getD r default=R.raw:=by
  rw[<-D];simp[ProgT.raw,zN,O]
 have h:p.raw.rules.length=p.rules.length:=by simp[ProgT.raw]
 have u:R.raw.sets.length=R.sets.length:=by simp[RuleT.raw]
 have hid:=M.2.2.1;have U:=C.len;have A:=C.at_ P;have I:¬(c.getD v []).length=0:=by omega
 have K:v<c.length:=by omega
 let w:Nat->List Int:=fun j=>c.getD j []
 simp only[c127,ydgb,ycup,ydfk,I,ykh,ydr,yko,z,h,u,ybv,ycz,intO,if_pos K,clash,go_sem,zA,zB,zD,zC];obtain⟨L,s⟩:∃k,p.vars.length=k:=⟨_,rfl⟩;have t:=A.1;rw[s]at t d C;rw[s]at f;have H:yjx p g c v r=yup p g c v (c.getD v []) R.sets:=by unfold yjx;rw[D]
 have y:∀k,(yup p g c v (c.getD v []) (R.sets.take k)).length=L:=fun k=>(yum p g c v _ _).trans t
 repeat refine ybe ?_
 refine ybf (σ:=Nat) (fun k=>⟨[(28,.i .i64 k),(27,.i .i64 R.sets.length),(26,yko R.raw.sets),(0,.rf (ykh p.raw g)),(1,.os (302,0) 0 c.length true),(2,.i .i64 v),(9,.os (17,0) 0 L true)],
  (17,.one (some ⟨3,false,1,L,fun i=>[.i .i64 ((yup p g c v (c.getD v []) (R.sets.take k)).getD i 0)]⟩))::ybv 302 303 c.length w⟩) (fun k=>k<=R.sets.length) (fun k=>R.sets.length-k) 0 (zH _) ?_ ?_
 .refine ybo [] [] [] ?_;simp only[ykh,ydr,yko,h,u,t,ybv,ycz,wk,go_sem,zA,zC];refine⟨fun _ _ _ _ e=>e,fun i m=>rfl,fun i m=>⟨Sim.refl _,by rw[if_pos m]⟩,fun i b l=>?_⟩
  obtain⟨q,rfl⟩:=ydd l;exact⟨_,if_pos q,yco (ycw _)⟩
 .intro k hk;simp only[ycwu,yczs,ydbx,ykh,yko,u,ybv,splice,clash,go_sem,zA,zB,zD,zC];refine⟨fun G=>?_,fun G=>?_⟩
  .have n:k<R.sets.length:=by omega
   obtain⟨S,E⟩:∃S,R.sets.getD k default=S:=⟨_,rfl⟩
   have B:R.raw.sets.getD k default=⟨S.1,S.2.ser⟩:=by
    rw[<-E];simp[RuleT.raw,zN,n]
   have a:=List.all_eq_true.1 d.2 S (by rw[<-E,getD_at n];exact zT _)
   simp only[zI,decide_eq_true_eq]at a;have T:=ybio p.raw M C P S.2 a.1.2 a.2;refine⟨by omega,?_⟩
   rw[B];refine .inl ⟨fun q J=>?_,T.useS ⟨Sim.refl _,?_,Sim.refl _,Sim.refl _,trivial⟩ ?_⟩
   .simp only[ycz,if_pos J];exact⟨zAD _,fun _ _=>⟨trivial,trivial⟩⟩
   .unfold ydb;refine yeb fun q J=>?_;simp only[ycz,if_pos J];exact⟨⟨Sim.refl _,trivial⟩,rfl⟩
   have Q:=ybzt (p.vars.getD S.1.toNat default).kind (ybi g v (p.vars.getD S.1.toNat default)) (ycm g c v S.2 (-1));have x:p.raw.vars=p.vars:=rfl;simp only[yddo,ybk,ybag,yfp,varC,splice,x,s,clash,go_sem,zA,zB,zD];refine⟨by omega,by omega,by omega,Q.use ?_⟩
   simp only[go_sem,zA];have F:Nat.testBit 134217727 25=true:=by decide
   simp only[ydab,F,clash,go_sem,zA,zB];refine⟨by omega,by omega,ikw (by omega) (by omega),?_⟩
   refine ycg (k+1) ?_;refine ybo [] [] [] ?_;simp only[ybsq p g c v _ _ k n,E,ycz,wk,go_sem,zA,zC];refine⟨fun _ _ _ _ e=>e,by omega,fun i m=>ygd ?_,fun i m=>by rw[if_pos m],fun i b l=>?_⟩
   .rw[ybct (by rw[y];omega)]
    by_cases q:i=S.1.toNat
    .simp only[if_pos q]
    .simp only[if_neg q]
   .obtain⟨q,rfl⟩:=ydd l;exact⟨_,if_pos q,yco (ycw _)⟩
  .obtain rfl:k=R.sets.length:=by omega
   simp only[ydbc,yhs,clash,go_sem,zA,zB];have N:=y R.sets.length;rw[zCA,<-H]at N ⊢;refine⟨ybc (yjx p g c v r),ybv 302 303 c.length w,?_,?_,rfl,rfl⟩
   .refine ybo [] [] [(17,0)] ?_;simp only[ybv,ycz,ybc,wk,go_sem,zA,zC];refine⟨fun _ _ _ _ e=>e,by rw[N];exact Sim.refl _,fun i m=>by rw[if_pos m],fun i b l=>?_⟩
    obtain⟨q,rfl⟩:=ydd l;exact⟨_,if_pos q,ybgp (ycw _)⟩
   .simp only[ybv,ycz,ycp,yfq,ybc,wk,go_sem,zA];exact⟨fun k hk=>by rw[if_pos hk],fun i b l=>(ydd l).2▸yli⟩
end Sh
end
section
theorem ybge(f:Nat->Int):∀(l:List Nat),sumI (fun j=>f (l.getD j 0)) l.length=(l.map f).sum
 |[]=>rfl
 | x::l=>by
   show sumI _ (l.length+1)=_;rw[ynl,List.map_cons,List.sum_cons,<-ybge f l];rfl
theorem ybqy(f:Nat->Int)(p:Nat->Bool):∀m,(((zW m).filter p).map f).sum=sumI (fun v=>if p v=true then f v else 0) m
 |0=>rfl
 | m+1=>by
   rw[zBE,zAV,List.map_append,List.sum_append,ybqy f p m];show _=sumI _ m+_;congr 1;cases h:p m<;>simp[h]
theorem ybpd{g:Nat->Int}{n:Nat}:∀d,(∀v,n<=v->g v=0)->sumI g (n+d)=sumI g n
 |0,_=>rfl
 | d+1,h=>by
   show sumI g (n+d)+g (n+d)=_;rw[ybpd d h,h (n+d) (by omega)];omega
theorem yckj{f:Nat->Int}{s n:Nat}(d:n<=32)(a:s<2^n):sumI (fun j=>f ((ycf s).getD j 0)) (ycf s).length=sumI (fun v=>if s.testBit v=true then f v else 0) n:=by
 rw[ybge];unfold ycf;rw[ybqy]
 have:=ybpd (g:=fun v=>if s.testBit v=true then f v else 0) (n:=n) (32-n) fun v b=>by
  show(if s.testBit v=true then f v else 0)=0
  rw[zBF (zAQ a (zK (by omega) b))];rfl
 rw[show n+(32-n)=32 by omega]at this
 exact this
theorem ybqz:∀(xs a:List Int),grR xs xs a=0
 |[],_=>rfl
 |_::_,[]=>rfl
 | x::xs,q::a=>by
   show(x-x)*q+grR xs xs a=0;rw[ybqz xs a,Int.sub_self,Int.zero_mul];rfl
theorem ybnm{f:Nat->Int}{B:Int}:∀n:Nat,(∀i,i<n -> -B<=f i/\f i<=B) -> -(n*B)<=sumI f n/\sumI f n<=n*B
 |0,_=>by simp[sumI]
 | n+1,h=>by
   have d:=ybnm n fun i b=>h i (by omega)
   have a:=h n (by omega)
   show -(((n+1:Nat):Int)*B)<=sumI f n+f n/\sumI f n+f n<=((n+1:Nat):Int)*B;have:((n+1:Nat):Int)*B=n*B+B:=by rw[Int.natCast_add,zDB];simp
   omega
theorem yctb{a b:Int}(d:-2000000<=a/\a<=2000000)(e:0<=b/\b<=32768):-65536000000<=a*b/\a*b<=65536000000:=by
 have f:a*b<=2000000*b:=zAJ d.2 e.1;have h:-2000000*b<=a*b:=zAJ d.1 e.1;omega
theorem ycjm:∀{bs:List (Int×Int)}(p:Nat) {t:Nat},bdR bs->t<bs.length->∃m:Nat,(plR bs p).1.getD t 0=(m:Int)/\m<=p*ybs bs
 |[],_,_,_,h=>by simp at h
 | b::bs,p,0,a,_=>⟨(plR bs p).2,rfl,by
   rw[ysi];exact zAG _ (zY _ (yqf (a b zJ)).1)⟩
 | b::bs,p,t+1,a,h=>by
   obtain⟨m,d,e⟩:=ycjm (bs:=bs) p (t:=t) (fun x f=>a x (zX _ f)) (by simpa using h)
   exact⟨m,d,zQ e (zAG _ (zY _ (yqf (a b zJ)).1))⟩
theorem ycij:∀{rs:List (List (Int×Int))}(p:Nat) {v t:Nat},bdT rs->v<rs.length->t<(rs.getD v []).length->∃m:Nat,((plT rs p).1.getD v []).getD t 0=(m:Int)/\m<=p*ybm rs
 |[],_,_,_,_,h,_=>by simp at h
 | r::rs,p,0,t,a,_,e=>by
   obtain⟨m,b,d⟩:=ycjm (bs:=r) (plT rs p).2 (a r zJ) e;refine⟨m,b,zQ d ?_⟩;rw[ybds];show p*ybm rs*ybs r<=p*(ybs r*ybm rs);rw[zAY,zBB (ybm rs)];exact zAD _
 | r::rs,p,v+1,t,a,h,e=>by
   obtain⟨m,b,d⟩:=ycij (rs:=rs) p (v:=v) (t:=t) (fun x f=>a x (zX _ f)) (by simpa using h) e
   exact⟨m,b,zQ d (zAG _ (zY _ (yly (a r zJ))))⟩
def yom(p:ProgT)(g:Gr)(c:Conf)(v:Nat):Int:=if yep p g c v<0 then 0 else grR (yjx p g c v (yep p g c v).toNat) (c.getD v []) ((plT (tabP p g) 1).1.getD v [])
section
variable {p:ProgT}{g:Gr}{c:Conf}
theorem yegm{v:Nat}:(ybu p g c).testBit v=(decide (v<g.ids.length)&&decide (yep p g c v>=0)):=ymr _ _ _
theorem ydjz(r:ybj g)(t:p.ok=true)(o:∀c,yef p g c=true->∀s,yef p g (ygx p g c s)=true)(h:bdT (tabP p g))(k:yef p g c=true)(b:g.ids.length<=32){s:Nat}(q:subB s (ybu p g c))(e:s<2^g.ids.length) :
 rkT (tabP p g) c+sumI (fun j=>yom p g c ((ycf s).getD j 0)) (ycf s).length=rkT (tabP p g) (ygx p g c s):=by
 have n:yef p g (ygx p g c s)=true:=o c k s;have a:=yjf.1 k;have d:=yjf.1 n;have l:c.length=g.ids.length:=(ync.1 a).1.trans (yib _ _ _);have f:=ydew 1 a d;rw[ybzm (by rw[Sh.ymh]) (by rw[ybdy];exact(yib _ _ _).trans l.symm),l]at f
 rw[yckj b e]
 have m:sumI (fun v=>if s.testBit v=true then yom p g c v else 0) g.ids.length=sumI (fun i=>grR ((ygx p g c s).getD i []) (c.getD i []) ((plT (tabP p g) 1).1.getD i [])) g.ids.length:=ybbi fun v u=>by
  rw[Sh.yqc p g c s (by omega)]
  cases h:s.testBit v with
  | true =>
    have:=q v h;rw[yegm,zI,decide_eq_true_iff,decide_eq_true_iff]at this;show yom p g c v=grR (yjx p g c v _) _ _;unfold yom;rw[if_neg (by omega)]
  | false =>
    show(0:Int)=grR (c.getD v []) _ _;rw[ybqz]
 rw[m,f];omega
end
end
section
def rkN(p:ProgT)(g:Gr)(d:Conf):Nat:=(rkT (tabP p g) d).toNat
def ycgz(perm:Nat->Bool)(p:ProgT)(g:Gr)(c:Conf):List (Nat×Nat):=(chP perm (ybu p g c)).map fun s=>(s,rkN p g (ygx p g c s))
namespace Sh
open Ev Go.RowKit
section
variable {Q1 Q2:(Nat->Option ABlk)->Value->Prop}{p:ProgT}{g:Gr}
theorem ycfp(h:Checked Q1 Q2 p g){c:Conf}(b:yef p g c=true){v:Nat}(e:v<g.ids.length):inR ((tabP p g).getD v []) (yjx p g c v (yep p g c v).toNat):=by
 have d:=yjf.1 (ykp h.hg h.hp h.hf b (2^v));have f:c.length=g.ids.length:=(ync.1 (yjf.1 b)).1.trans (yib _ _ _);have a:=(ync.1 d).2 v (by rw[show(tabP p g).length=g.ids.length from yib _ _ _];exact e)
 rw[yqc p g c _ (by omega),if_pos (by rw[Nat.testBit_two_pow];simp)]at a
 exact a
set_option maxHeartbeats 8000000 in
theorem yccj (h:Checked Q1 Q2 p g) (hT:TabOk (tabP p g)) {kind:Int}(d4:kind=2\/kind=3) (d5:g.ids.length<=4) {c:Conf}(hc:yef p g c=true) {perm:Nat->Bool}
 (b2:∀e s,e<2^g.ids.length->s≠0->s<16->s&&&e=s->Returns zG 171 [usV (g.ports.map netP),.i .i64 kind,.i .u32 (e:Nat),.i .u32 (s:Nat)] (.b (perm s))) :
 Cm zG 60 [(302,0)] (ybv 302 303 c.length fun j=>c.getD j []) [.rf (yds p g (g.ports.map netP) kind (tabP p g)),.os (302,0) 0 c.length true,.i .i64 (rkN p g c:Nat)] fun r o =>
  r = .tp [.i .u32 (ybu p g c:Nat),ybl (ycgz perm p g c),.i .i64 0]/\o=ybv 302 303 c.length fun j=>c.getD j []:=by
 refine ydoy [(302,0)] [129,127] _ _ _ ?_;have hid:=h.hg.2.2.1;have e7:=h.hg.2.1;have b4:=ybrn h.hg h.hp hc;have a8:=yjf.1 hc;obtain⟨c5,c6⟩:=ync.1 a8;have c2:(tabP p g).length=g.ids.length:=yib _ _ _;have e6:c.length=g.ids.length:=c5.trans c2;have b6:ybu p g c<16:=zAQ (yzx p g c) (zK (by omega) d5:2^g.ids.length<=2^4)
 have U:∀v,v<g.ids.length->∃W,(tabP p g).getD v []=W/\W.length<=6/\(c.getD v []).length=W.length/\(yjx p g c v (yep p g c v).toNat).length=W.length/\((yfd (tabP p g)).getD v []).length=W.length /\
  ∀i,i<W.length->(-1000000<=(c.getD v []).getD i 0/\(c.getD v []).getD i 0<=1000000)/\(-1000000<=(yjx p g c v (yep p g c v).toNat).getD i 0/\(yjx p g c v (yep p g c v).toNat).getD i 0<=1000000)/\(0<=((yfd (tabP p g)).getD v []).getD i 0/\((yfd (tabP p g)).getD v []).getD i 0<=32768):=fun v E=>by
  have a0:v<(tabP p g).length:=by omega
  obtain⟨L,n⟩:=hT.at_ a0;obtain⟨h1,h2⟩:=ypf.1 (c6 v a0);obtain⟨h3,h4⟩:=ypf.1 (ycfp h hc E);refine⟨_,rfl,L.2,h1,h3,yym a0,fun i t=>?_⟩;have a:=n i t;have b:=h2 i t;have d:=h4 i t;obtain⟨m,e1,H⟩:=ycij 1 hT.bd a0 t;have e3:((yfd (tabP p g)).getD v []).getD i 0=(m:Int):=e1;have e4:=hT.tot;rw[e3];omega
 have P:∀v,v<g.ids.length->∀x,x<=(c.getD v []).length -> -1000000000000<=sumI (fun i=>((yjx p g c v (yep p g c v).toNat).getD i 0-(c.getD v []).getD i 0)*((yfd (tabP p g)).getD v []).getD i 0) x/\sumI (fun i=>((yjx p g c v (yep p g c v).toNat).getD i 0-(c.getD v []).getD i 0)*((yfd (tabP p g)).getD v []).getD i 0) x<=1000000000000:=fun v E x hx=>by
  obtain⟨W,-,h1,h2,-,-,h3⟩:=U v E;have:=ybnm (B:=65536000000) x fun i t=>yctb (a:=(yjx p g c v (yep p g c v).toNat).getD i 0-(c.getD v []).getD i 0) (b:=((yfd (tabP p g)).getD v []).getD i 0) (by have:=h3 i (by omega);omega) (h3 i (by omega)).2.2
  have f6:(x:Int)<=6:=by omega
  omega
 have a2:∀v,v<g.ids.length->¬yep p g c v<0->yom p g c v=sumI (fun i=>((yjx p g c v (yep p g c v).toNat).getD i 0-(c.getD v []).getD i 0)*((yfd (tabP p g)).getD v []).getD i 0) (c.getD v []).length:=fun v E L=>by
  obtain⟨W,-,h1,h2,h3,h4,-⟩:=U v E;unfold yom;rw[if_neg L];exact ycbs (by omega) (by show((yfd (tabP p g)).getD v []).length=_;omega)
 have Q:∀v,v<g.ids.length -> -1000000000000<=yom p g c v/\yom p g c v<=1000000000000:=fun v E=>by
  by_cases L:yep p g c v<0
  .have:yom p g c v=0:=if_pos L;omega
  .rw[a2 v E L];exact P v E _ (zAD _)
 have a7:=fun v (E:v<g.ids.length)=>yclq p h.hg h.hp b4 (v:=v) (by omega)
 have a5:=fun v (E:v<g.ids.length) (r:Nat) (L:r<p.rules.length)=>ycok p h.hg h.hp b4 (v:=v) (by omega) L
 let bc:List SV:=yds p g (g.ports.map netP) kind (tabP p g)
 let w:Nat->List Int:=fun j=>c.getD j []
 let K:Own:=ybv 302 303 c.length w
 let f:Nat->Bool:=fun j=>decide (yep p g c j>=0)
 simp only[c60,yefr,yedv,yecn,yecy,yds,ybv,clash,go_sem,zA,zB,zC];refine ybf (σ:=Nat) (fun v=>⟨[(23,.i .i64 v),(22,.i .i64 (c.length:Nat)),(1,.os (302,0) 0 c.length true),(0,.rf bc),(9,.i .u32 (ymo f v:Nat)),(2,.i .i64 (rkN p g c:Nat)),(10,.pt (10,0) 0 0)],(10,.one (some ⟨150,true,1,24,fun j=>[.i .i64 (if j<v then yom p g c j else 0)]⟩))::K⟩) (fun v=>v<=g.ids.length) (fun v=>g.ids.length-v) 0 (zH _) ?_ ?_
 .refine ybo [] [] [] ?_;simp only[K,ybv,ycz,bc,yds,ydb,ybc,ymo,zAA,wk,go_sem,zA,zC];exact⟨fun _ _ _ _ e=>e,fun i t=>⟨Sim.refl _,by rw[if_pos t]⟩,fun i b n=>yed n⟩
 .intro v E
  by_cases A:v<g.ids.length
  .have d1 : decide ((v:Int)<(c.length:Int))=true:=by simp;omega
   have f4:=ycoe p g c v;have Y:ymo f (v+1)=if f v=true then ymo f v|||2^v else ymo f v:=rfl
   have f5:=ybdw f v;have e8:2^v<=2^4:=zK (by omega) (by omega)
   have hR:=a7 v A
   by_cases L:yep p g c v<0
   .have d2:decide (yep p g c v<0)=true:=decide_eq_true L;have b0:f v=false:=decide_eq_false (by omega)
    rw[b0,if_neg (by decide)]at Y
    have c8:yom p g c v=0:=if_pos L;simp only[ycrv,ydng,ydix,ydig,ycik,K,ybv,bc,yds,yfv,d1,clash,go_sem,zA,zB,zD,zF];refine .inl ⟨fun q F=>?_,hR.useS ⟨ybgc _ _,?_,Sim.refl _,trivial⟩ (zAM rfl ?_)⟩
    .simp only[ycz,if_pos F];exact⟨zAD _,fun _ _=>⟨trivial,trivial⟩⟩
    .unfold ydb;refine yeb fun q F=>?_;simp only[ycz,if_pos F];exact⟨⟨Sim.refl _,trivial⟩,rfl⟩
    simp only[ybk,d2,clash,go_sem,zA,zB]
    repeat refine ybe ?_
    refine yj (v+1) A (by omega) ?_
    refine ybo [] [] [] ?_;simp only[ycz,Y,wk,go_sem,zA,zC];refine⟨fun _ _ _ _ e=>e,by omega,fun j hj=>?_,fun i t=>by rw[if_pos t],fun i b n=>yed n⟩
    by_cases e:j<v
    .rw[if_pos e,if_pos (by omega)]
    .rw[if_neg e]
     by_cases H:j=v
     .rw[if_pos (by omega),H,c8]
     .rw[if_neg (by omega)]
   .have d2:decide (yep p g c v<0)=false:=decide_eq_false L;obtain⟨r,c0⟩:∃r:Nat,yep p g c v=(r:Int):=⟨(yep p g c v).toNat,by omega⟩
    have b0:f v=true:=decide_eq_true (by omega)
    rw[b0,if_pos rfl]at Y;have hM:=a5 v A r (by omega)
    have b9:=ycfp h hc A;rw[c0]at hR d2 b9;rw[zAK]at b9;have I:=P v A;have J:=a2 v A L;obtain⟨W,-,w1,w2,w3,w4,w5⟩:=U v A;rw[c0,zAK]at I J w3 w5;have f1:(yfd (tabP p g)).length=g.ids.length:=(ybdy _ 1).trans c2;obtain⟨M,c4⟩:∃M,yjx p g c v r=M:=⟨_,rfl⟩;obtain⟨cv,a1⟩:∃cv,c.getD v []=cv:=⟨_,rfl⟩;obtain⟨qv,a3⟩:∃qv,(yfd (tabP p g)).getD v []=qv:=⟨_,rfl⟩;rw[c4]at hM I J w3 w5;rw[a1]at I J w2 w5;rw[a3]at I J w4 w5
    let gt:Nat->Int:=sumI (fun i=>(M.getD i 0-cv.getD i 0)*qv.getD i 0)
    have u1:=ybre (v:=v) (by omega)
    have u2:=u32_or (a:=ymo f v) (b:=2^v) (by omega) (by omega)
    rw[<-Y]at u2;simp only[IntKind.bits,zAK]at u1 u2;simp only[ycrv,ydng,ydix,ydig,K,ybv,bc,yds,yfv,d1,clash,go_sem,zA,zB,zD,zF];refine .inl ⟨fun q F=>?_,hR.useS ⟨ybgc _ _,?_,Sim.refl _,trivial⟩ (zAM rfl ?_)⟩
    .simp only[ycz,if_pos F];exact⟨zAD _,fun _ _=>⟨trivial,trivial⟩⟩
    .unfold ydb;refine yeb fun q F=>?_;simp only[ycz,if_pos F];exact⟨⟨Sim.refl _,trivial⟩,rfl⟩
    simp only[ybk,ydys,ydwa,d2,u1,u2,clash,go_sem,zA,zB,zD,zF]
    repeat refine ybe ?_
    refine yfb hM [(302,302),(303,303)] 400 [11,23,22,1,0,9,2,10] [10] ?_ ?_
    .simp only[ybv,ycz,to1,okN,ycp,yfq,yeq,yeg,wk,go_sem,zA,zB,zC,zF];exact⟨fun _ _ _ _ e=>e,ybgc _ _,fun i t=>⟨Sim.refl _,by rw[if_pos t]⟩,fun i b n=>yed n⟩
    rintro r o' ⟨rfl,rfl⟩;simp only[ybv,ybc,ypd,ymp,nuF,nu,difN,yeq,yeg,Fam.ren,OB.ren,dim,ybbg,ykn,go_sem,zA,zB,zF];refine ybf (σ:=Nat) (fun x=>⟨[(48,.i .i64 x),(47,.i .i64 (M.length:Nat)),(46,ybc M),(11,.i .i64 v),(23,.i .i64 v),(22,.i .i64 (c.length:Nat)),(1,.os (302,0) 0 c.length true),(0,.rf bc),(9,.i .u32 (ymo f (v+1):Nat)),(2,.i .i64 (rkN p g c:Nat)),(10,.pt (10,0) 0 0)],(10,.one (some ⟨150,true,1,24,fun j=>[.i .i64 (if j=v then gt x else if j<v then yom p g c j else 0)]⟩))::K⟩) (fun x=>x<=M.length) (fun x=>M.length-x) 0 (zH _) ?_ ?_
    .refine ybo [] [] [] ?_;simp only[K,ybv,ycz,bc,yds,ybc,wk,go_sem,zA,zC];refine⟨fun _ _ _ _ e=>e,Sim.refl _,fun i t=>?_,fun i t=>⟨Sim.refl _,by rw[if_pos t]⟩,fun i b n=>yjv (h':=nu [(302,302),(303,303)] 400) n⟩
     have:gt 0=0:=rfl
     by_cases e:i=v
     .rw[if_pos e,if_neg (by omega),this]
     .rw[if_neg e]
    .intro x hx
     by_cases D:x<M.length
     .have d3:=dec_lt D;have c9:=I x (by omega)
      have d0:=I (x+1) (by omega)
      have X:gt (x+1)=gt x+(M.getD x 0-cv.getD x 0)*qv.getD x 0:=rfl
      change -1000000000000<=gt x/\gt x<=1000000000000 at c9
      change -1000000000000<=gt (x+1)/\gt (x+1)<=1000000000000 at d0
      obtain⟨y1,y2,y3⟩:=w5 x (by omega)
      obtain⟨Mx,a6⟩:∃y,M.getD x 0=y:=⟨_,rfl⟩;obtain⟨cx,a9⟩:∃y,cv.getD x 0=y:=⟨_,rfl⟩;obtain⟨qx,b3⟩:∃y,qv.getD x 0=y:=⟨_,rfl⟩;rw[a6,a9,b3]at X;rw[a6]at y2;rw[a9]at y1;rw[b3]at y3;have e9:=yctb (a:=Mx-cx) (b:=qx) (by omega) y3
      have d7:v<c.length:=by omega
      have d9:w v=cv:=a1;simp only[K,ybv,ycz,intO,if_pos d7,d9,ycjq,ydba,ydbt,ydfs,bc,yds,ydb,ybc,d3,a3,a6,a9,b3,splice,clash,go_sem,zA,zB]
      repeat refine ybe ?_
      refine yj (x+1) D (by omega) ?_
      refine ybo [] [] [] ?_;simp only[wk,go_sem,zA,zC];refine⟨fun _ _ _ _ e=>e,by omega,fun i t=>ygd ?_,fun i t=>by rw[if_pos t],fun i b n=>yed n⟩
      by_cases e:i=v
      .rw[if_pos e,if_pos e,X]
      .rw[if_neg e,if_neg e,if_neg e]
     .obtain rfl:x=M.length:=by omega
      simp only[K,ybv,ycjq,ycik,bc,yds,ybc,zL,clash,go_sem,zA,zB]
      repeat refine ybe ?_
      refine yj (v+1) A (by omega) ?_
      refine ybo [] [] [] ?_;simp only[ycz,wk,go_sem,zA,zC];refine⟨fun _ _ _ _ e=>e,⟨by omega,Sim.refl _⟩,fun j hj=>?_,fun i t=>by rw[if_pos t],fun i b n=>yed n⟩
      by_cases e:j=v
      .rw[if_pos e,if_pos (by omega),e,J]
       show sumI _ M.length=_;rw[show M.length=cv.length by omega]
      .rw[if_neg e]
       by_cases H:j<v
       .rw[if_pos H,if_pos (by omega)]
       .rw[if_neg H,if_neg (by omega)]
  .obtain rfl:v=g.ids.length:=by omega
   have d1:decide (((g.ids.length:Nat):Int)<(c.length:Int))=false:=by simp;omega
   have c7:ymo f g.ids.length=ybu p g c:=rfl;obtain⟨en,O⟩:∃e,ybu p g c=e:=⟨_,rfl⟩;have Z:=ybny (net:=g.ports.map netP) d4 b6 (fun s h1 h2 h3=>b2 _ s (yzx p g c) h1 h2 h3);have V:=fun s (hs:subB s (ybu p g c)) (h2:s<2^g.ids.length)=>ydjz h.hg h.hp (fun c hc s=>ykp h.hg h.hp h.hf hc s) hT.bd hc (by omega) hs h2
   have S:=fun s (hs:s∈chP perm (ybu p g c))=>ybrx hs;rw[c7];rw[O]at Z V S b6 ⊢;obtain⟨z,N⟩:∃l,chP perm en=l:=⟨_,rfl⟩;have b5:ycgz perm p g c=z.map fun s=>(s,rkN p g (ygx p g c s)):=by unfold ycgz;rw[O,N]
   rw[b5];rw[N]at Z S;have e5:z.length<=16:=by rw[<-N];exact ybcy _ _ _
   simp only[usV]at Z;simp only[K,ybv,ycrv,ycus,bc,yds,d1,clash,go_sem,zA,zB,zD,zF];refine Z.use ?_;simp only[ybk,ycwf,yctm,yddp,splice,clash,go_sem,zA,zB,zC]
   repeat refine ybe ?_
   let R:Nat->Nat:=fun s=>rkN p g (ygx p g c s)
   let u:Nat->Nat->Nat:=fun i j=>if j<i then z.getD j 0 else 0
   let w:Nat->Nat->Int:=fun i j=>if j<i then(R (z.getD j 0):Nat)else 0
   have d6:∀j,u 0 j=0:=fun j=>if_neg (zAA j);have d8:∀j,w 0 j=0:=fun j=>if_neg (zAA j)
   let G:OB:=⟨150,true,1,24,fun j=>[.i .i64 (if j<g.ids.length then yom p g c j else 0)]⟩
   let B:Own:=[(17,.one (some ⟨78,true,1,1,fun _=>[.os (98,0) 0 z.length true]⟩)),(10,.one (some G))]++K
   let C:(Nat->Nat)->(Nat->Int)->Nat×Fam:=fun u w=>(98,.one (some ⟨103,false,2,z.length,fun j=>[.i .u32 (u j:Nat),.i .i64 (w j)]⟩))
   refine ybf (σ:=Nat) (fun i=>⟨[(101,.i .i64 i),(100,.i .i64 (z.length:Nat)),(99,usV z),(9,.i .u32 (en:Nat)),(2,.i .i64 (rkN p g c:Nat)),(10,.pt (10,0) 0 0),(17,.pt (17,0) 0 0)],C (u i) (w i)::B⟩) (fun i=>i<=z.length) (fun i=>z.length-i) 0 (zH _) ?_ ?_
   .refine ybo [] [] [] ?_;simp only[K,ybv,ycz,usV,G,B,C,d6,d8,wk,go_sem,zA,zC];exact⟨fun _ _ _ _ e=>e,fun i t=>by rw[if_pos t],fun i b n=>yed n⟩
   .intro i t
    by_cases A:i<z.length
    .have d2:=dec_lt A;obtain⟨s,hs⟩:∃s,z.getD i 0=s:=⟨_,rfl⟩;obtain⟨m1,m2,m3,-⟩:=S s (by rw[<-hs];exact getD_mem A)
     have e0:s<2^24:=by omega
     have a4:subB s en:=fun v E=>by
      have:(s&&&en).testBit v=true:=by rw[m3];exact E
      rw[zCM,zI]at this;exact this.2
     have b7:en<2^g.ids.length:=by rw[<-O];exact yzx p g c
     have c1:s<2^g.ids.length:=ybdn a4 b7
     let gv:Nat->Int:=fun q=>(rkN p g c:Nat)+sumI (fun j=>yom p g c ((ycf s).getD j 0)) q
     have b1:gv (ycf s).length=(R s:Nat):=by
      have e1:=V s a4 c1;have H:=(ybca a8).1;have e3:=(ybca (yjf.1 (ykp h.hg h.hp h.hf hc s))).1;show((rkT (tabP p g) c).toNat:Int)+_=((rkT (tabP p g) (ygx p g c s)).toNat:Int);omega
     have T:∀q,q<(ycf s).length->(ycf s).getD q 0<g.ids.length:=fun q F=>by
      obtain⟨-,n⟩:=ycpj e0 (getD_mem F);refine zAC fun J=>?_;rw[zBF (zAQ c1 (zK (by omega) (by omega)))]at n
      cases n
     have f0:(ycf s).length<=32:=by
      have:=zBG (fun v=>s.testBit v) (zW 32);unfold ycf
      simpa using this
     have f3:rkN p g c<=32768:=by
      have H:=ybca a8;have e3:=hT.tot;show(rkT (tabP p g) c).toNat<=_;omega
     have b8:∀q,q<=(ycf s).length -> -100000000000000<=gv q/\gv q<=100000000000000:=fun q F=>by
      have:=ybnm (f:=fun j=>yom p g c ((ycf s).getD j 0)) (B:=1000000000000) q fun j hj=>Q _ (T j (by omega))
      have f2:(q:Int)<=32:=by omega
      show -100000000000000<=(rkN p g c:Int)+_/\(rkN p g c:Int)+_<=100000000000000;omega
     have X:∀q,gv (q+1)=gv q+yom p g c ((ycf s).getD q 0):=fun q=>by
      exact(Int.add_assoc _ _ _).symm
     simp only[K,ybv,ycit,ydbf,ydge,ycsv,usV,G,B,C,d2,hs,splice,clash,go_sem,zA,zB,zD,zC]
     repeat refine ybe ?_
     refine yfb (ycqg (s:=s)) [(1,60)] 0 [101,100,99,9,2,10,17,18] [17,18,10,98,302,303] ?_ ?_
     .simp only[ycz,to1,okN,ycp,yfq,yeq,yeg,wk,go_sem,zA,zF];exact⟨fun k hk=>by split<;>rfl,fun i b n=>(ydd n).2▸yli⟩
     rintro r o' ⟨rfl,rfl⟩;simp only[setO,ypd,ymp,nuF,nu,difN,yeq,yeg,Fam.ren,OB.ren,dim,yil,ycyd,yczz,go_sem,zA,zF]
     refine yrg (ycdy (b:=60) (s:=s) (by omega)) [(60,0),(17,0),(18,0),(10,0),(98,0),(302,0)] (fun q (_:Unit)=>⟨[(113,.fn 172 [] [.pt (60,0) 0 0]),(101,.i .i64 i),(100,.i .i64 (z.length:Nat)),(99,usV z),(9,.i .u32 (en:Nat)),(2,.i .i64 (rkN p g c:Nat)),(10,.pt (10,0) 0 0),(17,.pt (17,0) 0 0),(18,.pt (18,0) 0 0)],
      (60,.one (some (setO (yei s q))))::(18,.one (some ⟨3,true,1,1,fun _=>[.i .i64 i]⟩))::C (fun k=>if k=i then s else u i k) (fun k=>if k=i then gv q else w i k)::B⟩)
      (fun q _=>q<=(ycf s).length) () (zH _) ⟨fun β h=>by rw[List.mem_singleton.1 h];simp,fun β h=>by rw[List.mem_singleton.1 h];exact zJ⟩ ?_ (fun _=>rfl) ?_ ?_ ?_
     .refine ybo [] [] [] ?_;simp only[K,ybv,ycz,setO,usV,yei,G,B,C,wk,go_sem,zA,zC];refine⟨fun _ _ _ _ e=>e,fun k hk=>?_,fun i t=>by rw[if_pos t],fun i b n=>yed n⟩
      have h0:gv 0=(rkN p g c:Nat):=Int.add_zero _
      by_cases e:k=i
      .rw[if_pos e,if_pos e,if_pos e,h0];exact yqt rfl
      .rw[if_neg e,if_neg e,if_neg e];exact yqt rfl
     .intro q _ F _;refine⟨rfl,?_⟩;simp only[usV,wk,go_sem,zA]
     .intro q _ F D;have D:q<(ycf s).length:=D;have E:=T q D;have g1:=b8 q (by omega)
      have g2:=b8 (q+1) (by omega)
      have g3:=X q;have g4:=Q _ E;obtain⟨v,c3⟩:∃v,(ycf s).getD q 0=v:=⟨_,rfl⟩;rw[c3]at E g3 g4;refine⟨_,rfl,?_⟩;simp only[ycfx];simp only[K,ybv,ydgx,yctd,usV,G,B,C,c3,if_pos E,splice,clash,go_sem,zA,zB]
      repeat refine ybe ?_
      refine ybo [] [] [] ?_;simp only[ycz,setO,wk,go_sem,zA,zC];refine⟨fun _ _ _ _ e=>e,fun k hk=>?_,fun i t=>by rw[if_pos t],fun i b n=>yed n⟩
      by_cases e:k=i
      .rw[if_pos e,if_pos e,if_pos e,g3];exact yqt rfl
      .simp only[if_neg e];exact yqt rfl
     .intro _ _;simp only[ydfg,ycfx,clash,go_sem,zA,zB]
      repeat refine ybe ?_
      refine yj (i+1) A (by omega) ?_
      refine ybo [] [] [] ?_;simp only[K,ybv,ycz,usV,G,B,C,b1,wk,go_sem,zA,zC];refine⟨fun _ _ _ _ e=>e,by omega,fun k hk=>?_,fun i t=>by rw[if_pos t],fun i b n=>yed n⟩
      show _=((if k<i+1 then z.getD k 0 else 0:Nat):Int)/\_=(if k<i+1 then((R (z.getD k 0):Nat):Int)else 0)
      by_cases e:k=i
      .rw[if_pos e,if_pos e,if_pos (by omega),if_pos (by omega),e,hs]
       exact⟨rfl,rfl⟩
      .rw[if_neg e,if_neg e]
       by_cases H:k<i
       .rw[if_pos (by omega),if_pos (by omega)]
        exact⟨congrArg _ (if_pos H),if_pos H⟩
       .rw[if_neg (by omega),if_neg (by omega)]
        exact⟨congrArg _ (if_neg H),if_neg H⟩
    .obtain rfl:i=z.length:=by omega
     simp only[ycit,ydhd,yhs,usV,G,B,C,K,ybv,zL,clash,go_sem,zA,zB]
     repeat refine ybe ?_
     refine⟨.tp [.i .u32 (en:Nat),ybl (z.map fun s=>(s,rkN p g (ygx p g c s))),.i .i64 0],K,?_,?_,rfl,rfl⟩
     .refine ybo [] [] [(98,0)] ?_;simp only[K,ybv,ycz,ybl,zAI,wk,go_sem,zA,zC];refine⟨fun _ _ _ _ e=>e,ybbj ⟨Sim.refl _,yeb fun q F=>?_,Sim.refl _,trivial⟩,fun i t=>by rw[if_pos t],fun i b n=>?_⟩
      .have e1:u z.length q=z.getD q 0:=if_pos F;have H:w z.length q=(R (z.getD q 0):Nat):=if_pos F
       have e3:(z.map fun s=>(s,rkN p g (ygx p g c s))).getD q (0,0)=(z.getD q 0,R (z.getD q 0)):=by
        simp only[zAO,zBS,zM F];rfl
       rw[e1,H,e3];exact⟨⟨Sim.refl _,Sim.refl _,trivial⟩,rfl⟩
      .obtain⟨q,rfl⟩:=ydd n;exact⟨_,if_pos q,ybgp (ycw _)⟩
     .simp only[K,ybv,ycz,ycp,yfq,ybl,wk,go_sem,zA];exact⟨fun k hk=>by rw[if_pos hk],fun i b n=>(ydd n).2▸yli⟩
end
end Sh
end
section
def cfP(p:ProgT)(g:Gr)(k:Nat):Conf:=(unT (tabP p g) k).1
def spcP(perm:Nat->Bool)(p:ProgT)(g:Gr):Spc:=⟨ybm (tabP p g),fun k=>ybu p g (cfP p g k),fun k=>ycgz perm p g (cfP p g k)⟩
def cfA(T:List (List (Int×Int))):Nat->Conf
 |0=>(unT T 0).1
 |k+1=>(advT T (cfA T k)).1
theorem ybyc{T:List (List (Int×Int))}(a:bdT T):∀{k:Nat},k<ybm T->cfA T k=(unT T k).1
 |0,_=>rfl
 | k+1,h=>by
   show(advT T (cfA T k)).1=_;rw[ybyc a (by omega),ydoj a h]
theorem ydxs{p:ProgT}{g:Gr}{k:Nat}(hk:k<ybm (tabP p g)):rkN p g (cfP p g k)=k:=by
 unfold rkN cfP;rw[ybqf,Nat.mod_eq_of_lt hk,zAK]
theorem yccr{p:ProgT}{g:Gr}(a:bdT (tabP p g))(k:Nat):yef p g (cfP p g k)=true:=yjf.2 (ybbs k a)
namespace Sh
open Ev Go.RowKit
theorem ybzr{h:Nm->Nm}{a:List Nat}{b O:Own}(l:List (Nat×Nat)):telL h a [] b O [ybl l] [ybl l]:=⟨.inl ⟨(yir _ _ _).2 trivial,by rw[yew];exact Sim.refl _,rfl⟩,rfl,trivial⟩
section
variable {Q1 Q2:(Nat->Option ABlk)->Value->Prop}{p:ProgT}{g:Gr}
set_option maxHeartbeats 8000000 in
theorem yceq (h:Checked Q1 Q2 p g) (d:TabOk (tabP p g)) {kind:Int}(O:kind=2\/kind=3) (a3:g.ids.length<=4) {perm:Nat->Bool}
 (H:∀e s,e<2^g.ids.length->s≠0->s<16->s&&&e=s->Returns zG 171 [usV (g.ports.map netP),.i .i64 kind,.i .u32 (e:Nat),.i .u32 (s:Nat)] (.b (perm s)))
 (z:sumA (spcP perm p g) (ybm (tabP p g))<=262144) :
 Returns zG 14 [.ag (ygc Q1 Q2 p.raw),grV g,.i .i64 kind] (.tp [.ag (spcC (spcP perm p g)),.i .i64 0]):=by
 refine Returns.of (ydis [59,61,60] _ _ ?_);have W:=ybxs h d;have hD:=ybva kind;have A:=yblr h d kind;have X:=ycoa h d;have Y:=fun k (hk:k<ybm (tabP p g))=>yccj h d O a3 (c:=cfP p g k) (yccr d.bd k) H;have I:(decide (1<=kind)&&decide (kind<=4))=true:=by rcases O with rfl|rfl<;>rfl
 rw[I]at hD;obtain⟨S,n⟩:∃S,spcP perm p g=S:=⟨_,rfl⟩;have C:S.N=ybm (tabP p g):=by rw[<-n];rfl
 have K:∀k,ybu p g (cfP p g k)=S.en k:=fun k=>by rw[<-n];rfl
 have Z:∀k,ycgz perm p g (cfP p g k)=S.arcs k:=fun k=>by rw[<-n];rfl
 have G:=fun k (hk:k<=S.N)=>ymn S hk;rw[n]at z ⊢;rw[<-C]at z;have J:=d.tot;obtain⟨T,u⟩:∃T,tabP p g=T:=⟨_,rfl⟩;have a1:∀k,cfP p g k=(unT T k).1:=fun k=>by rw[<-u];rfl
 have Q:=fun k=>ydxs (p:=p) (g:=g) (k:=k);have a7:T.length=g.ids.length:=by rw[<-u];exact yib _ _ _
 rw[u]at d W X A Y C J;simp only[u]at Q Y;have hA:=fun k=>ybwi d (c:=cfA T k);simp only[ygc,grV]at W A X;simp only[c14,ydva,yeac,ygc,grV,clash,go_sem,zA,zB,zC,zF];refine W.use ?_;simp only[ybk,ydvl,ydtt,clash,zS,go_sem,zA,zB,zF];refine hD.use ?_;simp only[ybk,yeeg,yeeu,clash,zS,go_sem,zA,zB,zF];refine A.use ?_;simp only[ydri,ycun,clash,go_sem,zA,zB,zD,zC]
 repeat refine ybe ?_
 refine yfb X [(302,72),(303,73)] 400 [10,8,11,6] [46,48,11,6] ?_ ?_
 .simp only[yds,usV,yw,ydb,yfv,to1,okN,ycp,yfq,yeq,yeg,wk,go_sem,zA,zB,zF]
 rintro r o' ⟨rfl,rfl⟩;simp only[ybv,ypd,ymp,nuF,nu,difN,yeq,yeg,Fam.ren,OB.ren,dim,yil,yqz,ykn,go_sem,zA,zB,zF];simp only[ydha,ydgd,clash,go_sem,zA,zB]
 let B:Own:=[(6,.one (some ⟨41,true,2,1,fun _=>[.a (.slice none 0 0),.a (.slice none 0 0)]⟩)),(11,.one (some ⟨41,true,2,1,fun _=>[.os (46,0) 0 (ybm T) true,.os (48,0) 0 (ybm T) true]⟩))]
 let e:Nat->Nat->Nat:=fun k j=>if j<k then S.en j else 0
 let a:Nat->Nat->SV:=fun k j=>if j<k then ybl (S.arcs j)else .a (.slice none 0 0)
 have a2:∀j,e 0 j=0:=fun j=>if_neg (zAA j)
 have y:∀{p:Nm->Bool}(k j:Nat),cln p 5 (a k j)=true:=fun k j=>by
  show cln _ 5 (if j<k then ybl (S.arcs j)else .a (.slice none 0 0))=true
  split<;>rfl
 have a0:∀j,a 0 j = .a (.slice none 0 0):=fun j=>if_neg (zAA j)
 let V:(Nat->Nat)->(Nat->SV)->Own:=fun e a=>[(46,.one (some ⟨77,false,1,ybm T,fun j=>[.i .u32 (e j:Nat)]⟩)),(48,.one (some ⟨78,false,1,ybm T,fun j=>[a j]⟩))]
 refine ybf (σ:=Nat) (fun k=>⟨[(57,.i .i64 k),(56,.i .i64 (ybm T:Nat)),(10,.rf (yds p g (g.ports.map netP) kind T)),(12,.os (72,0) 0 T.length true),(14,.i .i64 (sumA S k:Nat)),(11,.pt (11,0) 0 0),(6,.pt (6,0) 0 0)],
  ybv 72 73 T.length (fun j=>(cfA T k).getD j [])++(V (e k) (a k)++B)⟩) (fun k=>k<=ybm T) (fun k=>ybm T-k) 0 (zH _) ?_ ?_
 .refine yx ?_
  have P:∀v,v<T.length->(cfA T 0).getD v []=lowT T v:=fun v I=>by
   show(unT T 0).1.getD v []=_;rw[ycku d.bd,yyw I]
  simp only[B,V,a2,a0,ybv,ycz,yds,usV,yw,ydb,yfv,wk,go_sem,zA,zC];refine⟨fun _ _ _ _ e=>e,rfl,fun v I=>⟨by rw[P v I];exact Sim.refl _,by rw[if_pos I]⟩,fun v b D=>?_⟩
  obtain⟨q,rfl⟩:=ydd D;rw[P v q];exact yjv (h':=nu [(302,72),(303,73)] 400) (w:=lowT T) (if_pos q)
 .intro k hk
  by_cases f:k<ybm T
  .have d1:=dec_lt f;have E:=ybyc d.bd f;have a5:=ybyc (k:=k+1) d.bd;have m:=hA k (by rw[E];exact ybbs k d.bd)
   have o:=Y k f;rw[K,Z,Q k f,a1 k,<-E]at o;have M:(cfA T k).length=T.length:=(ync.1 (by rw[E];exact ybbs k d.bd)).1
   have a4:(advT T (cfA T k)).1=cfA T (k+1):=rfl;rw[a4]at m;obtain⟨c,hc⟩:∃c,cfA T k=c:=⟨_,rfl⟩;obtain⟨c',L⟩:∃c,cfA T (k+1)=c:=⟨_,rfl⟩;rw[hc]at M o m;rw[L]at m;have a6:=G (k+1) (by omega)
   have R:sumA S (k+1)=sumA S k+(S.arcs k).length:=rfl;obtain⟨tot,l⟩:∃t,sumA S k=t:=⟨_,rfl⟩;rw[l]at R;have d2:decide ((tot:Int)+((S.arcs k).length:Int)>262144)=false:=by simp;omega
   rw[M]at o;simp only[ybye,ydef,ycsw,B,V,ybv,d1,hc,clash,go_sem,zA,zB,zF];refine yfb o [(302,72),(303,73)] 400 [15,57,56,10,12,14,11,6] [46,48,11,6] ?_ ?_
   .simp only[ybv,ycz,yds,usV,yw,ydb,yfv,to1,okN,ycp,yfq,yeq,yeg,wk,go_sem,zA,zB,zC,zF];exact⟨⟨fun _ _ _ _ e=>e,fun i F=>by rw[if_pos F],fun i b D=>yed (w:=fun j=>c.getD j []) D⟩,fun j _=>y k j⟩
   rintro r o' ⟨rfl,rfl⟩;simp only[ybv,ybl,ypd,ymp,nuF,nu,difN,yeq,yeg,Fam.ren,OB.ren,dim,yil,ybbg,yqz,ykn,go_sem,zA,zB,zF];simp only[ydes,ycvz,ydez,ycya,yds,l,d2,splice,clash,zS,go_sem,zA,zB,zD,zF]
   repeat refine ybe ?_
   refine yfb m [(302,72),(303,73)] 400 [57,56,10,12,14,11,6] [46,48,11,6] ?_ ?_
   .simp only[ybv,ycz,usV,yw,ydb,yfv,to1,okN,ycp,yfq,yeq,yeg,wk,go_sem,zA,zB,zC,zF];refine⟨⟨fun _ _ _ _ e=>e,fun i F=>by rw[if_pos F],fun i b D=>yjv (h':=nu [(302,72),(303,73)] 400) (w:=fun j=>c.getD j []) D⟩,?_⟩
    exact⟨fun j _=>by split<;>rfl,fun j _=>by
     split
     .rfl
     .show(cln _ 5 (a k j)&&true)=true;rw[y];rfl⟩
   rintro r o' ⟨rfl,rfl⟩;simp only[ybv,usV,yw,ydb,yfv,ypd,ymp,nuF,nu,difN,yeq,yeg,Fam.ren,OB.ren,dim,yqz,ykn,go_sem,zA,zF];simp only[ydbq,clash,go_sem,zA,zB]
   repeat refine ybe ?_
   refine yj (k+1) f (by omega) ?_
   refine yx ?_;simp only[ycz,wk,go_sem,zA,zC];rw[L,R];refine⟨fun _ _ _ _ e=>e,⟨by omega,by omega⟩,fun i F=>⟨Sim.refl _,by rw[if_pos F]⟩,fun i b D=>yjv (h':=nu [(302,72),(303,73)] 400) (w:=fun j=>c'.getD j []) D,?_⟩
   refine⟨fun i F=>ygd ?_,fun i F=>?_⟩
   .show _=[SV.i .u32 ((if i<k+1 then S.en i else 0:Nat):Int)]
    by_cases q:i=k
    .rw[if_pos q,if_pos (by omega),q]
    .rw[if_neg q]
     by_cases U:i<k
     .rw[if_pos (by omega),show e k i=S.en i from if_pos U]
     .rw[if_neg (by omega),show e k i=0 from if_neg U]
   .by_cases q:i=k
    .rw[if_pos q,show a (k+1) i=ybl (S.arcs k)from(if_pos (by omega)).trans (by rw[q])]
     exact ybzr _
    .rw[if_neg q]
     by_cases U:i<k
     .rw[show a (k+1) i=ybl (S.arcs i)from if_pos (by omega),show a k i=ybl (S.arcs i)from if_pos U]
      exact ybzr _
     .rw[show a (k+1) i = .a (.slice none 0 0)from if_neg (by omega),show a k i = .a (.slice none 0 0)from if_neg U]
      exact yjh rfl
  .obtain rfl:k=ybm T:=by omega
   simp only[ybye,ycti,B,V,ybv,zL,splice,clash,go_sem,zA,zB];have e1:∀q,q<ybm T->a (ybm T) q=ybl (S.arcs q):=fun q x=>if_pos x;have e2:∀q,q<ybm T->e (ybm T) q=S.en q:=fun q x=>if_pos x;refine⟨fun q x=>by rw[e1 q x];trivial,ybbj ⟨?_,Sim.refl _,trivial⟩⟩
   unfold spcC;rw[C];refine ybgs ⟨yeb fun q x=>?_,yeb fun q x=>?_,trivial⟩
   .rw[e2 q x];exact⟨⟨Sim.refl _,trivial⟩,rfl⟩
   .rw[e1 q x];exact⟨⟨Sim.refl _,trivial⟩,rfl⟩
end
end Sh
end
section
namespace Sh
open Ev Go.RowKit
def boxS(N:Nat)(lg:Nat->Bool)(x:(Nat->Bool)×List (Nat×Nat)):Own :=
 [(3,.one (some ⟨45,true,1,1,fun _=>[ybd N lg]⟩)),(6,.one (some ⟨166,true,1,1,fun _=>[.mr (18,0)]⟩)),(18,.one (some ⟨CU,true,0,0,fun c=>[.b (x.1 c)]⟩)),
  (7,.one (some ⟨167,true,1,1,fun _=>[.os (72,0) 0 x.2.length true]⟩)),(72,ygy x.2)]
def addF:SV:=.fn 137 [] [.pt (3,0) 0 0,.pt (6,0) 0 0,.pt (7,0) 0 0]
theorem ybra{F j:Nat}{f:Nat->List Nat}{p:Nm->Bool}(h:p (F,j)=true):cln p 5 (rowC F f j)=true:=by
 unfold rowC;split
 .rfl
 .exact h
theorem ybrv{e:Nat}{k:IntKind}{l:List Nat}{b:OB}{p:Nm->Bool}(a:rowB e k l=some b):∀i,i<b.n->(b.g i).all (cln p 5)=true:=by
 unfold rowB at a;split at a
 .cases a
 .cases a;exact fun _ _=>rfl
set_option maxHeartbeats 4000000 in
theorem yclx{S : Spc}(h:S.ok)(lg:Nat->Bool){n:Nat}(hn:n<=24)(M:∀k,k<S.N->S.en k<2^n)(hM:S.N*2^n<=262144) :
 Ct zG 75 [.ag (spcC S),ybd S.N lg] fun r=>∃R:Nat->List Nat,Sim r (.tp [.sl 1 S.N fun k=>[usV (R k)],.i .i64 0])/\(∀k,∀x∈R k,x<2^n/\lg k=false)/\∀k,(R k).length<=262144:=by
 refine ydie [137] _ _ ?_;have P:=h.le;have a0:2^n<=2^24:=zK (by omega) hn
 simp only[c75,yduj,ydqw,yedc,ydxc,yedy,spcC,ybl,ybd,splice,clash,go_sem,zA,zB,zD,zC,↓reduceIte,reduceCtorEq]
 refine ybf (σ:=Nat×(Nat->Bool)×List (Nat×Nat)) (fun y=>⟨[(23,.i .i64 y.1),(22,.i .i64 (S.N:Nat)),(21,.sl 1 S.N fun k=>[.i .u32 (S.en k:Nat)]),(8,addF),(2,.pt (2,0) 0 0),(3,.pt (3,0) 0 0),(7,.pt (7,0) 0 0)],(2,spcO S)::boxS S.N lg y.2⟩)
  (fun y=>y.1<=S.N/\QI S.N n lg y.2) (fun y=>S.N-y.1) (0,fun _=>false,[]) ⟨zH _,QI.start _ _ _⟩ ?_ ?_
 .refine yby [] [72] [] ?_;simp only[boxS,addF,spcO,spcC,ybl,ybd,ygy,yol,wk,go_sem,zA,zC,zF,↓reduceIte,reduceCtorEq];exact fun i _=>⟨(72,0),rfl,rfl,rfl⟩
 .rintro⟨k,x⟩ ⟨hk,w⟩;simp only at hk w ⊢;have Q:=w.len
  by_cases c:k<S.N
  .have d1:=dec_lt c;have K:=ybfi (lg:=lg) (x:=x) (by omega) c P (s:=S.en k) (by have:=h.lt k c;omega)
   have B:=w.step c (M k c);simp only[yga,ygy,ybd]at K;simp only[ydmb,ydrn,yego,ydtr,boxS,addF,spcO,spcC,ybl,ybd,ygy,d1,clash,go_sem,zA,zB,zD,↓reduceIte,reduceCtorEq]
   repeat refine ybe ?_
   refine yfb K [(301,3),(302,6),(303,18),(304,7),(305,72)] 400 [23,22,21,8,2,3,7] [2] ?_ ?_
   .simp only[to1,okN,ycp,yfq,yeq,yeg,wk,go_sem,zA,zB,zC,zF,↓reduceIte,reduceCtorEq]
   rintro r Z ⟨rfl,rfl⟩
   generalize yyy lg x k (S.en k)=x' at B
   simp only[ypd,ymp,nuF,nu,difN,yeq,yeg,Fam.ren,OB.ren,dim,yil,ycgc,ybbg,yqz,ykn,ybrm,go_sem,zA,zB,zF,↓reduceIte,reduceCtorEq]
   repeat refine ybe ?_
   refine yj (k+1,x') ⟨c,B⟩ (by show _-(k+1)<_-k;omega) ?_
   refine yx ?_;simp only[wk,go_sem,zA,zC,↓reduceIte,reduceCtorEq];omega
  .obtain rfl:k=S.N:=by omega
   simp only[ydmb,ydty,ycyz,boxS,spcO,spcC,ybl,ybd,ygy,zL,clash,go_sem,zA,zB,zC,↓reduceIte,reduceCtorEq]
   repeat refine ybe ?_
   let m:Nat->(Nat->Bool)×List (Nat×Nat)->(Nat->List Nat)->Own:=fun _ x R=>(2,spcO S)::(36,.one (some ⟨38,false,1,S.N,fun j=>[rowC 73 R j]⟩))::(73,yit 77 .u32 R)::boxS S.N lg x
   refine ybf (σ:=Nat×((Nat->Bool)×List (Nat×Nat))×(Nat->List Nat)) (fun y=>⟨[(12,.i .i64 y.1),(11,.os (36,0) 0 S.N true),(8,addF),(2,.pt (2,0) 0 0),(7,.pt (7,0) 0 0)],m 0 y.2.1 y.2.2⟩)
    (fun y=>QI S.N n lg y.2.1/\y.1<=y.2.1.2.length/\(∀k,∀z∈y.2.2 k,z<2^n/\lg k=false)/\∀k,(y.2.2 k).length<=y.1) (fun y=>262145-y.1) (0,x,fun _=>[]) ⟨w,zH _,fun _ _ h=>(nomatch h),fun _=>zH _⟩ ?_ ?_
   .refine yx ?_;simp only[m,boxS,addF,spcO,spcC,ybl,ybd,ygy,rowC,yit,rowB,wk,go_sem,zA,zC,↓reduceIte,reduceCtorEq]
   .rintro⟨i,x,R⟩ ⟨w,X,E,D⟩;simp only at w X E D ⊢;have Q:=w.len
    by_cases c:i<x.2.length
    .have d1 := dec_lt c;have d2:decide ((x.2.length:Int)>262144)=false:=by simp;omega
     obtain⟨⟨k,s⟩,O⟩:∃p,x.2.getD i (0,0)=p:=⟨_,rfl⟩
     obtain⟨hkN,V,U⟩:k<S.N/\s<2^n/\lg k=false:=by
      have:=w.lt (x.2.getD i (0,0)) (by rw[ylj c];exact zT _)
      rw[O]at this;exact this
     have a2:=h.len hkN;obtain⟨C,T⟩:∃C,(fun q=>if q=k then R k++[s]else R q)=C:=⟨_,rfl⟩
     have v:C k=R k++[s]:=by rw[<-T];simp
     have o:∀j,¬j=k->C j=R j:=fun j e=>by rw[<-T];simp[e]
     have a1:=D k
     by_cases q:(R k).length=0
     .simp only[ybpg,ycjl,ycer,yckz,yccl,m,boxS,spcO,spcC,ybl,ybd,ygy,rowC,yit,rowB,q,d1,d2,O,splice,clash,go_sem,zA,zB,zD,zC,zAB,↓reduceIte,reduceCtorEq]
      repeat refine ybe ?_
      refine ybf (σ:=Nat×((Nat->Bool)×List (Nat×Nat))) (fun y=>⟨[(70,.i .i64 y.1),(69,.i .i64 ((S.arcs k).length:Nat)),(68,ybl (S.arcs k)),(12,.i .i64 i),(11,.os (36,0) 0 S.N true),(8,addF),(2,.pt (2,0) 0 0),(7,.pt (7,0) 0 0),(13,.pt (13,0) 0 0)],(13,.one (some ⟨109,true,2,1,fun _=>[.i .i64 (k:Nat),.i .u32 (s:Nat)]⟩))::m 0 y.2 C⟩)
       (fun y=>y.1<=(S.arcs k).length/\QI S.N n lg y.2/\i<y.2.2.length) (fun y=>(S.arcs k).length-y.1) (0,x) ⟨zH _,w,c⟩ ?_ ?_
      .refine yby [(73,fun j=>if j=k then(61,0)else(73,j))] [] [] ?_
       simp only[m,boxS,addF,spcO,spcC,ybl,ybd,ygy,yit,wk,go_sem,zA,zC,↓reduceIte,reduceCtorEq];refine⟨?_,fun i X=>?_,fun i b d=>?_⟩
       .repeat' apply zAM
        all_goals first|exact fun i _=>ybde (by decide) (by decide)|exact fun i _=>yto (by decide) (by decide)|exact fun i _ j _=>ybat (by decide)
       .refine ypu (F:=73) (e:=77) (k:=.u32) (f:=C) [(73,fun j=>if j=k then(61,0)else(73,j))] ?_ rfl
        by_cases e:i=k
        .subst e;have W:(C i).length=1:=by rw[v,zV,q];rfl
         simp only[W,go_sem,↓reduceIte,reduceCtorEq]
        .simp only[o i e,e,go_sem,↓reduceIte]
       .by_cases e:i=k
        .subst e;rw[v]at d;simp only[go_sem,zA,↓reduceIte];exact yem (e:=77) (k:=.u32) rfl d (ybry q rfl)
        .rw[o i e]at d;simp only[e,go_sem,zA,↓reduceIte];exact⟨_,d,yem (e:=77) (k:=.u32) rfl d (yfk (e:=77) (k:=.u32) d)⟩
      .rintro⟨j,x⟩ ⟨Y,w,c⟩;simp only at Y w c ⊢;have Q:=w.len
       by_cases g:j<(S.arcs k).length
       .have d3:=dec_lt g;have l:=h.to k hkN j g;have A:=(h.sub k hkN j g).1;obtain⟨⟨a,t⟩,I⟩:∃p,(S.arcs k).getD j (0,0)=p:=⟨_,rfl⟩;rw[I]at l A;simp only at l A;have H:=ywo h (k:=k) (p:=s) (s:=a) (t:=t) (by omega) (by omega) l
        have L:ygq S s a t<2^n:=by
         unfold ygq ypm;split
         .exact M t l
         .exact yckd (yxv V)
        have K:=ybfi (lg:=lg) (x:=x) (by omega) l P (s:=ygq S s a t) (by omega)
        have B:=w.step (lg:=lg) l L;have J:=ybri (lg:=lg) (x:=x) (k:=t) (s:=ygq S s a t);simp only[yga,ygy,ybd]at K;simp only[spcC,ybl]at H;simp only[ybjs,ybzb,ycjo,ybyj,yces,m,boxS,addF,spcO,spcC,ybl,ybd,ygy,d3,I,splice,clash,go_sem,zA,zB,zC,zF,↓reduceIte,reduceCtorEq]
        repeat refine ybe ?_
        refine H.use ?_;simp only[ybk,splice,clash,go_sem,zA,zB,zC,↓reduceIte,reduceCtorEq]
        repeat refine ybe ?_
        refine yfb K [(301,3),(302,6),(303,18),(304,7),(305,72)] 400 [70,69,68,12,11,8,2,7,13] [2,36,73,13] ?_ ?_
        .simp only[yit,to1,okN,ycp,yfq,yeq,yeg,wk,go_sem,zA,zB,zC,zF,↓reduceIte,reduceCtorEq];exact⟨fun q _=>ybra rfl,fun q b d=>ybrv d⟩
        rintro r Z ⟨rfl,rfl⟩
        generalize yyy lg x t (ygq S s a t)=x' at B J
        simp only[yit,ypd,ymp,nuF,nu,difN,yeq,yeg,Fam.ren,OB.ren,dim,yil,ycgc,ybbg,yqz,ykn,ybrm,go_sem,zA,zB,zF,↓reduceIte,reduceCtorEq]
        repeat refine ybe ?_
        refine yj (j+1,x') ⟨g,B,by show i<x'.2.length;omega⟩ (by show _-(j+1)<_-j;omega) ?_
        refine yx ?_;simp only[wk,go_sem,zA,zC,↓reduceIte,reduceCtorEq];exact⟨fun _ _ _ _ e=>e,by omega,fun i _=>ylg (e:=77) (k:=.u32) [] rfl rfl,fun i b d=>⟨b,d,yem (e:=77) (k:=.u32) rfl d (yfk (e:=77) (k:=.u32) d)⟩⟩
       .obtain rfl:j=(S.arcs k).length:=by omega
        simp only[ybjs,ycfu,m,boxS,addF,spcO,spcC,ybl,ybd,ygy,zL,clash,go_sem,zA,zB,↓reduceIte,reduceCtorEq]
        repeat refine ybe ?_
        refine yj (i+1,x,C) ⟨w,c,fun u z G=>?_,fun u=>?_⟩ (by show 262145-(i+1)<262145-i;omega) ?_
        .have G:z∈C u:=G
         by_cases e:u=k
         .subst e;rw[v]at G;rcases List.mem_append.1 G with r|r
          .exact E u z r
          .rw[List.mem_singleton.1 r];exact⟨V,U⟩
         .rw[o u e]at G;exact E u z G
        .show(C u).length<=i+1
         by_cases e:u=k
         .subst e;rw[v,zV];have:=D u;show _+1<=_;omega
         .rw[o u e];have:=D u;omega
        refine yx ?_;simp only[yit,wk,go_sem,zA,zC,↓reduceIte,reduceCtorEq];exact⟨fun _ _ _ _ e=>e,by omega,fun i _=>ylg (e:=77) (k:=.u32) [] rfl rfl,fun i b d=>⟨b,d,yem (e:=77) (k:=.u32) rfl d (yfk (e:=77) (k:=.u32) d)⟩⟩
     .have q0 : 0<(R k).length:=by omega
      simp only[ybpg,ycjl,ycer,yckz,yccl,m,boxS,spcO,spcC,ybl,ybd,ygy,rowC,yit,rowB,q,d1,d2,O,splice,clash,go_sem,zA,zB,zD,zC,↓reduceIte,reduceCtorEq]
      repeat refine ybe ?_
      refine ybf (σ:=Nat×((Nat->Bool)×List (Nat×Nat))) (fun y=>⟨[(70,.i .i64 y.1),(69,.i .i64 ((S.arcs k).length:Nat)),(68,ybl (S.arcs k)),(12,.i .i64 i),(11,.os (36,0) 0 S.N true),(8,addF),(2,.pt (2,0) 0 0),(7,.pt (7,0) 0 0),(13,.pt (13,0) 0 0)],(13,.one (some ⟨109,true,2,1,fun _=>[.i .i64 (k:Nat),.i .u32 (s:Nat)]⟩))::m 0 y.2 C⟩)
       (fun y=>y.1<=(S.arcs k).length/\QI S.N n lg y.2/\i<y.2.2.length) (fun y=>(S.arcs k).length-y.1) (0,x) ⟨zH _,w,c⟩ ?_ ?_
      .refine yby [(73,fun j=>if j=k then(61,0)else(73,j))] [] [] ?_
       simp only[m,boxS,addF,spcO,spcC,ybl,ybd,ygy,yit,wk,go_sem,zA,zC,↓reduceIte,reduceCtorEq];refine⟨?_,fun i X=>?_,fun i b d=>?_⟩
       .repeat' apply zAM
        all_goals first|exact fun i _=>ybde (by decide) (by decide)|exact fun i _=>yto (by decide) (by decide)|exact fun i _ j _=>ybat (by decide)
       .refine ypu (F:=73) (e:=77) (k:=.u32) (f:=C) [(73,fun j=>if j=k then(61,0)else(73,j))] ?_ rfl
        by_cases e:i=k
        .subst e;have W:(C i).length=(R i).length+1:=by rw[v,zV];rfl
         have e2:¬(R i).length+1=0:=by omega
         simp only[W,e2,go_sem,↓reduceIte]
        .simp only[o i e,e,go_sem,↓reduceIte]
       .by_cases e:i=k
        .subst e;rw[v]at d;simp only[go_sem,zA,↓reduceIte];exact yem (e:=77) (k:=.u32) rfl d (ybhj (g':=fun i=>zCP 1 (zCQ (i*1) [.i .u32 (s:Int)])) rfl (fun _ _=>rfl) rfl)
        .rw[o i e]at d;simp only[e,go_sem,zA,↓reduceIte];exact⟨_,d,yem (e:=77) (k:=.u32) rfl d (yfk (e:=77) (k:=.u32) d)⟩
      .rintro⟨j,x⟩ ⟨Y,w,c⟩;simp only at Y w c ⊢;have Q:=w.len
       by_cases g:j<(S.arcs k).length
       .have d3:=dec_lt g;have l:=h.to k hkN j g;have A:=(h.sub k hkN j g).1;obtain⟨⟨a,t⟩,I⟩:∃p,(S.arcs k).getD j (0,0)=p:=⟨_,rfl⟩;rw[I]at l A;simp only at l A;have H:=ywo h (k:=k) (p:=s) (s:=a) (t:=t) (by omega) (by omega) l
        have L:ygq S s a t<2^n:=by
         unfold ygq ypm;split
         .exact M t l
         .exact yckd (yxv V)
        have K:=ybfi (lg:=lg) (x:=x) (by omega) l P (s:=ygq S s a t) (by omega)
        have B:=w.step (lg:=lg) l L;have J:=ybri (lg:=lg) (x:=x) (k:=t) (s:=ygq S s a t);simp only[yga,ygy,ybd]at K;simp only[spcC,ybl]at H;simp only[ybjs,ybzb,ycjo,ybyj,yces,m,boxS,addF,spcO,spcC,ybl,ybd,ygy,d3,I,splice,clash,go_sem,zA,zB,zC,zF,↓reduceIte,reduceCtorEq]
        repeat refine ybe ?_
        refine H.use ?_;simp only[ybk,splice,clash,go_sem,zA,zB,zC,↓reduceIte,reduceCtorEq]
        repeat refine ybe ?_
        refine yfb K [(301,3),(302,6),(303,18),(304,7),(305,72)] 400 [70,69,68,12,11,8,2,7,13] [2,36,73,13] ?_ ?_
        .simp only[yit,to1,okN,ycp,yfq,yeq,yeg,wk,go_sem,zA,zB,zC,zF,↓reduceIte,reduceCtorEq];exact⟨fun q _=>ybra rfl,fun q b d=>ybrv d⟩
        rintro r Z ⟨rfl,rfl⟩
        generalize yyy lg x t (ygq S s a t)=x' at B J
        simp only[yit,ypd,ymp,nuF,nu,difN,yeq,yeg,Fam.ren,OB.ren,dim,yil,ycgc,ybbg,yqz,ykn,ybrm,go_sem,zA,zB,zF,↓reduceIte,reduceCtorEq]
        repeat refine ybe ?_
        refine yj (j+1,x') ⟨g,B,by show i<x'.2.length;omega⟩ (by show _-(j+1)<_-j;omega) ?_
        refine yx ?_;simp only[wk,go_sem,zA,zC,↓reduceIte,reduceCtorEq];exact⟨fun _ _ _ _ e=>e,by omega,fun i _=>ylg (e:=77) (k:=.u32) [] rfl rfl,fun i b d=>⟨b,d,yem (e:=77) (k:=.u32) rfl d (yfk (e:=77) (k:=.u32) d)⟩⟩
       .obtain rfl:j=(S.arcs k).length:=by omega
        simp only[ybjs,ycfu,m,boxS,addF,spcO,spcC,ybl,ybd,ygy,zL,clash,go_sem,zA,zB,↓reduceIte,reduceCtorEq]
        repeat refine ybe ?_
        refine yj (i+1,x,C) ⟨w,c,fun u z G=>?_,fun u=>?_⟩ (by show 262145-(i+1)<262145-i;omega) ?_
        .have G:z∈C u:=G
         by_cases e:u=k
         .subst e;rw[v]at G;rcases List.mem_append.1 G with r|r
          .exact E u z r
          .rw[List.mem_singleton.1 r];exact⟨V,U⟩
         .rw[o u e]at G;exact E u z G
        .show(C u).length<=i+1
         by_cases e:u=k
         .subst e;rw[v,zV];have:=D u;show _+1<=_;omega
         .rw[o u e];have:=D u;omega
        refine yx ?_;simp only[yit,wk,go_sem,zA,zC,↓reduceIte,reduceCtorEq];exact⟨fun _ _ _ _ e=>e,by omega,fun i _=>ylg (e:=77) (k:=.u32) [] rfl rfl,fun i b d=>⟨b,d,yem (e:=77) (k:=.u32) rfl d (yfk (e:=77) (k:=.u32) d)⟩⟩
    .obtain rfl:i=x.2.length:=by omega
     simp only[ybpg,ycyg,m,boxS,addF,spcO,spcC,ybl,ybd,ygy,zL,clash,go_sem,zA,zB,↓reduceIte,reduceCtorEq];refine⟨fun q hq=>?_,R,ybbj ⟨yeb fun q hq=>?_,Sim.refl _,trivial⟩,E,fun q=>by have:=D q;omega⟩
     .unfold rowC
      by_cases e:(R q).length=0
      .simp only[e,go_sem,↓reduceIte]
      .simp only[e,yit,rowB,go_sem,zA,↓reduceIte]
     .unfold rowC
      by_cases e:(R q).length=0
      .simp only[e,SimL,usV,go_sem,↓reduceIte];exact ybee
      .simp only[e,yit,rowB,SimL,usV,go_sem,zA,↓reduceIte];exact Sim.refl _
end Sh
end
section
namespace Sh
open Ev Go.RowKit
structure RdB(S:Spc)(lg:Nat->Bool)(n:Nat)(B:Nat->Nat->Nat->Prop):Prop where
 one:∀k,k<S.N->lg k=false->∀s,s<2^n->B k s 1
 done:∀k,k<S.N->lg k=false->∀s,s<2^n->∀i,i<(S.arcs k).length->lg ((S.arcs k).getD i (0,0)).2=false->ypm S s ((S.arcs k).getD i (0,0)).1 ((S.arcs k).getD i (0,0)).2=0->∀x,B ((S.arcs k).getD i (0,0)).2 (S.en ((S.arcs k).getD i (0,0)).2) x->B k s (1+x)
 more:∀k,k<S.N->lg k=false->∀s,s<2^n->∀i,i<(S.arcs k).length->lg ((S.arcs k).getD i (0,0)).2=false->ypm S s ((S.arcs k).getD i (0,0)).1 ((S.arcs k).getD i (0,0)).2≠0->∀x,B ((S.arcs k).getD i (0,0)).2 (ypm S s ((S.arcs k).getD i (0,0)).1 ((S.arcs k).getD i (0,0)).2) x->B k s x
 le:∀k s x,B k s x->x<=1000000
theorem ycaw{a b c d:Nat}(f:b<2^32)(g:d<2^32)(e:mkey (a:Int) (b:Int)=mkey (c:Int) (d:Int)):a=c/\b=d:=by
 unfold mkey at e;simp only[zAK]at e;omega
set_option maxHeartbeats 4000000 in
theorem ycey {S:Spc}(h:S.ok){lg:Nat->Bool}(hf:S.free lg){n:Nat}(hn:n<=24)(O:∀k,k<S.N->S.en k<2^n)(hM:S.N*2^n<=262144){B:Nat->Nat->Nat->Prop}(T:RdB S lg n B) :
 Ct zG 19 [.ag (spcC S),ybd S.N lg] fun r=>∃f:Nat->Nat,Sim r (.tp [.sl 1 S.N fun k=>[.i .i64 (f k:Nat)],.i .i64 0])/\∀k,k<S.N->f k=0\/(lg k=false/\B k (S.en k) (f k)):=by
 refine yeee _ _ ?_;have b1:=h.le;have a8:2^n<=2^24:=zK (by omega) hn
 have hO:=ybjv h hf;have X:=yclx h lg hn O hM;simp only[spcC,ybl,ybd]at hO X;simp only[c19,yeeq,yect,spcC,ybl,ybd,clash,go_sem,zA,zB,zC,↓reduceIte,reduceCtorEq];refine hO.fnd (V:=fun L=>.tp [yct L,.i .i64 0]) (fun r L h=>h.1) fun r L hL=>?_;obtain⟨-,x,a7,a6⟩:=hL;simp only[ybk,ydwg,ydxv,clash,yct,zS,go_sem,zA,zB,↓reduceIte,reduceCtorEq];refine X.fnd (V:=fun R=>.tp [.sl 1 S.N fun k=>[usV (R k)],.i .i64 0]) (fun r L h=>h.1) fun r R X=>?_
 obtain⟨-,a0,a1⟩:=X;simp only[ydwi,yduw,yduh,clash,usV,zS,go_sem,zA,zB,zC,↓reduceIte,reduceCtorEq]
 let VI:(Nat->Nat)->Prop:=fun V=>∀(k:Nat),k<S.N->∀(s:Nat),s<2^n->V (mkey (k:Int) (s:Int))=0\/(lg k=false/\B k s (V (mkey (k:Int) (s:Int))))
 let d:(Nat->Nat)->Nat×Fam:=fun V=>(41,.one (some ⟨CU,true,1,0,fun c=>[.i .i64 (V c:Nat)]⟩))
 refine ybf (σ:=Nat×(Nat->Nat)) (fun y=>⟨[(44,.i .i64 y.1),(43,.i .i64 (L.length:Nat)),(42,yct L),(1,ybd S.N lg),(2,.pt (2,0) 0 0),(8,.sl 1 S.N fun k=>[usV (R k)]),(9,.mr (41,0))],[(2,spcO S),d y.2]⟩) (fun y=>y.1<=L.length/\VI y.2) (fun y=>L.length-y.1) (0,fun _=>0) ⟨zH _,fun _ _ _ _=>.inl rfl⟩ ?_ ?_
 .refine yx ?_;simp only[d,yct,usV,spcO,spcC,ybl,ybd,yol,wk,go_sem,zA,zC,↓reduceIte,reduceCtorEq]
 .rintro⟨i,V⟩ ⟨Y,K⟩;simp only at Y K ⊢
  by_cases E:i<L.length
  .have d1 := dec_lt E;obtain⟨k,hk⟩:∃k,L.getD i 0=k:=⟨_,rfl⟩;have hkN:k<S.N:=by rw[<-hk,getD_at E];exact x _ (zT _)
   have b0:=h.len hkN;have a9:=a1 k;simp only[ydms,ydgm,ydex,d,yct,usV,spcO,spcC,ybl,ybd,d1,hk,clash,go_sem,zA,zB,↓reduceIte,reduceCtorEq]
   repeat refine ybe ?_
   refine ybf (σ:=Nat×(Nat->Nat)) (fun y=>⟨[(53,.i .i64 y.1),(52,.i .i64 ((R k).length:Nat)),(51,usV (R k)),(11,.i .i64 k),(44,.i .i64 i),(43,.i .i64 (L.length:Nat)),(42,yct L),(1,ybd S.N lg),(2,.pt (2,0) 0 0),(8,.sl 1 S.N fun k=>[usV (R k)]),(9,.mr (41,0))],[(2,spcO S),d y.2]⟩) (fun y=>y.1<=(R k).length/\VI y.2) (fun y=>(R k).length-y.1) (0,V) ⟨zH _,K⟩ ?_ ?_
   .refine yx ?_;simp only[d,yct,usV,spcO,spcC,ybl,ybd,wk,go_sem,zA,zC,↓reduceIte,reduceCtorEq]
   .rintro⟨u,V⟩ ⟨hu,K⟩;simp only at hu K ⊢
    by_cases F:u<(R k).length
    .have d2 := dec_lt F;obtain⟨s,hs⟩:∃s,(R k).getD u 0=s:=⟨_,rfl⟩;obtain⟨G,D⟩:=a0 k s (by rw[<-hs,getD_at F];exact zT _)
     simp only[ycid,ycsk,ydgf,yddz,ycwi,d,yct,usV,spcO,spcC,ybl,ybd,d2,hs,splice,clash,go_sem,zA,zB,zD,zC,↓reduceIte,reduceCtorEq]
     repeat refine ybe ?_
     refine ybf (σ:=Nat×Nat) (fun z=>⟨[(66,.i .i64 z.1),(65,.i .i64 ((S.arcs k).length:Nat)),(64,ybl (S.arcs k)),(15,.i .i64 z.2),(14,.pt (14,0) 0 0),(53,.i .i64 u),(52,.i .i64 ((R k).length:Nat)),(51,usV (R k)),(11,.i .i64 k),(44,.i .i64 i),(43,.i .i64 (L.length:Nat)),(42,yct L),(1,ybd S.N lg),(2,.pt (2,0) 0 0),(8,.sl 1 S.N fun k=>[usV (R k)]),(9,.mr (41,0))],
      [(14,.one (some ⟨109,true,2,1,fun _=>[.i .i64 (k:Nat),.i .u32 (s:Nat)]⟩)),(2,spcO S),d V]⟩) (fun z=>z.1<=(S.arcs k).length/\B k s z.2) (fun z=>(S.arcs k).length-z.1) (0,1) ⟨zH _,T.one k hkN D s G⟩ ?_ ?_
     .refine yx ?_;simp only[d,yct,usV,spcO,spcC,ybl,ybd,wk,go_sem,zA,zC,↓reduceIte,reduceCtorEq];rfl
     .rintro⟨j,m⟩ ⟨hj,Q⟩;simp only at hj Q ⊢;have b2:=T.le _ _ _ Q
      by_cases b:j<(S.arcs k).length
      .have d3 := dec_lt b;have H:=h.to k hkN j b;have M:=(h.sub k hkN j b).1;have l:=T.done k hkN D s G j b;have o:=T.more k hkN D s G j b;obtain⟨⟨a,t⟩,J⟩:∃p,(S.arcs k).getD j (0,0)=p:=⟨_,rfl⟩;rw[J]at H M l o;simp only at H M l o;cases g:lg t with
       | true =>
         simp only[ybfs,ybpu,ybpj,ybsf,d,yct,usV,spcO,spcC,ybl,ybd,d3,J,g,splice,clash,go_sem,zA,zB,zC,↓reduceIte,reduceCtorEq]
         repeat refine ybe ?_
         refine yj (j+1,m) ⟨b,Q⟩ (by show _-(j+1)<_-j;omega) ?_
         refine yx ?_;simp only[wk,go_sem,zA,zC,↓reduceIte,reduceCtorEq];omega
       | false =>
         have C:=ywo h (k:=k) (p:=s) (s:=a) (t:=t) (by omega) (by omega) H
         have a3:ygq S s a t<2^n:=by
          unfold ygq ypm;split
          .exact O t H
          .exact yckd (yxv G)
         have I:=K t H (ygq S s a t) a3;obtain⟨v,hv⟩:∃v,V (mkey (t:Int) (ygq S s a t:Int))=v:=⟨_,rfl⟩;rw[hv]at I
         have b3:v<=1000000:=by
          rcases I with r|⟨_,r⟩
          .omega
          .exact T.le _ _ _ r
         simp only[spcC,ybl]at C
         by_cases A:ypm S s a t=0
         .have e1:B k s (max m (1+v)):=by
           rcases zCX m (1+v)with r|r
           .rw[zCC r];rcases I with q|⟨_,q⟩
            .rw[q];exact T.one k hkN D s G
            .refine l g A v ?_;have:ygq S s a t=S.en t:=if_pos A;rw[this]at q;exact q
           .rw[zCN r];exact Q
          rw[decide_eq_true A]at C;simp only[ybfs,ybpu,ybpj,ybyv,d,yct,usV,spcO,spcC,ybl,ybd,d3,J,g,splice,clash,go_sem,zA,zB,zC,↓reduceIte,reduceCtorEq]
          repeat refine ybe ?_
          refine C.use ?_;simp only[ybk,ybxf,ycyx,ybsf,splice,clash,zAP,hv,go_sem,zA,zB,zC,↓reduceIte,reduceCtorEq]
          repeat refine ybe ?_
          refine yj (j+1,max m (1+v)) ⟨b,e1⟩ (by show _-(j+1)<_-j;omega) ?_
          refine yx ?_;simp only[wk,go_sem,zA,zC,↓reduceIte,reduceCtorEq];omega
         .have e1:B k s (max m v):=by
           rcases zCX m v with r|r
           .rw[zCC r];rcases I with q|⟨_,q⟩
            .have:m=v:=by omega
             rw[<-this];exact Q
            .refine o g A v ?_;have:ygq S s a t=ypm S s a t:=if_neg A;rw[this]at q;exact q
           .rw[zCN r];exact Q
          rw[decide_eq_false A]at C;simp only[ybfs,ybpu,ybpj,ybyv,d,yct,usV,spcO,spcC,ybl,ybd,d3,J,g,splice,clash,go_sem,zA,zB,zC,↓reduceIte,reduceCtorEq]
          repeat refine ybe ?_
          refine C.use ?_;simp only[ybk,ybxf,ycvm,ybsf,splice,clash,zAP,hv,go_sem,zA,zB,zC,↓reduceIte,reduceCtorEq]
          repeat refine ybe ?_
          refine yj (j+1,max m v) ⟨b,e1⟩ (by show _-(j+1)<_-j;omega) ?_
          refine yx ?_;simp only[wk,go_sem,zA,zC,↓reduceIte,reduceCtorEq];omega
      .obtain rfl:j=(S.arcs k).length:=by omega
       obtain⟨W,U⟩:∃W:Nat->Nat,(fun c=>if c=mkey (k:Int) (s:Int)then m else V c)=W:=⟨_,rfl⟩
       have a2:VI W:=fun k' a4 s' a5=>by
        rw[<-U];show(if _ then m else V _)=0\/(lg k'=false/\B k' s' (if _ then m else V _))
        by_cases e:mkey (k':Int) (s':Int)=mkey (k:Int) (s:Int)
        .obtain⟨rfl,rfl⟩:=ycaw (by omega) (by omega) e
         rw[if_pos rfl];exact .inr ⟨D,Q⟩
        .rw[if_neg e];exact K k' a4 s' a5
       simp only[ybfs,ycxy,ycuu,d,yct,usV,spcO,spcC,ybl,ybd,zL,clash,yehu,go_sem,zA,zB,↓reduceIte,reduceCtorEq]
       repeat refine ybe ?_
       refine yj (u+1,W) ⟨F,a2⟩ (by show _-(u+1)<_-u;omega) ?_
       refine yx ?_;simp only[wk,go_sem,zA,zC,↓reduceIte,reduceCtorEq];refine⟨by omega,fun i=>?_,fun i Y=>absurd Y (by omega)⟩
       rw[<-U]
       by_cases e:i=mkey (k:Int) (s:Int)
       .simp only[if_pos e]
       .simp only[if_neg e]
    .obtain rfl:u=(R k).length:=by omega
     simp only[ycid,ydft,d,yct,usV,spcO,spcC,ybl,ybd,zL,clash,go_sem,zA,zB,↓reduceIte,reduceCtorEq]
     repeat refine ybe ?_
     refine yj (i+1,V) ⟨E,K⟩ (by show _-(i+1)<_-i;omega) ?_
     refine yx ?_;simp only[wk,go_sem,zA,zC,↓reduceIte,reduceCtorEq];omega
  .obtain rfl:i=L.length:=by omega
   simp only[ydms,yddm,ycso,d,yct,usV,spcO,spcC,ybl,ybd,zL,clash,go_sem,zA,zB,zD,zC,↓reduceIte,reduceCtorEq]
   repeat refine ybe ?_
   let f:Nat->Nat->Nat:=fun k q=>if q<k/\lg q=false then V (mkey (q:Int) (S.en q:Int))else 0
   refine ybf (σ:=Nat) (fun k=>⟨[(106,.i .i64 k),(105,.i .i64 (S.N:Nat)),(104,.sl 1 S.N fun k=>[.i .u32 (S.en k:Nat)]),(1,ybd S.N lg),(9,.mr (41,0)),(20,.os (102,0) 0 S.N true)],[(102,.one (some ⟨3,false,1,S.N,fun q=>[.i .i64 (f k q:Nat)]⟩)),d V]⟩) (fun k=>k<=S.N) (fun k=>S.N-k) 0 (zH _) ?_ ?_
   .refine yx ?_;simp only[d,ybd,wk,go_sem,zA,zC,↓reduceIte,reduceCtorEq]
    exact fun i _=>by
     show(0:Int)=((if i<0/\lg i=false then _ else 0:Nat):Int)
     rw[if_neg (fun r=>by omega)]
     rfl
   .intro k hk
    by_cases x:k<S.N
    .have d1:=dec_lt x;have he:=h.lt k x;cases Z:lg k with
     | true =>
       have P:∀q,f (k+1) q=f k q:=fun q=>by
        show(if _ then _ else _)=if _ then _ else _
        by_cases e:q=k
        .subst e;rw[Z,if_neg (fun r=>by cases r.2),if_neg (fun r=>by cases r.2)]
        .by_cases r:q<k/\lg q=false
         .rw[if_pos r,if_pos ⟨by omega,r.2⟩]
         .rw[if_neg r,if_neg (fun w=>r ⟨by omega,w.2⟩)]
       simp only[ybrc,ycdi,ybym,ybyu,d,ybd,d1,Z,clash,go_sem,zA,zB,↓reduceIte,reduceCtorEq]
       repeat refine ybe ?_
       refine yj (k+1) x (by omega) ?_
       refine yx ?_;simp only[P,wk,go_sem,zA,zC,↓reduceIte,reduceCtorEq];omega
     | false =>
       have P:∀q,f (k+1) q=if q=k then V (mkey (k:Int) (S.en k:Int))else f k q:=fun q=>by
        show(if _ then _ else _)=if _ then _ else(if _ then _ else _)
        by_cases e:q=k
        .subst e;rw[if_pos rfl,if_pos ⟨by omega,Z⟩]
        .rw[if_neg e]
         by_cases r:q<k/\lg q=false
         .rw[if_pos r,if_pos ⟨by omega,r.2⟩]
         .rw[if_neg r,if_neg (fun w=>r ⟨by omega,w.2⟩)]
       simp only[ybrc,ycdi,ybym,ydel,ybyu,d,ybd,d1,Z,splice,clash,zAP,go_sem,zA,zB,zD,↓reduceIte,reduceCtorEq]
       repeat refine ybe ?_
       refine yj (k+1) x (by omega) ?_
       refine yx ?_;simp only[P,wk,go_sem,zA,zC,↓reduceIte,reduceCtorEq];refine⟨by omega,fun i Y=>ygd ?_⟩
       by_cases e:i=k
       .simp only[if_pos e]
       .simp only[if_neg e]
    .obtain rfl:k=S.N:=by omega
     simp only[ybrc,ydas,d,ybd,zL,clash,go_sem,zA,zB,↓reduceIte,reduceCtorEq];refine⟨f S.N,Sim.refl _,fun k hk=>?_⟩;show(if _ then _ else _)=0\/(_/\B k (S.en k) (if _ then _ else _))
     by_cases r:k<S.N/\lg k=false
     .rw[if_pos r];exact K k hk (S.en k) (O k hk)
     .rw[if_neg r];exact .inl rfl
end Sh
end
section
structure WLaw(p:ProgT)(g:Gr)(perm:Nat->Bool)(D:Nat->Prop)(L:Conf->Bool)(J:Conf->Cnt->Prop)(R:Nat)(M:Nat->Prop):Prop where
 tab:TabOk (tabP p g)
 n4:g.ids.length<=4
 big:ybm (tabP p g)*2^g.ids.length<=262144
 fit:∀c,yef p g c=true->∀s,yef p g (ygx p g c s)=true
 permD:∀s,s<2^g.ids.length->perm s=true->D s
 low:∀e,e<16->e≠0->perm ((4294967296-e)&&&e)=true
 start:∀c,yef p g c=true->J c (ybhm (ybu p g c))
 step:∀c k s,yef p g c=true->J c k->s≠0->subB s (ybu p g c)->D s->J (ygx p g c s) (addP k s (ybu p g (ygx p g c s)))
 rests:∀c,yef p g c=true->(ybu p g c=0↔L c=true)
 rounds:∀c k,yef p g c=true->J c k->L c=false->k.rounds+1<=R
 r1000:R<=100000
 moves:∀c k,yef p g c=true->J c k->M k.moves
 noloop:∀c s m,Loop (ymx p g) (fun c=>yef p g c=true) c s m->(∀i,D (s i))->False
theorem ydom{perm:Nat->Bool}{e n:Nat}(b:n<=4)(d:e<2^n):(chP perm e).length<=2^n:=by
 have a:2^n<=16:=zK (by omega) b
 have:=ynb (perm:=perm) (e:=e) (n:=2^n) (16-2^n) fun t c _ h=>by
  have:t&&&e<=e:=Nat.and_le_right;rw[h.2]at this;omega
 rw[show 2^n+(16-2^n)=16 by omega]at this
 show(chTo perm e 16).length<=_;rw[this];exact ybcy _ _ _
theorem ysx{s e:Nat}(h:s&&&e=s):subB s e:=fun v a=>by
 have:(s&&&e).testBit v=true:=by rw[h];exact a
 rw[zCM,zI]at this;exact this.2
namespace WLaw
variable {p:ProgT}{g:Gr}{perm:Nat->Bool}{D:Nat->Prop}{L:Conf->Bool}{J:Conf->Cnt->Prop}{R:Nat}{M:Nat->Prop}
theorem en16(h:WLaw p g perm D L J R M)(c:Conf):ybu p g c<16:=zAQ (Sh.yzx p g c) (zK (by omega) h.n4:2^g.ids.length<=2^4)
theorem yyg(h:WLaw p g perm D L J R M){k i:Nat}(a:i<((spcP perm p g).arcs k).length) :
 ∃s,((spcP perm p g).arcs k).getD i (0,0)=(s,rkN p g (ygx p g (cfP p g k) s))/\s=(chP perm (ybu p g (cfP p g k))).getD i 0/\s<16/\s≠0/\s&&&ybu p g (cfP p g k)=s/\perm s=true:=by
 change i<((chP perm (ybu p g (cfP p g k))).map _).length at a
 rw[zAI]at a;refine⟨_,?_,rfl,ybrx (Sh.getD_mem a)⟩;show((chP perm (ybu p g (cfP p g k))).map _).getD i (0,0)=_;simp only[zAO,zBS,zM a];rfl
theorem conf(h:WLaw p g perm D L J R M)(k:Nat):yef p g (cfP p g k)=true:=yccr h.tab.bd k
theorem yeds(h:WLaw p g perm D L J R M){d:Conf}(b:yef p g d=true):rkN p g d<ybm (tabP p g)/\cfP p g (rkN p g d)=d:=by
 have a:=yjf.1 b;have:=ybca a;refine⟨?_,ybpb a⟩;unfold rkN;omega
theorem ybmm(h:WLaw p g perm D L J R M){k s:Nat}:cfP p g (rkN p g (ygx p g (cfP p g k) s))=ygx p g (cfP p g k) s:=(h.yeds (h.fit _ (h.conf k) s)).2
theorem ybcq(h:WLaw p g perm D L J R M)(k:Nat):((spcP perm p g).arcs k).length=(chP perm (ybu p g (cfP p g k))).length:=zAI _
theorem yctg(h:WLaw p g perm D L J R M):∀k,sumA (spcP perm p g) k<=k*2^g.ids.length
 |0=>zH _
 | k + 1=>by
   have a:=yctg h k
   have b:((spcP perm p g).arcs k).length<=2^g.ids.length:=by
    rw[h.ybcq];exact ydom h.n4 (Sh.yzx p g _)
   show sumA (spcP perm p g) k+((spcP perm p g).arcs k).length<=(k+1)*2^g.ids.length;rw[Nat.succ_mul];omega
theorem tot(h:WLaw p g perm D L J R M):sumA (spcP perm p g) (ybm (tabP p g))<=262144:=zQ (h.yctg _) h.big
theorem ybes(h:WLaw p g perm D L J R M)(k:Nat):(spcP perm p g).en k=0↔((spcP perm p g).arcs k).length=0:=by
 rw[h.ybcq];show ybu p g (cfP p g k)=0↔_;constructor
 .intro e;rw[e,ybqx];rfl
 .intro e;refine zAC fun q=>ydyn (h.en16 _) q (h.low _ (h.en16 _) q) (List.length_eq_zero_iff.1 e)
theorem ok(h:WLaw p g perm D L J R M):(spcP perm p g).ok:=by
 have c:∀k,ybu p g (cfP p g k)<2^24:=fun k=>zCY (h.en16 _) (by omega)
 refine⟨yqu h.tab.bd,h.tab.tot,fun k _=>c k,fun k _=>h.ybes k,fun k _ i a=>?_,fun k _ i a=>?_,fun k _ i a=>?_,h.tot⟩
 .obtain⟨s,e,-,d,-,f,-⟩:=h.yyg a;rw[e];exact⟨zCY d (by omega),Sh.ybqb f⟩
 .obtain⟨s,e,m,d,o,f,-⟩:=h.yyg a;rw[e];unfold yboy
  by_cases q:i=0
  .rw[if_pos q];show 0<s;omega
  .rw[if_neg q];obtain⟨n,l,b,-⟩:=h.yyg (k:=k) (i:=i-1) (by omega)
   rw[l];show n<s;have j:=a;rw[h.ybcq]at j;rw[m,b,ylj j,ylj (by omega)]
   exact List.pairwise_iff_getElem.1 (ybnr _ _ _) _ _ _ _ (by omega)
 .obtain⟨s,e,-⟩:=h.yyg a;rw[e];exact(h.yeds (h.fit _ (h.conf k) s)).1
theorem free(h:WLaw p g perm D L J R M):(spcP perm p g).free fun k=>L (cfP p g k):=by
 refine⟨fun k _ v e=>?_,fun f m d=>?_⟩
 .have:(spcP perm p g).en k=0:=(h.ybes k).2 (by rw[e];rfl)
  have:=(h.rests _ (h.conf k)).1 this;rw[v]at this;cases this
 .have o:∀i,∃s,s<2^g.ids.length/\s≠0/\subB s (ybu p g (cfP p g (f i)))/\D s/\cfP p g (f (i+1))=ygx p g (cfP p g (f i)) s:=fun i=>by
   obtain⟨a,r,l⟩:=d.arc i;obtain⟨j,q,rfl⟩:=zAS r;obtain⟨s,e,-,w,t,n,u⟩:=h.yyg q;rw[ylj q]at e;rw[e]at l;have b:s<2^g.ids.length:=Sh.ybdn (ysx n) (Sh.yzx p g _);refine⟨s,b,t,ysx n,h.permD s b u,?_⟩;rw[<-l];exact h.ybmm
  let s:Nat->Nat:=fun i=>(o i).choose
  have c:=fun i=>(o i).choose_spec;exact h.noloop (fun i=>cfP p g (f i)) s m ⟨d.pos,fun i=>by show cfP p g _=_;rw[d.per],fun i=>h.conf _,fun i=>(c i).2.1,fun i=>(c i).2.2.1,fun i=>(c i).2.2.2.2⟩ fun i=>(c i).2.2.2.1
theorem rest(h:WLaw p g perm D L J R M)(k:Nat)(a:L (cfP p g k)=true):((spcP perm p g).arcs k).length=0:=(h.ybes k).1 ((h.rests _ (h.conf k)).2 a)
def BM(p:ProgT)(g:Gr)(J:Conf->Cnt->Prop)(M:Nat->Prop)(k x:Nat):Prop:=∀a,J (cfP p g k) a->M (x+a.moves)
theorem mvB(h:WLaw p g perm D L J R M):Sh.MvB (spcP perm p g) (fun k=>L (cfP p g k)) (BM p g J M):=by
 refine⟨fun k _ a hk=>by rw[zCT];exact h.moves _ _ (h.conf k) hk,fun k _ _ i l x d a hk=>?_⟩
 obtain⟨s,e,-,m,f,c,j⟩:=h.yyg l;rw[e]at d ⊢;have b:s<2^g.ids.length:=Sh.ybdn (ysx c) (Sh.yzx p g _);have:=h.step _ _ s (h.conf k) hk f (ysx c) (h.permD s b j);rw[<-h.ybmm]at this;have:=d _ this;show M (popP s+x+a.moves);rw[show popP s+x+a.moves=x+(a.moves+popP s)by omega]
 exact this
def BR(p:ProgT)(g:Gr)(J:Conf->Cnt->Prop)(R k s x:Nat):Prop:=(∀a,J (cfP p g k) a->a.pend=s->a.rounds+x<=R)/\x<=1+R
theorem rdB(h:WLaw p g perm D L J R M):Sh.RdB (spcP perm p g) (fun k=>L (cfP p g k)) g.ids.length (BR p g J R):=by
 have q:∀k i,i<((spcP perm p g).arcs k).length->∀a,J (cfP p g k) a->J (cfP p g (((spcP perm p g).arcs k).getD i (0,0)).2) (addP a (((spcP perm p g).arcs k).getD i (0,0)).1 ((spcP perm p g).en (((spcP perm p g).arcs k).getD i (0,0)).2)):=fun k i d a hk=>by
  obtain⟨s,e,-,u,r,o,t⟩:=h.yyg d;rw[e];have n:s<2^g.ids.length:=Sh.ybdn (ysx o) (Sh.yzx p g _);have:=h.step _ _ s (h.conf k) hk r (ysx o) (h.permD s n t);rw[<-h.ybmm]at this;exact this
 refine⟨fun k _ l s _=>⟨fun a hk _=>h.rounds _ _ (h.conf k) hk l,by omega⟩,fun k _ l s _ i d m f x b=>⟨fun a hk j=>?_,?_⟩,fun k _ l s _ i d m f x b=>⟨fun a hk j=>?_,b.2⟩,fun k s x b=>?_⟩
 .have c:=q k i d a hk;unfold ypm at f;unfold addP at c;simp only[j,f,if_true]at c;have:=b.1 _ c rfl;have:a.rounds+1+x<=R:=this;omega
 .have:=b.1 _ (h.start _ (h.conf _)) rfl;have:0+x<=R:=this;omega
 .have c:=q k i d a hk;unfold ypm at f b;unfold addP at c;simp only[j,if_neg f]at c;have:=b.1 _ c rfl;exact this
 .have:=b.2;have:=h.r1000;omega
theorem ycoi(h:WLaw p g perm D L J R M){k x:Nat}(a:BM p g J M k x):M x:=a _ (h.start _ (h.conf k))
theorem ybyo(h:WLaw p g perm D L J R M){k x:Nat}(a:x=0\/(L (cfP p g k)=false/\BR p g J R k ((spcP perm p g).en k) x)):x<=R:=by
 rcases a with rfl|⟨-,a⟩
 .exact zH _
 .have:=a.1 _ (h.start _ (h.conf k)) rfl;have:0+x<=R:=this;omega
end WLaw
end
section
theorem ybpo{r:Nat}:∀T:List (List (Int×Int)),(∀x∈T,ybs x<=r)->ybm T<=r^T.length
 |[],_=>zAD _
 | x::T,h=>by
   show ybs x*ybm T<=r^(T.length+1);rw[Nat.pow_succ,zBB (r^T.length)];exact zAU (h x zJ) (ybpo T fun y a=>h y (zX _ a))
theorem yvx{p:ProgT}{g:Gr}{x:List (Int×Int)}(h:x∈tabP p g):∃v,v<g.ids.length/\x=p.vars.map (ybi g v):=by
 unfold tabP tabT at h;obtain⟨v,a,rfl⟩:=List.mem_map.1 h;exact⟨v,List.mem_range.1 a,rfl⟩
theorem ycas {p:ProgT}{g:Gr}{m r:Nat}(h:g.ids.length<=m) (q:m<=4) (a:0<p.vars.length/\p.vars.length<=6)
 (f:∀v,v<g.ids.length->∀x∈p.vars,-1000000<=(ybi g v x).1/\(ybi g v x).1<=(ybi g v x).2/\(ybi g v x).2<=1000000)
 (n:∀v,v<g.ids.length->ybs (p.vars.map (ybi g v))<=r) (i:1<=r) (o:r^m<=32768) (j:r^m*2^m<=262144):TabOk (tabP p g)/\ybm (tabP p g)*2^g.ids.length<=262144:=by
 have k:(tabP p g).length=g.ids.length:=yib _ _ _
 have l:ybm (tabP p g)<=r^m:=by
  refine zQ (ybpo (r:=r) _ fun x d=>?_) ?_
  .obtain⟨v,a,rfl⟩:=yvx d;exact n v a
  .rw[k];exact zK i h
 refine⟨⟨fun x d b c=>?_,fun x d b c=>?_,by omega,fun x d=>?_,by omega⟩,zQ (zAU l (zK (by omega) h)) j⟩
 .obtain⟨v,a,rfl⟩:=yvx d;obtain⟨y,e,rfl⟩:=List.mem_map.1 c;exact(f v a y e).2.1
 .obtain⟨v,a,rfl⟩:=yvx d;obtain⟨y,e,rfl⟩:=List.mem_map.1 c;exact⟨(f v a y e).1,(f v a y e).2.2⟩
 .obtain⟨v,a,rfl⟩:=yvx d;rw[zAI];omega
theorem ydmz{g:Gr}(f:ybj g)(v:Nat):(g.ports.getD v []).length<=g.ports.length:=by
 by_cases c:v<g.ports.length
 .obtain⟨d,e⟩:=f.2.2.2.2.2.1 ⟨v,c⟩;rw[ylj c]
  have:=yyn g.ports.length ((g.ports[v]).map (·.1)) (fun x i=>by
   obtain⟨l,h,rfl⟩:=List.mem_map.1 i;obtain⟨a,b,-⟩:=d l h;exact⟨a,by omega⟩) e
  rwa [zAI]at this
 .rw[zAO,zBI (by omega)]
  exact zH _
theorem yejf {p:ProgT}{g:Gr}{P:Nat->Nat->List Int->Prop}{L:Conf->Bool}{R:Nat}(ht:TabOk (tabP p g)/\ybm (tabP p g)*2^g.ids.length<=262144) (n4:g.ids.length<=4)
 (fit:∀c,yef p g c=true->∀s,yef p g (ygx p g c s)=true) (hby:ByRounds (ymx p g) (fun c=>yef p g c=true) P) (h0:∀c v,yef p g c=true->v<g.ids.length->P 0 v (c.getD v []))
 (rests:∀c,yef p g c=true->(ybu p g c=0↔L c=true)) (right:∀c r,yef p g c=true->R<=r->(∀v,v<g.ids.length->P r v (c.getD v []))->L c=true) (hR:R<=100000)
 (noloop:∀(c:Nat->Conf) (s:Nat->Nat) (m:Nat),Loop (ymx p g) (fun c=>yef p g c=true) c s m->False) :
 WLaw p g (fun _=>true) (fun _=>True) L (RInv (ymx p g) (fun c=>yef p g c=true) P) R (fun _=>True) where
 tab:=ht.1
 n4:=n4
 big:=ht.2
 fit:=fit
 permD:=fun _ _ _=>trivial
 low:=fun _ _ _=>rfl
 start:=fun c hc=>hby.start hc fun v hv=>h0 c v hc hv
 step:=fun c k s hc hJ h1 h2 _=>hby.step c k s hJ h1 h2
 rests:=rests
 rounds:=fun c k hc hJ hl=>by
  refine zAC fun q=>?_;rw[right c k.rounds hc (by omega) hJ.all]at hl
  cases hl
 r1000:=hR
 moves:=fun _ _ _ _=>trivial
 noloop:=fun c s m h _=>noloop c s m h
end
section
theorem ycfh{l:List Int}{x:Int}(h:ydp l<x)(f:x<=1073741824):∃y∈l,y=ydp l:=by
 refine zAC fun c=>?_;have:∀b:Int,b<=1073741824->(∀y∈l,b<=y)->b<=ydp l:=fun b=>yki
 have d:=this (ydp l+1) (by omega) fun y a=>by
  have:=ymy a;rcases Int.lt_or_lt_of_ne (show y≠ydp l from fun e=>c ⟨y,a,e⟩)with q|q<;>omega
 omega
theorem ybab{j:Type}{l:List j}{a b:j->Int}{x:Int}(i:x<=1073741824)(h:∀p∈l,(a p<x->b p=a p)/\(x<=a p->x<=b p)) :
 (ydp (l.map a)<x->ydp (l.map b)=ydp (l.map a))/\(x<=ydp (l.map a)->x<=ydp (l.map b)):=by
 refine⟨fun d=>?_,fun k=>?_⟩
 .obtain⟨y,m,e⟩:=ycfh d i;obtain⟨p,g,rfl⟩:=List.mem_map.1 m;have r:=(h p g).1 (by omega)
  have n:ydp (l.map b)<=b p:=ymy (zAT g)
  have o:ydp (l.map a)<=ydp (l.map b):=yki (by omega) fun z f=>by
   obtain⟨q,c,rfl⟩:=List.mem_map.1 f;have:=ymy (l:=l.map a) (zAT c);rcases zCZ (a q) x with w|w
   .rw[(h q c).1 w];exact this
   .have:=(h q c).2 w;omega
  omega
 .refine yki i fun z f=>?_;obtain⟨q,c,rfl⟩:=List.mem_map.1 f;have:=ymy (l:=l.map a) (zAT c);exact(h q c).2 (by omega)
theorem ybli{g:Gr}(a:ybj g){v:Nat}(h:v<g.ids.length){l:Int×Int}(d:l∈g.ports.getD v []):l.1.toNat<g.ids.length/\1<=l.2/\l.2<=15:=by
 have e:g.ids.length=g.ports.length:=a.2.2.1;obtain⟨_,f,_,b,c⟩:=ybfe a (by omega) d
 exact⟨by omega,b,c⟩
end
section
section
variable {nm nl nd np no nj:ByteArray}{g:Gr}
def ldN(g:Gr)(r:List Int):Int:=r.getD 0 0*(g.ids.length:Int)+r.getD 1 0
theorem digit_eq{a b d e n:Int}(c:0<=d/\d<n)(f:0<=e/\e<n)(h:a*n+d=b*n+e):d=e:=by
 have i:(a*n+d)%n=d:=by rw[zDA,zAX];exact zBT c.1 c.2
 have j:(b*n+e)%n=e:=by rw[zDA,zAX];exact zBT f.1 f.2
 rw[<-i,h,j]
theorem ybvx(d:ybj g){c:Nat->Conf}{s:Nat->Nat}{m:Nat}(H:Loop (ymx (yfy nm nl nd np no nj) g) (fun c=>yef (yfy nm nl nd np no nj) g c=true) c s m):False:=by
 have G:(g.ids.length:Int)<=24:=by have:=d.2.1;have:=d.2.2.1;omega
 have J:0<(g.ids.length:Int):=by have:=d.1;have:=d.2.2.1;omega
 have C:=yclj d
 have j:∀{c b:Conf}{v:Nat}{x:Int},LdC g c->LdC g b->v<g.ids.length->x<=(yiy g+1)*(g.ids.length:Int) ->
  (∀u,u<g.ids.length->(ldN g (c.getD u [])<x->ldN g (b.getD u [])=ldN g (c.getD u []))/\(x<=ldN g (c.getD u [])->x<=ldN g (b.getD u [])))->∀l∈g.ports.getD v [],(ldH g c l<x->ldH g b l=ldH g c l)/\(x<=ldH g c l->x<=ldH g b l):=fun {c b v x} k i f S h l n=>by
  have p:=(ybli d f n).1;obtain⟨L,M⟩:=h _ p;obtain⟨N,D,E,Q⟩:=k.row _ p;obtain⟨O,P,z,R⟩:=i.row _ p;have w:∀c,ldK g c l=ldN g (c.getD l.1.toNat []):=fun c=>rfl;have A:∀c,endP c 1 l=(c.getD l.1.toNat []).getD 1 0:=fun c=>rfl
  have same:ldN g (c.getD l.1.toNat [])<x->ldH g b l=ldH g c l:=fun q=>by
   have e:=L q;have y:(b.getD l.1.toNat []).getD 1 0=(c.getD l.1.toNat []).getD 1 0:=digit_eq z E e;unfold ldH;rw[w,w,A,A,e,y]
  have t:x<=ldN g (c.getD l.1.toNat [])->x<=ldH g b l:=fun q=>by
   have:=M q;unfold ldH;rw[w];split<;>omega
  rcases zCZ (ldN g (c.getD l.1.toNat [])) x with q|q
  .rw[same q];exact⟨fun _=>rfl,fun h=>h⟩
  .have:x<=ldH g c l:=by
    unfold ldH;rw[w];split<;>omega
   exact⟨fun h=>by omega,fun _=>t q⟩
 refine(ybpi d).no_loop (fun c=>ybdw _ _) (ldN g) (fun c v k f=>?_) (fun c b v k i f a=>?_) (fun c b v k i f a=>?_) H
 .obtain⟨N,D,E,Q⟩:=(yea d k).row v f;have:=Int.mul_nonneg D.1 (show(0:Int)<=g.ids.length by omega)
  unfold ldN;omega
 .have f:v<g.ids.length:=f;have hid:=ywx d f;have B:g.ids.getD v 0*(g.ids.length:Int)<=yiy g*(g.ids.length:Int):=zAJ hid (by omega)
  have K:(yiy g+1)*(g.ids.length:Int)=yiy g*(g.ids.length:Int)+(g.ids.length:Int):=by rw[zDB];omega
  by_cases o:g.ids.getD v 0*(g.ids.length:Int)<=ldM g c v
  .have r:∀c,g.ids.getD v 0*(g.ids.length:Int)<=ldM g c v->ldN g (ldT g c v)=g.ids.getD v 0*(g.ids.length:Int):=fun c o=>by
    unfold ldT ldN;rw[if_pos o];simp
   rw[r c o]at a ⊢;have:=(ybab (by omega) (j (yea d k) (yea d i) f (by omega) a)).2 o
   exact r b this
  .have r:∀c,¬g.ids.getD v 0*(g.ids.length:Int)<=ldM g c v->ldN g (ldT g c v)=ldM g c v+1:=fun c o=>by
    unfold ldT ldN;rw[if_neg o];show ldM g c v/(g.ids.length:Int)*(g.ids.length:Int)+(ldM g c v%(g.ids.length:Int)+1)=_;have:=Int.mul_ediv_add_emod (ldM g c v) (g.ids.length:Int);rw[Int.mul_comm]at this;omega
   rw[r c o]at a ⊢;have:ldM g b v=ldM g c v:=(ybab (by omega) (j (yea d k) (yea d i) f (by omega) a)).1 (by show ldM g c v<_;omega)
   rw[r b (by omega),this]
 .have f:v<g.ids.length:=f;have hk:∀l∈g.ports.getD v [],ldK g b l=ldK g c l:=fun l n=>a _ (ybli d f n).1
  have I:∀l∈g.ports.getD v [],ldH g b l=ldH g c l:=fun l n=>by
   have p:=(ybli d f n).1;have e:=hk l n;have y:endP b 1 l=endP c 1 l:=digit_eq ((yea d i).row _ p).2.2.1 ((yea d k).row _ p).2.2.1 e;unfold ldH;rw[e,y]
  have F:ldM g b v=ldM g c v:=congrArg ydp (List.map_congr_left I);unfold ldT ldF;rw[F,yty fun l n=>by rw[hk l n]]
end
end
section
section
variable {nm nl nd np no nj:ByteArray}{g:Gr}
theorem ybax:∀(D:List Int) (a m:Int),a<=m->(∀x∈D,x<=m)->D.foldl max a<=m
 |[],_,_,h,_=>h
 |x::D,a,m,h,b=>ybax D _ m (Int.max_le.2 ⟨h,b x zJ⟩) fun y c=>b y (zX _ c)
theorem ybau:∀(D:List Int) (a:Int),a<=D.foldl max a
 |[],_=>Int.le_refl _
 |x::D,a=>Int.le_trans (Int.le_max_left a x) (ybau D _)
theorem ydjf(a:ybj g)(d:yee g=true)(n:∀y∈g.ids,y<(g.ids.length:Int))(B:0<=eccP g (ybt g.ids))(z:g.ports.length<=2) :
 WLaw (yfy nm nl nd np no nj) g (fun _=>true) (fun _=>True) (ycb g) (RInv (ymx (yfy nm nl nd np no nj) g) (fun c=>yef (yfy nm nl nd np no nj) g c=true) (ldR g)) ((g.ids.length:Int)+eccP g (ybt g.ids)).toNat (fun _=>True):=by
 have D:=a.2.2.1;have E:=a.1;have l:=ydmz a;have C:=(ybgr g (ybt g.ids)).2;have hid:=a.2.2.2.1;have o:=yvn (ids:=g.ids) (by omega) fun x f=>(hid x f).1
 have t:0<=maxI g.ids:=by rw[o];exact ybau _ _
 have u:maxI g.ids<=1:=by
  rw[o];exact ybax _ _ _ (by omega) fun x f=>by have:=n x f;omega
 obtain⟨T,p⟩:∃T,maxI g.ids=T:=⟨_,rfl⟩;have i:∀v,ybi g v ⟨nl,1,0,0,0,1⟩=(0,0+0*(g.ids.length:Int)+1*T):=fun v=>by rw[<-p];exact if_pos rfl
 have j:∀v,ybi g v ⟨nd,1,0,-1,1,0⟩=(0,-1+1*(g.ids.length:Int)+0*T):=fun v=>by rw[<-p];exact if_pos rfl
 have k:∀v,ybi g v ⟨np,3,0,0,0,0⟩=(-1,((g.ports.getD v []).length:Int)-1):=fun v=>rfl;rw[p]at t u
 refine yejf (ycas (m:=2) (r:=12) (by omega) (by omega) ⟨Nat.succ_pos _,by show 3<=6;omega⟩ (fun v w x f=>?_) (fun v w=>?_) (by omega) (by decide) (by decide)) (by omega)
  (fun c h s=>Sh.ykp a yecb (ybos a) h s) ((ybpi a).rounds (fun c v r q z b=>ld_next a d (yea a q) z r b) ycqd) (fun c v h w=>ybqg a d (yea a h) w)
  (fun c h=>ycoc a d h) (fun c r h F b=>(ybpe a d h).2 (ybfx a d (r:=r) (by omega) b)) (by omega) (fun c s m A=>ybvx a A)
 .have:=l v;rcases List.mem_cons.1 f with e|f
  .rw[e,i];show -1000000<=(0:Int)/\(0:Int)<=0+0*(g.ids.length:Int)+1*T/\0+0*(g.ids.length:Int)+1*T<=1000000;omega
  rcases List.mem_cons.1 f with e|f
  .rw[e,j];show -1000000<=(0:Int)/\(0:Int) <= -1+1*(g.ids.length:Int)+0*T /\ -1+1*(g.ids.length:Int)+0*T<=1000000;omega
  .rw[List.mem_singleton.1 f,k];show -1000000<=(-1:Int)/\(-1:Int)<=((g.ports.getD v []).length:Int)-1/\((g.ports.getD v []).length:Int)-1<=1000000;omega
 .have:=l v;show szP (ybi g v ⟨nl,1,0,0,0,1⟩)*(szP (ybi g v ⟨nd,1,0,-1,1,0⟩)*(szP (ybi g v ⟨np,3,0,0,0,0⟩)*1))<=12;rw[i,j,k];unfold szP;show(0+0*(g.ids.length:Int)+1*T-0+1).toNat*((-1+1*(g.ids.length:Int)+0*T-0+1).toNat*((((g.ports.getD v []).length:Int)-1 - -1+1).toNat*1))<=12;exact zQ (zAU (show _<=2 by omega) (zAU (show _<=2 by omega) (show _<=3 by omega))) (by decide)
end
end
section
namespace Sh
open Go Ev
def c5_0:LO:=[bx' 24 0 1 0,mb false 2 0]
def c5_1:LO:=[fa' 3 1 1 22 0,o0 (.store 1 (.tmp 22) (.const (.slice none 0 0))) 1]
def c5_2:LO:=[la' 6 1 23 0,o3 (.call (.func 10) [(.tmp 23),(ci' 2)]) 24 1,o3 (.alloc 27 1 [.a (.slice none 0 0),.a (.slice none 0 0)]) 3 0,sto 2 3 24 7]
def c5_3:LO:=[cl' 27 [] 25 0,cl' 11 [25] 26 1,o3 (.alloc 32 1 [.a (.string (ByteArray.mk #[])),.a (.slice none 0 0),.a (.slice none 0 0)]) 4 0,sto 3 4 26 7]
def c5_4:LO:=[la' 2 3 27 0,cl' 28 [27] 28 1,o3 (.alloc 36 1 [.i .i64 0,.b false,.b false,.i .i64 0,.i .i64 0]) 5 0,sto 5 5 28 7]
def c5_5:LO:=[la' 3 4 30 0,la' 2 3 31 0,fa' 0 1 5 32 0,ld' 1 32 33 4,cl' 14 [30,31,33] 34 15,mv' 34 29 31,xt' 29 0 35 63,xt' 29 1 36 63,o3 (.alloc 41 1 [.a (.slice none 0 0),.a (.slice none 0 0)]) 6 0,sto 2 6 35 383,mv' 36 7 1023]
def c5_6:LO:=[mv' 7 37 0,bc .neq 37 0 38 1,mv' 38 39 3,gf (.faddr 1 1 (.tmp 6)) 40 39 7,gf (.load false 1 (.tmp 40)) 41 39 15,gf (.len (.tmp 41)) 42 39 31,gf (.bin .eql (.tmp 42) (ci' 0)) 43 39 63,pk' 39 43 44 127]
def c5_7:LO:=[mb false 2 0]
def c5_8:LO:=[nl' 8 0]
def c5_9:LO:=[mc 0 9 0]
def ydja:LO:=[mv' 9 45 0,fa' 1 1 6 46 0,ld' 1 46 47 2,ln' 47 48 6,bn' .lss 45 48 49 15]
def yefh:LO:=[la' 3 4 53 0,la' 2 3 54 0,mv' 9 55 0,cl' 15 [53,54,55] 56 7,mv' 56 52 15,xt' 52 0 57 31,xt' 52 1 58 31,mv' 57 10 63,mv' 58 11 255]
def ydvw:LO:=[mv' 11 59 0,bc .neq 59 0 60 1]
def yejp:LO:=[mb false 2 0]
def ydrv:LO:=[mv' 8 61 0,la' 2 3 62 0,mv' 10 63 0,cl' 29 [62,63] 64 6,o3 (.bslice 4 1 1 [.b false] [(0,1,(.tmp 64))]) 65 14,o3 (.app 4 1 1 (.tmp 61) (.tmp 65)) 66 31,mv' 66 8 63]
def ydtq:LO:=[mv' 9 50 0,bc .add 50 1 51 1,mv' 51 9 3]
def ydug:LO:=[la' 2 6 68 0,mv' 8 69 0,cl' 17 [68,69] 70 3,mv' 70 67 7,xt' 67 0 71 15,xt' 67 1 72 15,mv' 71 12 31,mv' 72 13 127]
def yeez:LO:=[la' 2 6 74 0,mv' 8 75 0,cl' 18 [74,75] 76 3,mv' 76 73 7,xt' 73 0 77 15,xt' 73 1 78 15,mv' 77 14 31,mv' 78 15 127]
def yedg:LO:=[mv' 13 79 0,bc .neq 79 0 80 1,mv' 80 81 3,gf (.mv (.tmp 15)) 82 81 7,gf (.bin .neq (.tmp 82) (ci' 0)) 83 81 15,pk' 81 83 84 31,mv' 84 85 63,gf (.mv (.tmp 14)) 86 85 127,gf (.un .not (.tmp 86)) 87 85 255,pk' 85 87 88 511,mv' 88 89 1023,gf (.mv (.tmp 12)) 90 89 2047,gf (.len (.tmp 90)) 91 89 4095,gf (.mv (.tmp 8)) 92 89 2047,gf (.len (.tmp 92)) 93 89 10239,gf (.bin .neq (.tmp 91) (.tmp 93)) 94 89 32767,pk' 89 94 95 65535]
def yeib:LO:=[mb false 2 0]
def yeaz:LO:=[mc 0 16 0]
def ydkg:LO:=[mv' 16 96 0,mv' 12 97 0,ln' 97 98 2,bn' .lss 96 98 99 7]
def ydvx:LO:=[mv' 12 102 0,mv' 16 103 0,ix' 1 102 103 104 3,ld' 1 104 105 7]
def yehs:LO:=[mb false 2 0]
def yegn:LO:=[mv' 16 100 0,bc .add 100 1 101 1,mv' 101 16 3]
def ydwn:LO:=[la' 2 6 107 0,mv' 8 108 0,cl' 19 [107,108] 109 3,mv' 109 106 7,xt' 106 0 110 15,xt' 106 1 111 15,mv' 110 17 31,mv' 111 18 127]
def ydzv:LO:=[la' 2 6 113 0,mv' 8 114 0,cl' 20 [113,114] 115 3,mv' 115 112 7,xt' 112 0 116 15,xt' 112 1 117 15,mv' 116 19 31,mv' 117 20 127]
def yech:LO:=[mv' 18 118 0,bc .neq 118 0 119 1,mv' 119 120 3,gf (.mv (.tmp 20)) 121 120 7,gf (.bin .neq (.tmp 121) (ci' 0)) 122 120 15,pk' 120 122 123 31,mv' 123 124 63,gf (.mv (.tmp 17)) 125 124 127,gf (.len (.tmp 125)) 126 124 255,gf (.mv (.tmp 8)) 127 124 127,gf (.len (.tmp 127)) 128 124 639,gf (.bin .neq (.tmp 126) (.tmp 128)) 129 124 2047,pk' 124 129 130 4095,mv' 130 131 8191,gf (.mv (.tmp 19)) 132 131 16383,gf (.len (.tmp 132)) 133 131 32767,gf (.mv (.tmp 8)) 134 131 16383,gf (.len (.tmp 134)) 135 131 81919,gf (.bin .neq (.tmp 133) (.tmp 135)) 136 131 262143,pk' 131 136 137 524287]
def yeis:LO:=[mb false 2 0]
def ydss:LO:=[mc 0 21 0]
def ydnd:LO:=[mv' 21 138 0,mv' 17 139 0,ln' 139 140 2,bn' .lss 138 140 141 7]
def yedt:LO:=[mv' 17 144 0,mv' 21 145 0,ix' 1 144 145 146 3,ld' 1 146 147 7,fa' 3 1 5 148 0,ld' 1 148 149 16,bn' .gtr 147 149 150 63,mv' 150 151 127,gf (.faddr 4 1 (.tmp 5)) 152 151 255,gf (.load false 1 (.tmp 152)) 153 151 511,gf (.bin .geq (.tmp 153) (ci' 0)) 154 151 1023,gf (.mv (.tmp 154)) 155 151 2047,gt (.mv (.tmp 19)) 156 155 4095,gt (.mv (.tmp 21)) 157 155 4095,gt (.idx 1 (.tmp 156) (.tmp 157)) 158 155 16383,gt (.load false 1 (.tmp 158)) 159 155 32767,gt (.faddr 4 1 (.tmp 5)) 160 155 4095,gt (.load false 1 (.tmp 160)) 161 155 69631,gt (.bin .gtr (.tmp 159) (.tmp 161)) 162 155 262143,gf (.pick (.tmp 155) (.tmp 162) (.const (.bool false))) 163 151 524287,pk' 151 163 164 1048575]
def yehd:LO:=[mb false 2 0]
def yejo:LO:=[mv' 21 142 0,bc .add 142 1 143 1,mv' 143 21 3]
def yees:LO:=[cl' 30 [] 165 0,mv' 165 2 1]
def c5:SC:=(sr c5_0 <| sr c5_1 <| sr c5_2 <| sr c5_3 <| sr c5_4 <| sr c5_5 <| .seq (sr c5_6 <| cn 44 (sr c5_7 <| .ret) .skip) (sr c5_8 <| .seq (sr c5_9 <| .block 0 (.loop (.seq (sr ydja <| cn 49 .skip (.exit 0)) (.seq (.block 1 (sr yefh <| .seq (sr ydvw <| cn 60 (sr yejp <| .ret) .skip) (.reg false ydrv))) (.reg false ydtq))))) (sr ydug <| sr yeez <| .seq (sr yedg <| cn 95 (sr yeib <| .ret) .skip) (.seq (sr yeaz <| .block 2 (.loop (.seq (sr ydkg <| cn 99 .skip (.exit 2)) (.seq (.block 3 (sr ydvx <| cn 105 (sr yehs <| .ret) .skip)) (.reg false yegn))))) (sr ydwn <| sr ydzv <| .seq (sr yech <| cn 137 (sr yeis <| .ret) .skip) (.seq (sr ydss <| .block 4 (.loop (.seq (sr ydnd <| cn 141 .skip (.exit 4)) (.seq (.block 5 (.seq (.reg true yedt) (cn 164 (sr yehd <| .ret) .skip))) (.reg false yejo))))) (sr yees <| .ret)))))))
theorem yehr:Fn 5 c5 [.t 2]:=fn_0 Tryz.func5
end Sh
end
end Go.Proofs.YthclbjjgfcgbgaaGreatDoor
