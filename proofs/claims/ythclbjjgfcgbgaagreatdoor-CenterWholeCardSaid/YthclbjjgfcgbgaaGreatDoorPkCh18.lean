/- Joined. -/
import Derived.Test.YthclbjjgfcgbgaaGreatDoorPkCh17
set_option linter.unusedSimpArgs false
set_option linter.unusedVariables false
set_option maxRecDepth 8000
open Nat renaming reduceEqDiff->zA,reduceAdd->zB,reduceLT->zC,reduceLeDiff->zF,reduceBEq->zK,zero_le->zL,reduceMul->zQ,sub_self->zT,le_trans->zAA,sub_zero->zAB,le_mul_of_pos_right->zAC,le_mul_of_pos_left->zAD,ble_eq_true_of_le->zAE,mul_assoc->zAL,mul_le_mul_left->zAN,mul_one->zAT,le_refl->zAU,div_eq_of_lt->zAX,mul_add_div->zBD,two_pow_pos->zBE,div_le_self->zBF,not_lt_zero->zBH,reduceSub->zBI,mul_comm->zBM,blt->zBO
open And renaming intro->zD
open Go.Proofs.Tryz renaming prog->zG,func133->zBK,func134->zBL
open Go.Lib renaming hid->zH
open List renaming getElem?_eq_getElem->zI,getD->zJ,take_succ_eq_append_getElem->zN,mem_cons_self->zS,take_append_drop->zU,not_mem_nil->zV,drop_length->zW,getElem_mem->zZ,range->zAH,mem_of_mem_drop->zAI,mem_cons_of_mem->zAJ,mem_of_mem_take->zAK,append_toArray->zAM,getElem_of_mem->zAO,length_append->zAP,size_toArray->zAR,push_toArray->zAS,length_cons->zAV,cons_append->zAW,length_nil->zBA,nil_append->zBB,headD_cons->zBC
open Int renaming reduceToNat->zM,natCast_zero->zO,lt_irrefl->zX,reduceBNe->zY,natCast_mul->zBG,reduceNeg->zBJ,reduceGE->zBN
open Array renaming replicate_succ->zAF,replicate_zero->zAG
open Bool renaming false_eq_true->zAQ,and_eq_true->zAZ
open Option renaming getD_some->zAY
open Go
namespace Go.Proofs.YthclbjjgfcgbgaaGreatDoor
section
namespace Ev
open Go Go.RowKit
noncomputable def ybed(m:Mem)(A:Addr):Option Value:=match A.spot,m.b.get A.block with
 |none,some (.cells c n _ _)=>bif zBO A.off n then c.get A.off else none
 |_,_=>none
section
variable {φ φ':Phi}{M:AM}{w:World}{m:Mem}
theorem ybaa{A:Addr}{v box:Value}(h:ybed m A=some v)(hv:VR φ (.pointer (some A)) box)(hR:Rel φ M w)(hs:Sub m M) :
 ∃b o s,box = .pointer (some ⟨b,o,none⟩)/\w.cell? ⟨b,o,none⟩=some s/\VR φ v s:=by
 unfold ybed at h;split at h
 .rename_i c n e z hsp hb
  rw[Bool.cond_eq_ite]at h;split at h
  .rename_i hlt
   have hlt:A.off<n:=Nat.le_of_ble_eq_true hlt;obtain⟨lc,cs,e',fz,g1,g2,g3,_,g4,g5,g6⟩:=hR.cellsAt (hs _ _ hb);obtain⟨s,k1,k2⟩:=g6 _ _ hlt h;cases hv with
   |simple hq=>cases hq
   | ptr hp =>
     rw[hp]at g1;cases g1
     exact⟨_,_,s,rfl,cell_of g4 k1,k2⟩
  .cases h
 .cases h
end
abbrev ydgq(x:Int×Int):Value:=.agg #[.int .i64 x.1,.int .i64 x.2]
set_option maxRecDepth 100000 in
set_option maxHeartbeats 1000000 in
theorem yckc{A:Addr}{v:Value}{us:List Value}:ItOk zG 133 [.pointer (some A)]
 ⟨us.length,fun k=>[.int .i64 ((us.length-1-k:Nat):Int),us.getD (us.length-1-k) undef],fun _ m=>ybed m A=some v/\∃ft,rowOf m 1 v=some (us,ft),fun _ m=>m,fun _ _ M w M' w'=>M'=M/\w'=w⟩:=by
 refine⟨fun args w=>ybt yrs zBK rfl args w,fun k m hk hw _=>Grow.refl hw,?_,?_⟩
 .rintro k φ M w m M' w' hk hw hR hs hp ⟨rfl,rfl⟩;exact Good.refl hR hs
 .intro l St Stop φ M w cap' hread hgrow hyield h0 hcap;obtain⟨box,rfl,hbox⟩:=yfq hcap;obtain⟨m,hR,hs,q1,ft,q2⟩:=(hread 0 φ M w h0).2;obtain⟨b,o,s,rfl,hcell,hvs⟩:=ybaa q1 hbox hR hs;obtain⟨As,cs,rfl,hs1,hs2⟩:=ybx (ybkp q2 hvs hR hs);have Hread:=zH hread;have Hyield:=zH hyield;have Hbox:=zH hbox;have H0:=zH h0
  clear hread hgrow hyield hvs h0 hbox hR hs q1 q2
  refine callsIn_of_wp zBK rfl trivial ?_
  simp only[Tryz.ntmps133,zAR,zAV,zBA,zB,zBI,zAF,
   zAG,zAS,zAM,zBB,zAW]
  gi_wp2
  gi_loopg [3] us.length (fun q t wr=>∃k:Nat,q+k=us.length/\t = .int .i64 ((us.length:Int)-1-k)/\Hid (∃φ' M',φ.le φ'/\St k φ' M' wr))
  case atStart=>exact⟨0,by omega,by simp,zH ⟨φ,M,φ.le_refl,H0.out⟩⟩
  case round =>
   obtain⟨k,hq,rfl,hst⟩:=hrel
   by_cases hlt:k<us.length
   .obtain⟨φ1,M1,hle1,hst1⟩:=hst.out;obtain⟨m1,hR1,hs1',q1,ft1,q2⟩:=(Hread.out _ _ _ _ hst1).2;obtain⟨b',o',s',e1,hcell1,hvs1⟩:=ybaa q1 (Hbox.out.mono hle1) hR1 hs1';cases e1
    obtain⟨As',cs',rfl,e2,e3,e4⟩:=ybkp q2 hvs1 hR1 hs1';obtain⟨rb,ro,rfl,hrb,e5⟩:=e4 (by omega)
    obtain⟨j,hj⟩:∃j,us.length-1-k=j:=⟨_,rfl⟩;have hji:(us.length:Int)-1-k=(j:Int):=by omega
    have hjl:j<us.length:=by omega
    rw[hji];obtain⟨r,hr1,hr2⟩:=e5 j _ (zI hjl);rw[zAT]at hr1;have hk1:(decide ((j:Int)>=0))=true:=by simp
    obtain⟨fn,tmps,assign,body,hy,hRd⟩:=Hyield.out k φ1 M1 wr [.int .i64 (j:Int),r] hlt hst1 (by
     show VRL φ1 [.int .i64 ((us.length-1-k:Nat):Int),us.getD (us.length-1-k) undef] _;rw[hj,Sh.getD_at hjl];exact .cons (.simple rfl) (.cons hr2 .nil))
    have hy:(Instr.yield l #[.int .i64 (j:Int),r]).run zG wr = .ok (.round l fn tmps assign body) wr:=hy;have Hst1:=zH hst1;have Hle1:=zH hle1
    clear hst hst1 hle1 q1 q2 hR1 hs1' hvs1 e5 e4 hr2
    gi_wp2
    refine hRd.mono ?_;rintro e W3 (⟨rfl,φ3,M3,hle3,_,hst3⟩|⟨rfl,hstop⟩)
    .have Hst3:=zH (hst3 _ _ ⟨rfl,rfl⟩);have Hle3:=zH hle3
     clear hst3 hle3 hRd hy
     gi_wp2
     gi_roundg (gk-1)
     case measure=>omega
     case rel =>
      refine⟨k+1,by omega,?_,zH ⟨φ3,M3,Phi.le_trans Hle1.out Hle3.out,Hst3.out⟩⟩
      congr 1;omega
    .have Hstop:=zH hstop
     clear hstop hRd hy
     gi_wp2
     refine bodyPost_ret (results_none rfl _ _ _) rfl ?_;exact⟨⟨_,rfl⟩,.inr Hstop.out⟩
   .gi_wp2
    obtain⟨φ2,M2,hle2,hst2⟩:=hst.out
    go_end0
    have hk:k=us.length:=by omega
    rw[hk]at hst2;exact⟨⟨_,rfl⟩,.inl ⟨φ2,M2,hst2⟩⟩
set_option maxRecDepth 100000 in
set_option maxHeartbeats 1000000 in
theorem ycjo{A:Addr}{v:Value}{ls:List (Int×Int)}:ItOk zG 134 [.pointer (some A)]
 ⟨ls.length,fun k=>[.int .i64 ((ls.length-1-k:Nat):Int),ydgq (ls.getD (ls.length-1-k) (0,0))],fun _ m=>ybed m A=some v/\linksOf m v=some ls,fun _ m=>m,fun _ _ M w M' w'=>M'=M/\w'=w⟩:=by
 refine⟨fun args w=>ybt yrs zBL rfl args w,fun k m hk hw _=>Grow.refl hw,?_,?_⟩
 .rintro k φ M w m M' w' hk hw hR hs hp ⟨rfl,rfl⟩;exact Good.refl hR hs
 .intro l St Stop φ M w cap' hread hgrow hyield h0 hcap;obtain⟨box,rfl,hbox⟩:=yfq hcap;obtain⟨m,hR,hs,q1,q2⟩:=(hread 0 φ M w h0).2;obtain⟨b,o,s,rfl,hcell,hvs⟩:=ybaa q1 hbox hR hs;obtain⟨As,cs,rfl,hs1,hs2⟩:=ybx (yiq q2 hvs hR hs);have Hread:=zH hread;have Hyield:=zH hyield;have Hbox:=zH hbox;have H0:=zH h0
  clear hread hgrow hyield hvs h0 hbox hR hs q1 q2
  refine callsIn_of_wp zBL rfl trivial ?_
  simp only[Tryz.ntmps134,zAR,zAV,zBA,zB,zBI,zAF,
   zAG,zAS,zAM,zBB,zAW]
  gi_wp2
  gi_loopg [3] ls.length (fun q t wr=>∃k:Nat,q+k=ls.length/\t = .int .i64 ((ls.length:Int)-1-k)/\Hid (∃φ' M',φ.le φ'/\St k φ' M' wr))
  case atStart=>exact⟨0,by omega,by simp,zH ⟨φ,M,φ.le_refl,H0.out⟩⟩
  case round =>
   obtain⟨k,hq,rfl,hst⟩:=hrel
   by_cases hlt:k<ls.length
   .obtain⟨φ1,M1,hle1,hst1⟩:=hst.out;obtain⟨m1,hR1,hs1',q1,q2⟩:=(Hread.out _ _ _ _ hst1).2;obtain⟨b',o',s',e1,hcell1,hvs1⟩:=ybaa q1 (Hbox.out.mono hle1) hR1 hs1';cases e1
    obtain⟨As',cs',rfl,e2,e3,e4⟩:=yiq q2 hvs1 hR1 hs1';obtain⟨rb,ro,rfl,hrb,e5⟩:=e4 (by omega)
    obtain⟨j,hj⟩:∃j,ls.length-1-k=j:=⟨_,rfl⟩;have hji:(ls.length:Int)-1-k=(j:Int):=by omega
    have hjl:j<ls.length:=by omega
    rw[hji];obtain⟨x,hx⟩:∃x,ls[j]?=some x:=⟨_,zI hjl⟩;obtain⟨hc1,hc2,_,_⟩:=e5 j x hx;have hx':ls.getD j (0,0)=x:=by simp[zJ,hx]
    have hk1:(decide ((j:Int)>=0))=true:=by simp
    obtain⟨fn,tmps,assign,body,hy,hRd⟩:=Hyield.out k φ1 M1 wr [.int .i64 (j:Int),.agg #[.int .i64 x.1,.int .i64 x.2]] hlt hst1 (by
     show VRL φ1 [.int .i64 ((ls.length-1-k:Nat):Int),ydgq (ls.getD (ls.length-1-k) (0,0))] _;rw[hj,hx'];exact .cons (.simple rfl) (.cons (VR.atomA (v:=ydgq x) rfl) .nil))
    have hy:(Instr.yield l #[.int .i64 (j:Int),.agg #[.int .i64 x.1,.int .i64 x.2]]).run zG wr = .ok (.round l fn tmps assign body) wr:=hy;have Hst1:=zH hst1;have Hle1:=zH hle1
    clear hst hst1 hle1 q1 q2 hR1 hs1' hvs1 e5 e4
    gi_wp2
    refine hRd.mono ?_;rintro e W3 (⟨rfl,φ3,M3,hle3,_,hst3⟩|⟨rfl,hstop⟩)
    .have Hst3:=zH (hst3 _ _ ⟨rfl,rfl⟩);have Hle3:=zH hle3
     clear hst3 hle3 hRd hy
     gi_wp2
     gi_roundg (gk-1)
     case measure=>omega
     case rel =>
      refine⟨k+1,by omega,?_,zH ⟨φ3,M3,Phi.le_trans Hle1.out Hle3.out,Hst3.out⟩⟩
      congr 1;omega
    .have Hstop:=zH hstop
     clear hstop hRd hy
     gi_wp2
     refine bodyPost_ret (results_none rfl _ _ _) rfl ?_;exact⟨⟨_,rfl⟩,.inr Hstop.out⟩
   .gi_wp2
    obtain⟨φ2,M2,hle2,hst2⟩:=hst.out
    go_end0
    have hk:k=ls.length:=by omega
    rw[hk]at hst2;exact⟨⟨_,rfl⟩,.inl ⟨φ2,M2,hst2⟩⟩
end Ev
namespace Sh
open Ev
def bwdS(n:Nat)(e:Nat->SV):ItS:=⟨n,fun k=>[.i .i64 ((n-1-k:Nat):Int),e (n-1-k)],[],fun _ _=>True,fun _ o=>o⟩
theorem ybec{ls:List (Int×Int)}(hI:∀l∈ls,I64 l.1/\I64 l.2):ItC zG 134 [.rf [yw ls]] (bwdS ls.length fun k=>.ag [.i .i64 (ls.getD k (0,0)).1,.i .i64 (ls.getD k (0,0)).2]):=by
 intro lo F ω s f m us hc hr _;obtain⟨u,rfl,hu⟩:=rvl1 hr;obtain⟨bk,p,T,N,e,zz,L,rfl,h1,h2,h3,h4,h5⟩:=hu.rf_inv;obtain⟨v,rfl,hv⟩:=rvl1 h4;have hv0:RV F om0 (yw ls) v:=hv
 have hbox:∀m':Mem,Le F m'.b.get->ybed m' ⟨bk,p,none⟩=some v:=fun m' hF=>by
  unfold ybed;simp only;rw[hF _ _ h1];simp only;rw[show zBO p N=true from zAE (show p+1<=N by simp at h2;omega)]
  simp only[cond_true];exact h3 0 (by simp)
 exact⟨_,ycjo (A:=⟨bk,p,none⟩) (v:=v) (ls:=ls),rfl,fun F' ω' s' f' m' k hF _ hc' hk _=>⟨⟨hbox m' (hF.trans hc'.sub),ybqt (hF.trans hc'.sub) hv0 hI⟩,fun hk=>⟨.cons .i (.cons (.ag (.cons .i (.cons .i .nil))) .nil),hc'⟩⟩⟩
theorem ybbh{n:Nat}{e:Nat->SV}:ItC zG 133 [.rf [.sl 1 n fun k=>[e k]]] (bwdS n e):=by
 intro lo F ω s f m us hc hr _;obtain⟨u,rfl,hu⟩:=rvl1 hr;obtain⟨bk,p,T,N,ee,zz,L,rfl,h1,h2,h3,h4,h5⟩:=hu.rf_inv;obtain⟨v,rfl,hv⟩:=rvl1 h4
 have hbox:∀m':Mem,Le F m'.b.get->ybed m' ⟨bk,p,none⟩=some v:=fun m' hF=>by
  unfold ybed;simp only;rw[hF _ _ h1];simp only;rw[show zBO p N=true from zAE (show p+1<=N by simp at h2;omega)]
  simp only[cond_true];exact h3 0 (by simp)
 have fin:∀(us:List Value) (ft:List Nat),(∀m:Mem,Le F m.b.get->rowOf m 1 v=some (us,ft))->us.length=n->(∀(k:Nat) x,us[k]?=some x->RV F om0 (e k) x) ->
  ∃ T : It,ItOk zG 133 [.pointer (some ⟨bk,p,none⟩)] T/\T.n=n /\
    ∀ (F':AM) (ω':Om) (s':SS) (f':Fr) (m':Mem) (k:Nat),Le F F'->(∀β∈(bwdS n e).pr,∀x,ω β=some x->ω' β=some x)->Conc lo F' ω' s' f' m'->k<=n->(bwdS n e).own k s'.o ->
      T.pre k m'/\(k<n->RVL F' ω' ((bwdS n e).el k) (T.el k)/\Conc lo F' ω' ⟨s'.f,(bwdS n e).adv k s'.o⟩ f' (T.adv k m')):=fun us ft hrow hl hel=>by
  subst hl;refine⟨_,yckc (A:=⟨bk,p,none⟩) (v:=v) (us:=us),rfl,fun F' ω' s' f' m' k hF _ hc' hk _=>⟨⟨hbox m' (hF.trans hc'.sub),ft,hrow m' (hF.trans hc'.sub)⟩,fun hk=>⟨.cons .i (.cons ?_ .nil),hc'⟩⟩⟩;have hj:us.length-1-k<us.length:=by omega
  have h:=hel (us.length-1-k) _ (zI hj);rw[getD_at hj];exact h.mono hF (yqj _)
 rcases hv.sl_inv with⟨k0,hz⟩|⟨bk',p',cp,T',N',e',zz',L',rfl,g1,g2,g3,g4,g5,g6,g7⟩
 .subst k0;exact fin [] [] (fun m _=>row_zero hz 1) rfl (fun k x q=>by simp at q)
 .rcases Nat.eq_zero_or_pos n with h0|h0
  .subst h0;exact fin [] [] (fun m _=>rfl) rfl (fun k x q=>by simp at q)
  .refine fin (ycl L' n) [bk'] (fun m hF=>row_of (hF _ _ g1) h0 g3 g4 g5) (by rw[ycu g4,zAT]) fun k x q1=>?_
   have hk:k<n:=by
    have:=(List.getElem?_eq_some_iff.1 q1).1;rw[ycu g4,zAT]at this;exact this
   rw[ybwl g4 hk]at q1;obtain⟨v,e1,hv⟩:=rvl1 (g6 k hk);rw[e1]at q1;cases q1
   exact hv
theorem ybbz{n:Nat}{e:Nat->SV}:Returns zG 67 [.sl 1 n fun k=>[e k]] (.fn 133 [] [.rf [.sl 1 n fun k=>[e k]]]):=by
 refine Returns.of (ydwf _ _ ?_);simp only[c67,ydoc,ydvx,go_sem,zA,zB,zF,zC,↓reduceIte,reduceCtorEq];exact Sim.refl _
theorem ybcn{ls:List (Int×Int)}:Returns zG 68 [yw ls] (.fn 134 [] [.rf [yw ls]]):=by
 refine Returns.of (ydmw _ _ ?_);simp only[c68,ydly,ydro,go_sem,zA,zB,zF,zC,↓reduceIte,reduceCtorEq];exact Sim.refl _
end Sh
end
section
def ymq(S:Spc)(p s t:Nat):Nat:=difB p s&&&S.en t
def yfp(S:Spc)(p s t:Nat):Nat:=if ymq S p s t=0 then S.en t else ymq S p s t
namespace Sh
open Ev Go.RowKit
theorem yur{S:Spc}(h:S.ok){k p s t:Nat}(hp:p<2^32)(hs:s<2^32)(ht:t<S.N) :
 Returns zG 76 [.ag (spcC S),.ag [.i .i64 (k:Nat),.i .u32 (p:Nat)],.ag [.i .u32 (s:Nat),.i .i64 (t:Nat)]] (.tp [.ag [.i .i64 (t:Nat),.i .u32 (yfp S p s t:Nat)],.b (decide (ymq S p s t=0))]):=by
 refine Returns.of (ydnv _ _ ?_);have hle:=h.le;have he:=h.lt t ht;have a1:=u32_andNot (a:=p) (b:=s) hp hs;have hd:difB p s<2^32:=ysm hp;have a2:=u32_and (a:=difB p s) (b:=S.en t) hd (by omega)
 change _=((ymq S p s t:Nat):Int)at a2
 simp only[IntKind.bits]at a1 a2;obtain⟨x,hx⟩:∃x,ymq S p s t=x:=⟨_,rfl⟩;unfold yfp;rw[hx]at a2 ⊢
 by_cases q:x=0
 .have d1:((x:Int)==0)=true:=by rw[q];rfl
  rw[if_pos q,decide_eq_true q];simp only[c76,ydff,ydgn,ydcv,ydtq,spcC,ybh,a1,a2,d1,splice,clash,go_sem,zA,zB,zF,zC,↓reduceIte,reduceCtorEq]
  repeat refine zD (by first|omega|decide|exact ikw (by omega) (by omega)) ?_
  exact Sim.refl _
 .have d1:((x:Int)==0)=false:=by rw[beq_eq_false_iff_ne];omega
  rw[if_neg q,decide_eq_false q];simp only[c76,ydff,ydgn,ydcv,ydxg,spcC,ybh,a1,a2,d1,splice,clash,go_sem,zA,zB,zF,zC,↓reduceIte,reduceCtorEq]
  repeat refine zD (by first|omega|decide|exact ikw (by omega) (by omega)) ?_
  exact Sim.refl _
def yfw(Q:List (Nat×Nat)):Fam:=.one (some ⟨109,false,2,Q.length,fun i=>[.i .i64 ((Q.getD i (0,0)).1:Nat),.i .u32 ((Q.getD i (0,0)).2:Nat)]⟩)
def yfc(N:Nat)(lg:Nat->Bool)(seen:Nat->Bool)(Q:List (Nat×Nat)):Own :=
 [(301,.one (some ⟨45,true,1,1,fun _=>[ybb N lg]⟩)),(302,.one (some ⟨166,true,1,1,fun _=>[.mr (303,0)]⟩)),(303,.one (some ⟨CU,true,0,0,fun c=>[.b (seen c)]⟩)),
  (304,.one (some ⟨167,true,1,1,fun _=>[.os (305,0) 0 Q.length true]⟩)),(305,yfw Q)]
def addS(seen:Nat->Bool)(c:Nat):Nat->Bool:=fun d=>if d=c then true else seen d
theorem ycbh(Q:List (Nat×Nat))(x:Nat×Nat){i:Nat}(hi:i<Q.length+1):(if i<Q.length then[SV.i .i64 ((Q.getD i (0,0)).1:Nat),SV.i .u32 ((Q.getD i (0,0)).2:Nat)]else List.take 2 (List.drop ((i-Q.length)*2) [SV.i .i64 (x.1:Int),SV.i .u32 (x.2:Int)]))=[SV.i .i64 (((Q++[x]).getD i (0,0)).1:Nat),SV.i .u32 (((Q++[x]).getD i (0,0)).2:Nat)]:=by
 by_cases q:i<Q.length
 .rw[if_pos q];simp[zJ,List.getElem?_append_left q]
 .obtain rfl:i=Q.length:=by omega
  rw[if_neg q,zT];simp[zJ]
theorem yob{h:Nm->Nm}{vir:List Nat}{O1 O:Own}{X:List SV}{k k':IntKind}{x y:Int}(e:X=[.i k x,.i k' y]):telL h vir [] O1 O X [.i k x,.i k' y]:=by
 subst e;exact⟨.inl ⟨(yhe _ _ _).2 trivial,by rw[ydw];exact Sim.refl _,rfl⟩,rfl,.inl ⟨(yhe _ _ _).2 trivial,by rw[ydw];exact Sim.refl _,rfl⟩,rfl,trivial⟩
theorem ydyf(x:Bool):mval 0 (.b x)=true:=rfl
theorem ydxw(n:Int):mval 1 (.i .i64 n)=true:=rfl
set_option maxHeartbeats 1000000 in
theorem ydrq{N:Nat}{lg:Nat->Bool}{seen:Nat->Bool}{Q:List (Nat×Nat)}(hQ:Q.length<=300000){k s:Nat}(hk:k<N)(hN:N<=32768)(hs:s<2^32) :
 Cm zG 137 [(301,0),(302,0),(304,0)] (yfc N lg seen Q) [.ag [.i .i64 (k:Nat),.i .u32 (s:Nat)],.pt (301,0) 0 0,.pt (302,0) 0 0,.pt (304,0) 0 0]
  fun r o=>r = .tp []/\o=if lg k=false/\seen (mkey k s)=false then yfc N lg (addS seen (mkey k s)) (Q++[(k,s)])else yfc N lg seen Q:=by
 refine ycgq [(301,0),(302,0),(304,0)] [] _ _ _ ?_;cases hq:lg k with
 | true =>
   rw[if_neg (fun q=>by cases q.1)]
   simp only[c137,ybkw,yblt,yfc,yfw,ybb,hq,clash,ygm,go_sem,zA,zB,zF,zC,↓reduceIte,reduceCtorEq]
   repeat refine zD (by first|omega|decide|exact ikw (by omega) (by omega)) ?_
   refine⟨.tp [],yfc N lg seen Q,?_,?_,rfl,rfl⟩
   .refine ybl [] [] [] ?_;simp only[yfc,yfw,ybb,allQ,live,yc,go_sem,zA,zC,↓reduceIte,reduceCtorEq]
   .simp only[yfc,yfw,ybb,ycc,yev,allQ,live,go_sem,zA,↓reduceIte]
 | false =>
   cases hs2:seen (mkey k s)with
   | true =>
     rw[if_neg (fun q=>by cases q.2)]
     simp only[c137,ybkw,yblt,yfc,yfw,ybb,hq,hs2,clash,zBC,ygm,go_sem,zA,zB,zF,zC,↓reduceIte,reduceCtorEq]
     repeat refine zD (by first|omega|decide|exact ikw (by omega) (by omega)) ?_
     refine⟨.tp [],yfc N lg seen Q,?_,?_,rfl,rfl⟩
     .refine ybl [] [] [] ?_;simp only[yfc,yfw,ybb,allQ,live,yc,go_sem,zA,zC,↓reduceIte,reduceCtorEq]
     .simp only[yfc,yfw,ybb,ycc,yev,allQ,live,go_sem,zA,↓reduceIte]
   | false =>
     rw[if_pos ⟨rfl,rfl⟩];simp only[c137,ybkw,yblt,ycyl,ydbb,yfc,yfw,ybb,hq,hs2,splice,clash,zBC,ydyf,ygm,go_sem,zA,zB,zF,zC,↓reduceIte,reduceCtorEq]
     repeat refine zD (by first|omega|decide|exact ikw (by omega) (by omega)) ?_
     refine⟨.tp [],yfc N lg (addS seen (mkey k s)) (Q++[(k,s)]),?_,?_,rfl,rfl⟩
     .refine ybl [(305,fun i=>(22,i))] [] [] ?_;simp only[yfc,yfw,ybb,zAP,allQ,live,yc,go_sem,zA,zC,↓reduceIte,reduceCtorEq];refine⟨⟨fun i=>?_,fun i hi=>absurd hi (by omega)⟩,fun i hi=>yob (ycbh Q (k,s) hi)⟩
      unfold addS
      by_cases e:i=mkey k s
      .rw[if_pos e,if_pos e]
      .rw[if_neg e,if_neg e]
     .simp only[yfc,yfw,ybb,ycc,yev,allQ,live,go_sem,zA,↓reduceIte]
def yvr(lg:Nat->Bool)(x:(Nat->Bool)×List (Nat×Nat))(k s:Nat):(Nat->Bool)×List (Nat×Nat):=if lg k=false/\x.1 (mkey k s)=false then(addS x.1 (mkey k s),x.2++[(k,s)])else x
theorem ybae{N:Nat}{lg:Nat->Bool}{x:(Nat->Bool)×List (Nat×Nat)}(hQ:x.2.length<=300000){k s:Nat}(hk:k<N)(hN:N<=32768)(hs:s<2^32) :
 Cm zG 137 [(301,0),(302,0),(304,0)] (yfc N lg x.1 x.2) [.ag [.i .i64 (k:Nat),.i .u32 (s:Nat)],.pt (301,0) 0 0,.pt (302,0) 0 0,.pt (304,0) 0 0]
  fun r o=>r = .tp []/\o=yfc N lg (yvr lg x k s).1 (yvr lg x k s).2:=by
 refine(ydrq hQ hk hN hs).mono fun r o ⟨h1,h2⟩=>⟨h1,h2.trans ?_⟩;unfold yvr
 by_cases q:lg k=false/\x.1 (mkey k s)=false
 .rw[if_pos q,if_pos q]
 .rw[if_neg q,if_neg q]
structure QI(N n:Nat)(lg:Nat->Bool)(x:(Nat->Bool)×List (Nat×Nat)):Prop where
 nd:x.2.Nodup
 lt:∀p∈x.2,p.1<N/\p.2<2^n/\lg p.1=false
 seen:∀p∈x.2,x.1 (mkey (p.1:Nat) (p.2:Nat))=true
theorem QI.start(N n:Nat)(lg:Nat->Bool):QI N n lg (fun _=>false,[]):=⟨List.nodup_nil,fun _ h=>(nomatch h),fun _ h=>(nomatch h)⟩
theorem QI.step{N n:Nat}{lg:Nat->Bool}{x:(Nat->Bool)×List (Nat×Nat)}(h:QI N n lg x){k s:Nat}(hk:k<N)(hs:s<2^n):QI N n lg (yvr lg x k s):=by
 unfold yvr
 by_cases q:lg k=false/\x.1 (mkey k s)=false
 .rw[if_pos q];refine⟨List.nodup_append.2 ⟨h.nd,List.pairwise_singleton _ _,fun a ha b hb=>?_⟩,fun p hp=>?_,fun p hp=>?_⟩
  .rw[List.mem_singleton.1 hb];rintro rfl;have:=h.seen _ ha;rw[q.2]at this;cases this
  .rcases List.mem_append.1 hp with r|r
   .exact h.lt p r
   .rw[List.mem_singleton.1 r];exact⟨hk,hs,q.1⟩
  .show(if _ then true else _)=true
   split
   .rfl
   .rcases List.mem_append.1 hp with r|r
    .exact h.seen p r
    .rename_i e
     rw[List.mem_singleton.1 r]at e;exact absurd rfl e
 .rw[if_neg q];exact h
theorem ybmg{lg:Nat->Bool}{x:(Nat->Bool)×List (Nat×Nat)}{k s:Nat}:x.2.length<=(yvr lg x k s).2.length:=by
 unfold yvr;split
 .show _<=(x.2++[(k,s)]).length;rw[zAP];omega
 .exact zAU _
theorem QI.len{N n:Nat}{lg:Nat->Bool}{x:(Nat->Bool)×List (Nat×Nat)}(h:QI N n lg x):x.2.length<=N*2^n:=by
 have inj:∀p∈x.2,∀q∈x.2,p.1*2^n+p.2=q.1*2^n+q.2->p=q:=fun p hp q hq e=>by
  have h1:=(h.lt p hp).2.1;have h2:=(h.lt q hq).2.1;have e1:(p.1*2^n+p.2)/2^n=p.1:=by rw[zBM,zBD (zBE n),zAX h1];omega
  have e2:(q.1*2^n+q.2)/2^n=q.1:=by rw[zBM,zBD (zBE n),zAX h2];omega
  have e3:p.1=q.1:=by rw[<-e1,e,e2]
  refine Prod.ext e3 ?_;rw[e3]at e;omega
 have hn:(x.2.map fun p=>p.1*2^n+p.2).Nodup:=by
  unfold List.Nodup;rw[List.pairwise_map];exact h.nd.imp_of_mem fun {a b} ha hb hab e=>hab (inj a ha b hb e)
 have:=ykp (l2:=zAH (N*2^n)) hn fun y hy=>by
  obtain⟨p,hp,rfl⟩:=List.mem_map.1 hy;obtain⟨h1,h2,-⟩:=h.lt p hp;refine List.mem_range.2 ?_;have h3:(p.1+1)*2^n<=N*2^n:=Nat.mul_le_mul_right _ h1;rw[Nat.add_mul]at h3;omega
 simpa using this
end Sh
end
section
def tabT(n:Nat)(vars:List VarR)(b:Nat->VarR->Int×Int):List (List (Int×Int)):=(zAH n).map fun v=>vars.map (b v)
theorem ygu(n:Nat)(vars:List VarR)(b:Nat->VarR->Int×Int):(tabT n vars b).length=n:=by simp[tabT]
theorem ybji{n:Nat}{vars:List VarR}{b:Nat->VarR->Int×Int}{v:Nat}(hv:v<n):(tabT n vars b).getD v []=vars.map (b v):=by simp[tabT,zJ,hv]
structure TabOk(T:List (List (Int×Int))):Prop where
 bd:bdT T
 sm:∀r∈T,∀b∈r,-1000000<=b.1/\b.2<=1000000
 len:T.length<=24
 row:∀r∈T,0<r.length/\r.length<=6
 tot:ybi T<=32768
theorem yib:∀(a b:List (Int×Int)),ybp (a++b)=ybp a*ybp b
 |[],b=>by simp[ybp]
 | x::a,b=>by
   show szP x*ybp (a++b)=szP x*ybp a*ybp b;rw[yib a b,zAL]
theorem yga:∀(a b:List (List (Int×Int))),ybi (a++b)=ybi a*ybi b
 |[],b=>by simp[ybi]
 | x::a,b=>by
   show ybp x*ybi (a++b)=ybp x*ybi a*ybi b;rw[yga a b,zAL]
def pTo(T:List (List (Int×Int)))(v i:Nat):Nat:=ybi (T.take v)*ybp ((T.getD v []).take i)
section
variable {T:List (List (Int×Int))}{v i:Nat}
theorem yhn{α:Type}{l:List α}{k:Nat}{d:α}(h:k<l.length):l.getD k d=l[k]:=by simp[zJ,h]
theorem yciy:pTo T 0 0=1:=by simp[pTo,ybi,ybp]
theorem ycgh(hi:i<(T.getD v []).length):pTo T v (i+1)=pTo T v i*szP ((T.getD v []).getD i (0,0)):=by
 unfold pTo;rw[zN hi,yib,yhn hi,zAL];simp[ybp]
theorem yclb(hv:v<T.length):pTo T v (T.getD v []).length=pTo T (v+1) 0:=by
 unfold pTo;rw[List.take_length,zN hv,yga,yhn hv];simp[ybi,ybp]
theorem ydbr:pTo T T.length 0=ybi T:=by simp[pTo,ybp]
theorem ycex(h:bdT T):bdR (T.getD v []):=by
 by_cases hv:v<T.length
 .rw[yhn hv];exact h _ (zZ _)
 .rw[zJ,List.getElem?_eq_none (by omega)];exact fun _ h=>nomatch h
theorem ybqx(h:bdR (T.getD v []))(i:Nat):ybp ((T.getD v []).take i)<=ybp (T.getD v []):=by
 conv=>rhs;rw[<-zU i (T.getD v []),yib]
 exact zAC _ (ykq fun b hb=>h b (zAI hb))
theorem ydmn(h:bdT T)(hv:v<T.length)(i:Nat):pTo T v i<=ybi T:=by
 have h1:pTo T v i<=ybi (T.take (v+1)):=by
  rw[zN hv,yga];unfold pTo;have:=ybqx (T:=T) (v:=v) (ycex h) i;rw[yhn hv]at this ⊢;have e:ybi [T[v]]=ybp T[v]:=by simp[ybi]
  rw[e];exact zAN _ this
 refine zAA h1 ?_
 conv=>rhs;rw[<-zU (v+1) T,yga]
 exact zAC _ (yoj fun b hb=>h b (zAI hb))
theorem TabOk.at_(h:TabOk T)(hv:v<T.length):(0<(T.getD v []).length/\(T.getD v []).length<=6)/\∀i,i<(T.getD v []).length->((T.getD v []).getD i (0,0)).1<=((T.getD v []).getD i (0,0)).2 /\ -1000000<=((T.getD v []).getD i (0,0)).1/\((T.getD v []).getD i (0,0)).2<=1000000:=by
 have e:=yhn (d:=[]) hv;have hm:T.getD v []∈T:=by rw[e];exact zZ _
 refine⟨h.row _ hm,fun i hi=>?_⟩;have hb:(T.getD v []).getD i (0,0)∈T.getD v []:=by rw[yhn hi];exact zZ _
 exact⟨h.bd _ hm _ hb,h.sm _ hm _ hb⟩
end
theorem ymr:∀{bs:List (Int×Int)}{xs:List Int},inR bs xs↔xs.length=bs.length/\∀i,i<bs.length->(bs.getD i (0,0)).1<=xs.getD i 0/\xs.getD i 0<=(bs.getD i (0,0)).2
 |[],[]=>⟨fun _=>⟨rfl,fun i h=>by simp at h⟩,fun _=>trivial⟩
 |[],_::_=>⟨fun h=>h.elim,fun h=>by simp at h⟩
 |_::_,[]=>⟨fun h=>h.elim,fun h=>by simp at h⟩
 | b :: bs,x::xs=>by
   show(_/\inR bs xs)↔_;rw[ymr];constructor
   .rintro⟨h1,h2,h3⟩;refine⟨by simp[h2],fun i hi=>?_⟩
    cases i with
    |zero=>exact h1
    |succ i=>exact h3 i (by simpa using hi)
   .rintro⟨h1,h2⟩;exact⟨h2 0 (by simp),by simpa using h1,fun i hi=>h2 (i+1) (by simpa using hi)⟩
theorem ykt:∀{rs:List (List (Int×Int))}{c:Conf},inT rs c↔c.length=rs.length/\∀v,v<rs.length->inR (rs.getD v []) (c.getD v [])
 |[],[]=>⟨fun _=>⟨rfl,fun i h=>by simp at h⟩,fun _=>trivial⟩
 |[],_::_=>⟨fun h=>h.elim,fun h=>by simp at h⟩
 |_::_,[]=>⟨fun h=>h.elim,fun h=>by simp at h⟩
 | b :: bs,x::xs=>by
   show(_/\inT bs xs)↔_;rw[ykt];constructor
   .rintro⟨h1,h2,h3⟩;refine⟨by simp[h2],fun i hi=>?_⟩
    cases i with
    |zero=>exact h1
    |succ i=>exact h3 i (by simpa using hi)
   .rintro⟨h1,h2⟩;exact⟨h2 0 (by simp),by simpa using h1,fun i hi=>h2 (i+1) (by simpa using hi)⟩
def tabP(p:ProgT)(g:Gr):List (List (Int×Int)):=tabT g.ids.length p.vars (ybn g)
theorem yhp{p:ProgT}{g:Gr}{c:Conf}:ydk p g c=true↔inT (tabP p g) c:=by
 unfold ydk;rw[yff,ykt];unfold tabP;rw[ygu];refine and_congr_right fun hl=>⟨fun h v hv=>?_,fun h v st hst=>?_⟩
 .rw[ybji hv];obtain⟨h1,h2⟩:=h v (c.getD v []) (by rw[yhn (by omega)];exact zI (by omega))
  refine ymr.2 ⟨h1,fun i hi=>?_⟩;have h1:(c.getD v []).length=(p.vars.map (ybn g v)).length:=h1;have hi':i<(c.getD v []).length:=by omega
  exact h2 i _ _ (by rw[yhn hi];exact zI hi) (by rw[yhn hi'];exact zI hi')
 .have hv:v<g.ids.length:=by have:=(List.getElem?_eq_some_iff.1 hst).1;omega
  have h1:=h v hv;rw[ybji hv,show c.getD v []=st by simp[zJ,hst]]at h1
  obtain⟨h2,h3⟩:=ymr.1 h1;refine⟨h2,fun i b x hb hx=>?_⟩;have hi:=(List.getElem?_eq_some_iff.1 hb).1;have h4:=h3 i hi;rw[show(p.vars.map (ybn g v)).getD i (0,0)=b by simp only[zJ,hb,zAY],show st.getD i 0=x by simp only[zJ,hx,zAY]]at h4
  exact h4
end
section
theorem ybhb:∀(bs:List (Int×Int)) (k:Nat),(unR bs k).1.length=bs.length
 |[],_=>rfl
 |b::bs,k=>by show(unR bs k).1.length+1=_;rw[ybhb bs k];rfl
theorem ycdk:∀(rs:List (List (Int×Int))) (k:Nat),(unT rs k).1.length=rs.length
 |[],_=>rfl
 |r::rs,k=>by show(unT rs k).1.length+1=_;rw[ycdk rs k];rfl
theorem yccp:∀(rs:List (List (Int×Int))) (k v:Nat),v<rs.length->((unT rs k).1.getD v []).length=(rs.getD v []).length
 |[],_,_,h=>by simp at h
 |r::rs,k,0,_=>ybhb r _
 |r::rs,k,v+1,h=>yccp rs k v (by simpa using h)
def rowU(bs:List (Int×Int))(k x t:Nat):Int:=if t<bs.length-x then(bs.getD t (0,0)).1 else(unR (bs.drop (bs.length-x)) k).1.getD (t-(bs.length-x)) 0
def kU(bs:List (Int×Int))(k x:Nat):Nat:=(unR (bs.drop (bs.length-x)) k).2
theorem ydcg(bs:List (Int×Int))(k:Nat):kU bs k 0=k:=by unfold kU;rw[zAB,zW];rfl
theorem ydqo(bs:List (Int×Int))(k:Nat):kU bs k bs.length=(unR bs k).2:=by unfold kU;rw[zT];rfl
theorem ybsu(bs:List (Int×Int))(k:Nat){t:Nat}(ht:t<bs.length):rowU bs k 0 t=(bs.getD t (0,0)).1:=by unfold rowU;rw[if_pos (by omega)]
theorem yckr(bs:List (Int×Int))(k t:Nat):rowU bs k bs.length t=(unR bs k).1.getD t 0:=by unfold rowU;rw[if_neg (by omega),zT];rfl
section
variable {bs:List (Int×Int)}{k x i:Nat}
theorem drop_at{α:Type}{l:List α}{i:Nat}(d:α)(hi:i<l.length):l.drop i=l.getD i d::l.drop (i+1):=by rw[List.drop_eq_getElem_cons hi,yhn hi]
theorem ybwo(hx:x<bs.length)(hi:i=bs.length-1-x):unR (bs.drop (bs.length-(x+1))) k=(((bs.getD i (0,0)).1+((kU bs k x%szP (bs.getD i (0,0)):Nat):Int))::(unR (bs.drop (bs.length-x)) k).1,kU bs k x/szP (bs.getD i (0,0))):=by
 have e1:bs.length-(x+1)=i:=by omega
 have e2:bs.length-x=i+1:=by omega
 unfold kU;rw[e1,e2,drop_at (0,0) (show i<bs.length by omega)]
 rfl
theorem ydjb(hx:x<bs.length)(hi:i=bs.length-1-x):kU bs k (x+1)=kU bs k x/szP (bs.getD i (0,0)):=by
 show(unR _ k).2=_;rw[ybwo hx hi]
theorem ybsm(hx:x<bs.length)(hi:i=bs.length-1-x)(t:Nat):rowU bs k (x+1) t=if t=i then(bs.getD i (0,0)).1+((kU bs k x%szP (bs.getD i (0,0)):Nat):Int)else rowU bs k x t:=by
 unfold rowU
 by_cases e:t=i
 .rw[if_pos e,if_neg (by omega),ybwo hx hi,show t-(bs.length-(x+1))=0 by omega]
  rfl
 .rw[if_neg e]
  by_cases q:t<i
  .rw[if_pos (by omega),if_pos (by omega)]
  .rw[if_neg (by omega),if_neg (by omega),ybwo hx hi,show t-(bs.length-(x+1))=(t-(bs.length-x))+1 by omega]
   rfl
theorem yciw(hx:x<bs.length)(hi:i=bs.length-1-x):rowU bs k x i=(bs.getD i (0,0)).1:=by unfold rowU;rw[if_pos (by omega)]
end
def lowT(T:List (List (Int×Int)))(v:Nat):List Int:=(T.getD v []).map (·.1)
theorem ybag(T:List (List (Int×Int)))(v:Nat):(lowT T v).length=(T.getD v []).length:=by simp[lowT]
theorem ydgz{T:List (List (Int×Int))}{v t:Nat}(ht:t<(T.getD v []).length):(lowT T v).getD t 0=((T.getD v []).getD t (0,0)).1:=by
 unfold lowT;rw[yhn (by simpa using ht),yhn ht];simp
theorem yue{T:List (List (Int×Int))}{v:Nat}(hv:v<T.length):(ynn T).getD v []=lowT T v:=by
 unfold ynn lowT;rw[yhn (by simpa using hv),yhn hv];simp
def cU(T:List (List (Int×Int)))(k q j:Nat):List Int:=if j<T.length-q then lowT T j else(unT (T.drop (T.length-q)) k).1.getD (j-(T.length-q)) []
def kT(T:List (List (Int×Int)))(k q:Nat):Nat:=(unT (T.drop (T.length-q)) k).2
theorem ydcq(T:List (List (Int×Int)))(k:Nat):kT T k 0=k:=by unfold kT;rw[zAB,zW];rfl
theorem ybxh(T:List (List (Int×Int)))(k:Nat){j:Nat}(hj:j<T.length):cU T k 0 j=lowT T j:=by unfold cU;rw[if_pos (by omega)]
theorem ydua(T:List (List (Int×Int)))(k j:Nat):cU T k T.length j=(unT T k).1.getD j []:=by unfold cU;rw[if_neg (by omega),zT];rfl
section
variable {T:List (List (Int×Int))}{k q v:Nat}
theorem ybux(hq:q<T.length)(hv:v=T.length-1-q):unT (T.drop (T.length-(q+1))) k=((unR (T.getD v []) (kT T k q)).1::(unT (T.drop (T.length-q)) k).1,(unR (T.getD v []) (kT T k q)).2):=by
 have e1:T.length-(q+1)=v:=by omega
 have e2:T.length-q=v+1:=by omega
 unfold kT;rw[e1,e2,drop_at [] (show v<T.length by omega)]
 rfl
theorem ydiy(hq:q<T.length)(hv:v=T.length-1-q):kT T k (q+1)=(unR (T.getD v []) (kT T k q)).2:=by
 show(unT _ k).2=_;rw[ybux hq hv]
theorem yddl(hq:q<T.length)(hv:v=T.length-1-q)(j:Nat):cU T k (q+1) j=if j=v then(unR (T.getD v []) (kT T k q)).1 else cU T k q j:=by
 unfold cU
 by_cases e:j=v
 .rw[if_pos e,if_neg (by omega),ybux hq hv,show j-(T.length-(q+1))=0 by omega]
  rfl
 .rw[if_neg e]
  by_cases w:j<v
  .rw[if_pos (by omega),if_pos (by omega)]
  .rw[if_neg (by omega),if_neg (by omega),ybux hq hv,show j-(T.length-(q+1))=(j-(T.length-q))+1 by omega]
   rfl
theorem ydwd(hq:q<T.length)(hv:v=T.length-1-q):cU T k q v=lowT T v:=by unfold cU;rw[if_pos (by omega)]
theorem ydko(hq:q<=T.length){j:Nat}(hj:j<T.length):(cU T k q j).length=(T.getD j []).length:=by
 unfold cU;split
 .exact ybag T j
 .rename_i w
  have h1:=yccp (T.drop (T.length-q)) k (j-(T.length-q)) (by rw[List.length_drop];omega)
  rw[h1];congr 1;simp only[zJ,List.getElem?_drop];rw[show T.length-q+(j-(T.length-q))=j by omega]
theorem ydgh:∀(bs:List (Int×Int)) (k:Nat),(unR bs k).2<=k
 |[],_=>zAU _
 |b::bs,k=>zAA (zBF _ _) (ydgh bs k)
theorem ydsi:∀(rs:List (List (Int×Int))) (k:Nat),(unT rs k).2<=k
 |[],_=>zAU _
 |r::rs,k=>zAA (ydgh r _) (ydsi rs k)
end
def ybqs(bs:List (Int×Int))(xs:List Int)(i:Nat):Prop:=∀t,i<=t->t<bs.length->¬xs.getD t 0<(bs.getD t (0,0)).2
def ybxa(T:List (List (Int×Int)))(c:Conf)(v:Nat):Prop:=∀j,v<=j->j<T.length->ybqs (T.getD j []) (c.getD j []) 0
theorem ytf:∀{bs:List (Int×Int)}{xs:List Int},xs.length=bs.length->ybqs bs xs 0->advR bs xs=(bs.map (·.1),false)
 |[],[],_,_=>rfl
 |[],_::_,h,_=>by simp at h
 |_::_,[],h,_=>by simp at h
 | b::bs,x::xs,h,hf=>by
   have ih:=ytf (bs:=bs) (xs:=xs) (by simpa using h) fun t _ ht=>hf (t+1) (by omega) (by simpa using ht)
   have h0:¬x<b.2:=hf 0 (by omega) (by simp)
   unfold advR;rw[ih];simp[h0]
theorem yxf:∀{bs:List (Int×Int)}{xs:List Int}{i:Nat},xs.length=bs.length->i<bs.length->ybqs bs xs (i+1)->xs.getD i 0<(bs.getD i (0,0)).2 ->
 (advR bs xs).2=true/\(advR bs xs).1.length=bs.length/\∀t,t<bs.length->(advR bs xs).1.getD t 0=if t<i then xs.getD t 0 else if t=i then xs.getD i 0+1 else(bs.getD t (0,0)).1
 |[],_,i,_,h,_,_=>by simp at h
 |_::_,[],_,h,_,_,_=>by simp at h
 | b :: bs,x::xs,0,h,_,hf,hx=>by
   have hl:xs.length=bs.length:=by simpa using h
   have ih:=ytf hl fun t _ ht=>hf (t+1) (by omega) (by simpa using ht)
   have h0:x<b.2:=hx;unfold advR;rw[ih];simp only[zAQ,if_false,if_pos h0];refine⟨trivial,by simp,fun t ht=>?_⟩
   cases t with
   |zero=>rfl
   | succ t =>
     rw[if_neg (by omega),if_neg (by omega)]
     show(bs.map (·.1)).getD t 0=(bs.getD t (0,0)).1;rw[yhn (by simpa using ht),yhn (by simpa using ht)];simp
 | b :: bs,x::xs,i+1,h,hi,hf,hx=>by
   have hl:xs.length=bs.length:=by simpa using h
   obtain⟨h1,h2,h3⟩:=yxf (i:=i) hl (by simpa using hi) (fun t h1 ht=>hf (t+1) (by omega) (by simpa using ht)) hx
   unfold advR;rw[h1];simp only[if_true];refine⟨trivial,by simp[h2],fun t ht=>?_⟩
   cases t with
   |zero=>rw[if_pos (by omega)];rfl
   | succ t =>
     have h4:=h3 t (by simpa using ht)
     show(advR bs xs).1.getD t 0=_;rw[h4]
     by_cases q:t<i
     .rw[if_pos q,if_pos (by omega)];rfl
     .by_cases q2:t=i
      .rw[if_neg q,if_pos q2,if_neg (by omega),if_pos (by omega)];rfl
      .rw[if_neg q,if_neg q2,if_neg (by omega),if_neg (by omega)];rfl
theorem yuq:∀{T:List (List (Int×Int))}{c:Conf},c.length=T.length->(∀j,j<T.length->(c.getD j []).length=(T.getD j []).length)->ybxa T c 0->advT T c=(ynn T,false)
 |[],[],_,_,_=>rfl
 |[],_::_,h,_,_=>by simp at h
 |_::_,[],h,_,_=>by simp at h
 | b::bs,x::xs,h,hr,hf=>by
   have ih:=yuq (T:=bs) (c:=xs) (by simpa using h) (fun j hj=>hr (j+1) (by simpa using hj)) fun t _ ht=>hf (t+1) (by omega) (by simpa using ht)
   have h0:=ytf (bs:=b) (xs:=x) (hr 0 (by simp)) (hf 0 (by omega) (by simp))
   unfold advT;rw[ih,h0];simp[ynn]
theorem yxs:∀{T:List (List (Int×Int))}{c:Conf}{v:Nat},c.length=T.length->(∀j,j<T.length->(c.getD j []).length=(T.getD j []).length)->v<T.length->ybxa T c (v+1)->(advR (T.getD v []) (c.getD v [])).2=true ->
 (advT T c).2=true/\(advT T c).1.length=T.length/\∀j,j<T.length->(advT T c).1.getD j []=if j<v then c.getD j []else if j=v then(advR (T.getD v []) (c.getD v [])).1 else lowT T j
 |[],_,i,_,_,h,_,_=>by simp at h
 |_::_,[],_,h,_,_,_,_=>by simp at h
 | b :: bs,x::xs,0,h,hr,_,hf,hx=>by
   have hl:xs.length=bs.length:=by simpa using h
   have ih:=yuq hl (fun j hj=>hr (j+1) (by simpa using hj)) fun t _ ht=>hf (t+1) (by omega) (by simpa using ht)
   have h0:(advR b x).2=true:=hx;unfold advT;rw[ih];simp only[zAQ,if_false];refine⟨h0,by simp[ynn],fun t ht=>?_⟩
   cases t with
   |zero=>rfl
   | succ t =>
     rw[if_neg (by omega),if_neg (by omega)]
     exact yue (T:=bs) (by simpa using ht)
 | b :: bs,x::xs,i+1,h,hr,hi,hf,hx=>by
   have hl:xs.length=bs.length:=by simpa using h
   obtain⟨h1,h2,h3⟩:=yxs (v:=i) hl (fun j hj=>hr (j+1) (by simpa using hj)) (by simpa using hi) (fun t h1 ht=>hf (t+1) (by omega) (by simpa using ht)) hx
   unfold advT;rw[h1];simp only[if_true];refine⟨trivial,by simp[h2],fun t ht=>?_⟩
   cases t with
   |zero=>rw[if_pos (by omega)];rfl
   | succ t =>
     have h4:=h3 t (by simpa using ht)
     show(advT bs xs).1.getD t []=_;rw[h4]
     by_cases q:t<i
     .rw[if_pos q,if_pos (by omega)];rfl
     .by_cases q2:t=i
      .rw[if_neg q,if_pos q2,if_neg (by omega),if_pos (by omega)];rfl
      .rw[if_neg q,if_neg q2,if_neg (by omega),if_neg (by omega)];rfl
end
section
namespace Sh
open Ev Go.RowKit
theorem ybni(n:Nat)(vars:List VarR)(b:Nat->VarR->Int×Int):Sim (ywn n vars b) (yu (tabT n vars b)):=by
 unfold ywn yu;rw[ygu];refine ydp fun v hv=>⟨⟨?_,trivial⟩,rfl⟩;rw[ybji hv];unfold yw;rw[List.length_map];refine ybbx fun i hi=>?_
 have e:(vars.map (b v)).getD i (0,0)=b v (vars.getD i default):=by
  rw[yhn (by simpa using hi),yhn hi];simp
 rw[e]
theorem ylp{Q1 Q2:(Nat->Option ABlk)->Value->Prop}{p:ProgT}{g:Gr}(h:Checked Q1 Q2 p g):Returns zG 63 [.ag (yfe Q1 Q2 p.raw),grV g] (yu (tabP p g)):=by
 have hp':=h.hp;unfold ProgT.ok at hp';simp only[zAZ,decide_eq_true_eq]at hp';have hT:=ybfb p.raw h.hg hp'.1.1.2 hp'.1.1.1.2;exact Returns.of ((hT.use (ybni _ _ _)).simL ⟨ybbg _ _ _,Sim.refl _,trivial⟩)
theorem yww{T:List (List (Int×Int))}(h:TabOk T):Returns zG 64 [yu T] (.tp [.i .i64 (ybi T:Nat),.i .i64 0]):=by
 refine Returns.of (ydth _ _ ?_);have hlen:=h.len;have htot:=h.tot;simp only[c64,ydwy,ydut,ydma,yu,clash,go_sem,zB,↓reduceIte,reduceCtorEq];refine ybd (σ:=Nat) (fun v=>⟨[(11,.i .i64 v),(10,.i .i64 (T.length:Nat)),(9,yu T),(4,.i .i64 (pTo T v 0:Nat))],[]⟩) (fun v=>v<=T.length) (fun v=>T.length-v) 0 (zL _) ?_ ?_
 .refine yh [] [] [] ?_;simp only[yu,yciy,allQ,live,yc,yx,zO,go_sem,zA,↓reduceIte,reduceCtorEq];rfl
 .intro v hv
  by_cases hlt:v<T.length
  .have d1:=dec_lt hlt;obtain⟨hr,hb⟩:=h.at_ hlt;have hpl:=fun i=>ydmn h.bd hlt i;have hps:=fun i=>ycgh (T:=T) (v:=v) (i:=i);have hpn:=yclb hlt;obtain⟨row,hrow⟩:∃r,T.getD v []=r:=⟨_,rfl⟩;rw[hrow]at hr hb hps hpn;simp only[ydcp,ydmb,ydmm,yu,yw,d1,hrow,clash,go_sem,zA,zB,↓reduceIte,reduceCtorEq]
   repeat refine zD (by first|omega|decide|exact ikw (by omega) (by omega)) ?_
   refine ybd (σ:=Nat) (fun i=>⟨[(17,.i .i64 i),(16,.i .i64 (row.length:Nat)),(15,yw row),(11,.i .i64 v),(10,.i .i64 (T.length:Nat)),(9,yu T),(4,.i .i64 (pTo T v i:Nat))],[]⟩) (fun i=>i<=row.length) (fun i=>row.length-i) 0 (zL _) ?_ ?_
   .refine yh [] [] [] ?_;simp only[yu,yw,allQ,live,yc,zO,go_sem,zA,↓reduceIte,reduceCtorEq]
   .intro i hi
    by_cases hlt2:i<row.length
    .have d2:=dec_lt hlt2;obtain⟨b1,b2,b3⟩:=hb i hlt2;have hq:=hpl (i+1);have hq0:=hpl i;have hs:=hps i hlt2;obtain⟨⟨lo,hi'⟩,hbe⟩:∃b,row.getD i (0,0)=b:=⟨_,rfl⟩;rw[hbe]at b1 b2 b3 hs;simp only at b1 b2 b3;have hsz:=(yot (b:=(lo,hi')) b1).2;simp only at hsz;have hm:((pTo T v i:Nat):Int)*(hi'-lo+1)=((pTo T v (i+1):Nat):Int):=by rw[hs,zBG,hsz]
     have d3:decide (((pTo T v (i+1):Nat):Int)>32768)=false:=by simp;omega
     simp only[ydfh,ydtj,ydpk,ydno,ycvw,yu,yw,d2,hbe,hm,d3,splice,clash,go_sem,zM,zA,zB,zF,zC,zQ,↓reduceIte,reduceCtorEq]
     repeat refine zD (by first|omega|decide|exact ikw (by omega) (by omega)) ?_
     refine yj (i+1) hlt2 (by omega) ?_
     refine yh [] [] [] ?_;simp only[allQ,live,yc,yx,go_sem,zA,↓reduceIte,reduceCtorEq];omega
    .obtain rfl:i=row.length:=by omega
     simp only[ydfh,ycme,yu,yw,zX,clash,go_sem,zA,zB,↓reduceIte,reduceCtorEq]
     repeat refine zD (by first|omega|decide|exact ikw (by omega) (by omega)) ?_
     refine yj (v+1) hlt (by omega) ?_
     refine yh [] [] [] ?_;simp only[hpn,allQ,live,yc,yx,go_sem,zA,↓reduceIte,reduceCtorEq];omega
  .obtain rfl:v=T.length:=by omega
   simp only[ydcp,ycui,zX,ydbr,go_sem,zA,zB,↓reduceIte,reduceCtorEq];exact Sim.refl _
theorem ybur{Q1 Q2:(Nat->Option ABlk)->Value->Prop}{p:ProgT}{g:Gr}(h:Checked Q1 Q2 p g)(hT:TabOk (tabP p g)):Returns zG 56 [.ag (yfe Q1 Q2 p.raw),grV g] (.tp [.i .i64 (ybi (tabP p g):Nat),.i .i64 0]):=by
 refine Returns.of (ydps _ _ ?_);have hF:=yyi p h.hg h.hp h.hf h.hV h.gv;have hTb:=ylp h;have hC:=yww hT;simp only[yfe,grV]at hF hTb;simp only[c56,ydrm,ydod,yfe,grV,clash,go_sem,zA,zB,zC,↓reduceIte,reduceCtorEq];refine hF.use ?_;simp only[ybg,ydty,ydmt,clash,zY,go_sem,zA,zB,↓reduceIte,reduceCtorEq];refine hTb.use ?_;simp only[go_sem,↓reduceIte];refine hC.use ?_;simp only[go_sem,↓reduceIte];exact Sim.refl _
theorem yfr{ρ:List (Nat×(Nat->Nm))}{O1 O:Own}{β:Nm}{p n:Nat}{ap:Bool}{X:List SV}(hl:live O β=true)(hX:X=[.os (rid ρ β) p n ap]):telL (rid ρ) [] [] O1 O X [.os β p n ap]:=by
 subst hX;refine⟨.inl ⟨(yhe _ _ _).2 trivial,by rw[ydw];exact Sim.refl _,?_⟩,rfl,trivial⟩
 show(live O β && !(List.elem β.1 []))=true;rw[hl];rfl
theorem yie{h:Nm->Nm}{O1 O:Own}{X:List SV}(hX:X=[.a (.slice none 0 0)]):telL h [] [] O1 O X [.a (.slice none 0 0)]:=by
 subst hX;exact⟨.inl ⟨(yhe _ _ _).2 trivial,by rw[ydw];exact Sim.refl _,rfl⟩,rfl,trivial⟩
def intO(l:List Int):OB:=⟨3,false,1,l.length,fun i=>[.i .i64 (l.getD i 0)]⟩
theorem ycg{l:List Int}{c:OB}{h:Nm->Nm}{O1 O2:Own}(hc:(c.e=3/\c.bx=false/\c.z=1/\c.n=l.length)/\∀i,i<l.length->c.g i=[.i .i64 (l.getD i 0)]) :
 (c.e=(intO l).e/\c.bx=(intO l).bx/\c.z=(intO l).z/\c.n=(intO l).n)/\(mapE (intO l).e=true->∀i,c.g i=(intO l).g i)/\∀i,i<(intO l).n->telL h [] [] O1 O2 (c.g i) ((intO l).g i) :=
 ⟨hc.1,fun q=>absurd (show false=true from q) Bool.false_ne_true,fun i hi=>yfi (hc.2 i hi)⟩
theorem ycj(l:List Int):((intO l).e=3/\(intO l).bx=false/\(intO l).z=1/\(intO l).n=l.length)/\∀i,i<l.length->(intO l).g i=[.i .i64 (l.getD i 0)]:=⟨⟨rfl,rfl,rfl,rfl⟩,fun _ _=>rfl⟩
theorem yco{i n:Nat}{x b:OB}(h:(if i<n then some x else none)=some b):i<n/\b=x:=by
 split at h
 .cases h;exact⟨by assumption,rfl⟩
 .cases h
def ycm(n:Nat)(w:Nat->List Int):Fam:=.many fun v=>if v<n then some (intO (w v))else none
def ybr(F G n:Nat)(w:Nat->List Int):Own:=[(F,.one (some ⟨22,false,1,n,fun v=>[.os (G,v) 0 (w v).length true]⟩)),(G,ycm n w)]
theorem ycfr{ρ:List (Nat×(Nat->Nm))}{G n v:Nat}{w:Nat->List Int}{O1 O:Own}{X:List SV}(hv:v<n)(hO:lookO O (G,v)=if v<n then some (intO (w v))else none)(hX:X=[.os (rid ρ (G,v)) 0 (w v).length true]):telL (rid ρ) [] [] O1 O X [.os (G,v) 0 (w v).length true] :=
 yfr (by unfold live;rw[hO,if_pos hv];rfl) hX
theorem yjr{l:List Int}{p:Nm->Bool}:∀i,i<(intO l).n->((intO l).g i).all (cln p 5)=true:=fun _ _=>rfl
theorem ydl{h:Nm->Nm}{O1 O2:Own}{n i:Nat}{w:Nat->List Int}{b:OB}(hb:(if i<n then some (intO (w i))else none)=some b):∃c,(if i<n then some (intO (w i))else none)=some c/\(c.e=b.e/\c.bx=b.bx/\c.z=b.z/\c.n=b.n)/\(mapE b.e=true->∀i,c.g i=b.g i)/\∀i,i<b.n->telL h [] [] O1 O2 (c.g i) (b.g i):=by
 obtain⟨hi,rfl⟩:=yco hb;exact⟨_,if_pos hi,ycg (ycj _)⟩
theorem yix{h h':Nm->Nm}{O1 O2:Own}{n i:Nat}{w:Nat->List Int}{b:OB}(hb:(if i<n then some (intO (w i))else none)=some b):∃c,(match (if i<n then some (intO (w i))else none)with|some b=>some (OB.ren h' b)|none=>none)=some c/\(c.e=b.e/\c.bx=b.bx/\c.z=b.z/\c.n=b.n)/\(mapE b.e=true->∀i,c.g i=b.g i)/\∀i,i<b.n->telL h [] [] O1 O2 (c.g i) (b.g i):=by
 obtain⟨hi,rfl⟩:=yco hb;exact⟨OB.ren h' (intO (w i)),by rw[if_pos hi],ycg ⟨⟨rfl,rfl,rfl,rfl⟩,fun _ _=>rfl⟩⟩
def boxT(F:Nat)(T:List (List (Int×Int))):Nat×Fam:=(F,.one (some ⟨84,true,1,1,fun _=>[yu T]⟩))
set_option maxHeartbeats 1000000 in
theorem yblb{T:List (List (Int×Int))}(h:TabOk T){f:FuncId}(hf:∀v,v<T.length->∀i,i<(T.getD v []).length->Returns zG f [.i .i64 (v:Nat),.i .i64 (i:Nat),.rf [yu T]] (.i .i64 ((T.getD v []).getD i (0,0)).1)) :
 Cm zG 65 [(301,0)] [boxT 301 T] [yu T,.fn f [] [.pt (301,0) 0 0]] fun r o=>r = .os (302,0) 0 T.length true/\o=boxT 301 T::ybr 302 303 T.length (lowT T):=by
 refine yddd [(301,0)] [] _ _ _ ?_;have hlen:=h.len;have hlow:∀v,(lowT T v).length=(T.getD v []).length:=ybag T;simp only[c65,ydts,ydni,ydue,yu,boxT,clash,go_sem,zA,zB,zC,↓reduceIte,reduceCtorEq]
 repeat refine zD (by first|omega|decide|exact ikw (by omega) (by omega)) ?_
 let fm:Nat->Nat×Fam:=fun k=>(303,.many fun v=>if v<k then some (intO (lowT T v))else none)
 refine ybd (σ:=Nat) (fun k=>⟨[(13,.i .i64 k),(12,.i .i64 (T.length:Nat)),(0,yu T),(1,.fn f [] [.pt (301,0) 0 0]),(5,.os (10,0) 0 T.length true),(11,yu T)],
  [boxT 301 T,(10,.one (some ⟨22,false,1,T.length,fun v=>if v<k then[.os (303,v) 0 (T.getD v []).length true]else[.a (.slice none 0 0)]⟩)),fm k]⟩) (fun k=>k<=T.length) (fun k=>T.length-k) 0 (zL _) ?_ ?_
 .refine ybl [] [] [] ?_;simp only[fm,boxT,yu,zBH,allQ,live,yc,zO,go_sem,zA,zC,↓reduceIte,reduceCtorEq]
 .intro k hk
  by_cases hlt:k<T.length
  .have d1 := dec_lt hlt;obtain⟨hr,hb⟩:=h.at_ hlt;obtain⟨row,hrow⟩:∃r,T.getD k []=r:=⟨_,rfl⟩;rw[hrow]at hr hb;have hlk:lowT T k=row.map (·.1):=by unfold lowT;rw[hrow]
   simp only[ydgg,ydmy,ydsl,ydwp,fm,boxT,yu,yw,d1,hrow,clash,go_sem,zA,zB,zC,↓reduceIte,reduceCtorEq]
   repeat refine zD (by first|omega|decide|exact ikw (by omega) (by omega)) ?_
   refine ybd (σ:=Nat) (fun i=>⟨[(30,.i .i64 i),(29,.i .i64 (row.length:Nat)),(6,.i .i64 k),(13,.i .i64 k),(12,.i .i64 (T.length:Nat)),(0,yu T),(1,.fn f [] [.pt (301,0) 0 0]),(5,.os (10,0) 0 T.length true),(11,yu T)],
    [boxT 301 T,(10,.one (some ⟨22,false,1,T.length,fun v=>if v=k then[.os (23,0) 0 row.length true]else if v<k then[.os (303,v) 0 (T.getD v []).length true]else[.a (.slice none 0 0)]⟩)),(23,.one (some ⟨3,false,1,row.length,fun j=>[.i .i64 (if j<i then(row.getD j (0,0)).1 else 0)]⟩)),fm k]⟩) (fun i=>i<=row.length) (fun i=>row.length-i) 0 (zL _) ?_ ?_
   .refine ybl [] [] [] ?_;simp only[fm,boxT,yu,yw,zBH,allQ,live,yc,zO,go_sem,zA,zC,↓reduceIte,reduceCtorEq];refine⟨fun _ _ _ _ e=>e,fun v hv=>?_,fun v b hb=>⟨b,hb,?_⟩⟩
    .by_cases q:v=k
     .simp only[if_pos q];exact yfr rfl rfl
     .by_cases q2:v<k
      .simp only[if_neg q,if_pos q2];exact yfr (by show(if v<k then some (intO (lowT T v))else none).isSome=true;rw[if_pos q2];rfl) rfl
      .simp only[if_neg q,if_neg q2];exact yie rfl
    .obtain⟨q,rfl⟩:=yco hb;exact ycg (ycj _)
   .intro i hi
    by_cases hlt2:i<row.length
    .have d2:=dec_lt hlt2;have hF:=hf k hlt i (by rw[hrow];exact hlt2)
     rw[hrow]at hF;simp only[yu,yw]at hF;simp only[ydgp,ydpu,ydvu,ycyg,fm,boxT,yu,yw,d2,clash,go_sem,zA,zB,zF,↓reduceIte,reduceCtorEq]
     repeat refine zD (by first|omega|decide|exact ikw (by omega) (by omega)) ?_
     refine .inl (hF.use ?_);simp only[ybg,splice,clash,go_sem,zA,zB,↓reduceIte,reduceCtorEq]
     repeat refine zD (by first|omega|decide|exact ikw (by omega) (by omega)) ?_
     refine yj (i+1) hlt2 (by omega) ?_
     refine ybl [] [] [] ?_;simp only[allQ,live,yc,yx,go_sem,zA,zC,↓reduceIte,reduceCtorEq];refine⟨fun _ _ _ _ e=>e,by omega,fun v hv=>?_,fun j hj=>yfi ?_,fun v b hb=>⟨b,hb,?_⟩⟩
     .by_cases q:v=k
      .simp only[if_pos q];exact yfr rfl rfl
      .by_cases q2:v<k
       .simp only[if_neg q,if_pos q2];exact yfr (by show(if v<k then some (intO (lowT T v))else none).isSome=true;rw[if_pos q2];rfl) rfl
       .simp only[if_neg q,if_neg q2];exact yie rfl
     .by_cases e:j=i
      .subst e;rw[if_pos rfl,if_pos (by omega)]
      .rw[if_neg e]
       by_cases e2:j<i
       .rw[if_pos e2,if_pos (by omega)]
       .rw[if_neg e2,if_neg (by omega)]
     .obtain⟨q,rfl⟩:=yco hb;exact ycg (ycj _)
    .obtain rfl:i=row.length:=by omega
     simp only[ydgp,ycml,fm,boxT,yu,yw,zX,clash,go_sem,zA,zB,↓reduceIte,reduceCtorEq]
     repeat refine zD (by first|omega|decide|exact ikw (by omega) (by omega)) ?_
     refine yj (k+1) hlt (by omega) ?_
     refine ybl [(303,fun v=>if v=k then(23,0)else(303,v))] [] [] ?_
     simp only[allQ,live,yc,yx,go_sem,zA,zC,↓reduceIte,reduceCtorEq];refine⟨?_,by omega,fun v hv=>?_,fun v b hb=>?_⟩
     .repeat' apply zD
      all_goals first|exact fun i _=>ybam (by decide) (by decide)|exact fun i _=>yqn (by decide) (by decide)|exact fun i _ j _=>ywc (by decide)
     .by_cases q:v=k
      .subst q;simp only[↓reduceIte,if_pos (Nat.lt_succ_self v),hrow];exact yfr (by show(if v<v+1 then some (intO (lowT T v))else none).isSome=true;rw[if_pos (by omega)];rfl) (by simp only[go_sem,↓reduceIte])
      .by_cases q2:v<k
       .simp only[if_neg q,if_pos q2,if_pos (show v<k+1 by omega)]
        exact yfr (by show(if v<k+1 then some (intO (lowT T v))else none).isSome=true;rw[if_pos (by omega)];rfl) (by simp only[q,go_sem,↓reduceIte])
       .simp only[if_neg q,if_neg q2,if_neg (show ¬v<k+1 by omega)];exact yie rfl
     .obtain⟨hv,rfl⟩:=yco hb
      by_cases q:v=k
      .subst q;simp only[go_sem,zA,↓reduceIte];refine ycg (c:=⟨3,false,1,row.length,fun j=>[.i .i64 (if j<row.length then(row.getD j (0,0)).1 else 0)]⟩) ⟨⟨rfl,rfl,rfl,by rw[hlow,hrow]⟩,fun i hi=>?_⟩
       have hi:i<row.length:=by rw[hlow,hrow]at hi;exact hi
       rw[ydgz (by rw[hrow];exact hi),hrow]
       simp only[if_pos hi]
      .simp only[q,go_sem,zA,↓reduceIte];exact⟨_,if_pos (by omega),ycg (ycj _)⟩
  .obtain rfl:k=T.length:=by omega
   simp only[ydgg,ycpd,fm,boxT,yu,zX,ygm,go_sem,zA,zB,↓reduceIte,reduceCtorEq];refine⟨.os (302,0) 0 T.length true,boxT 301 T::ybr 302 303 T.length (lowT T),?_,?_,rfl,rfl⟩
   .refine ybl [(302,fun i=>(10,i))] [] [] ?_;simp only[ybr,ycm,boxT,yu,allQ,live,yc,go_sem,zA,zC,↓reduceIte,reduceCtorEq];refine⟨fun _ _ _ _ e=>e,fun v hv=>?_,fun v b hb=>ydl hb⟩;rw[if_pos hv,<-ybag];exact ycfr hv rfl rfl
   .simp only[ybr,boxT,yu,ycm,ycc,yev,allQ,live,go_sem,zA,↓reduceIte];exact⟨fun k hk=>by rw[if_pos hk],fun i b hb=>(yco hb).2▸yjr⟩
theorem ybqb{T:List (List (Int×Int))}{v i:Nat}(hv:v<T.length)(hi:i<(T.getD v []).length):Returns zG 125 [.i .i64 (v:Nat),.i .i64 (i:Nat),.rf [yu T]] (.i .i64 ((T.getD v []).getD i (0,0)).1):=by
 refine Returns.of (yddv _ _ ?_);simp only[c125,ycuw,ycop,yu,yw,clash,go_sem,zM,zA,zB,zF,zQ,↓reduceIte,reduceCtorEq]
 repeat refine zD (by first|omega|decide|exact ikw (by omega) (by omega)) ?_
 exact Sim.refl _
theorem ybis{T:List (List (Int×Int))}{v i:Nat}(hv:v<T.length)(hi:i<(T.getD v []).length):Returns zG 66 [.i .i64 (v:Nat),.i .i64 (i:Nat),.rf [yu T]] (.i .i64 ((T.getD v []).getD i (0,0)).1):=by
 refine Returns.of (ydkf _ _ ?_);simp only[c66,ydvb,ydtx,yu,yw,clash,go_sem,zM,zA,zB,zF,zQ,↓reduceIte,reduceCtorEq]
 repeat refine zD (by first|omega|decide|exact ikw (by omega) (by omega)) ?_
 exact Sim.refl _
set_option maxHeartbeats 1000000 in
theorem ycik{Q1 Q2:(Nat->Option ABlk)->Value->Prop}{p:ProgT}{g:Gr}(h:Checked Q1 Q2 p g)(hT:TabOk (tabP p g)) :
 Cm zG 59 [] [] [.ag (yfe Q1 Q2 p.raw),grV g] fun r o=>r = .tp [.os (302,0) 0 (tabP p g).length true,.i .i64 0]/\o=ybr 302 303 (tabP p g).length (lowT (tabP p g)):=by
 refine ydbv [] [65] _ _ _ ?_;have hF:=yyi p h.hg h.hp h.hf h.hV h.gv;have hTb:=ylp h;have hB:=yblb hT (f:=125) fun v hv i hi=>ybqb hv hi
 generalize tabP p g=T at hTb hB hT
 simp only[yfe,grV]at hF hTb;simp only[c59,ydur,ydrl,yfe,grV,clash,go_sem,zA,zB,zC,zK,↓reduceIte,reduceCtorEq];refine hF.use ?_;simp only[ybg,ydnw,ydqn,ydmv,clash,zY,go_sem,zA,zB,zC,zK,↓reduceIte,reduceCtorEq];refine hTb.use ?_;simp only[go_sem,↓reduceIte]
 repeat refine zD (by first|omega|decide|exact ikw (by omega) (by omega)) ?_
 refine yea hB [(301,7),(302,72),(303,73)] 400 [] [] ?_ ?_
 .simp only[boxT,to1,ycc,yev,ydz,ydm,allQ,live,yc,go_sem,zB,zC,↓reduceIte,reduceCtorEq]
 rintro r o' ⟨rfl,rfl⟩;simp only[boxT,ybr,ymm,ykm,nuF,nu,difN,ydz,ydm,Fam.ren,OB.ren,dim,yij,go_sem,zA,zB,zK,↓reduceIte,reduceCtorEq];simp only[ygm,go_sem];refine⟨.tp [.os (302,0) 0 T.length true,.i .i64 0],ybr 302 303 T.length (lowT T),?_,?_,rfl,rfl⟩
 .refine ybl [(302,fun i=>(72,i)),(303,fun i=>(73,i))] [] [] ?_;simp only[ybr,ycm,allQ,live,yc,go_sem,zA,zC,↓reduceIte,reduceCtorEq];exact⟨fun _ _ _ _ e=>e,fun v hv=>by rw[if_pos hv],fun i b hb=>yix (h':=nu [(301,7),(302,72),(303,73)] 400) hb⟩
 .simp only[ybr,ycm,ycc,yev,allQ,live,go_sem,zA,↓reduceIte];exact⟨fun k hk=>by rw[if_pos hk],fun i b hb=>(yco hb).2▸yjr⟩
end Sh
end
section
def rowL(bs:List (Int×Int))(k x:Nat):List Int:=(zAH bs.length).map (rowU bs k x)
theorem yzu(bs:List (Int×Int))(k x:Nat):(rowL bs k x).length=bs.length:=by simp[rowL]
theorem yta{bs:List (Int×Int)}{k x t:Nat}(ht:t<bs.length):(rowL bs k x).getD t 0=rowU bs k x t:=by simp[rowL,zJ,ht]
theorem ysc{l l':List Int}(h:l.length=l'.length)(he:∀t,t<l.length->l.getD t 0=l'.getD t 0):l=l':=by
 refine List.ext_getElem h fun t h1 h2=>?_;have:=he t h1
 rwa [yhn h1,yhn h2]at this
theorem ycai(bs:List (Int×Int))(k:Nat):rowL bs k 0=bs.map (·.1):=ysc (by simp[rowL]) fun t ht=>by
 have ht:t<bs.length:=by simpa[rowL]using ht
 rw[yta ht,ybsu bs k ht];simp[zJ,ht]
theorem yciv(bs:List (Int×Int))(k:Nat):rowL bs k bs.length=(unR bs k).1:=ysc (by rw[yzu,ybhb]) fun t ht=>by
 rw[yta (by simpa[rowL]using ht),yckr]
namespace Sh
open Ev Go.RowKit
section
variable {Q1 Q2:(Nat->Option ABlk)->Value->Prop}{p:ProgT}{g:Gr}
set_option maxHeartbeats 4000000 in
theorem ybpk(h:Checked Q1 Q2 p g)(hT:TabOk (tabP p g)){k0:Nat}(hk:k0<ybi (tabP p g)):Returns zG 15 [.ag (yfe Q1 Q2 p.raw),grV g,.i .i64 (k0:Nat)] (.tp [ycn (unT (tabP p g) k0).1,.i .i64 0]):=by
 refine Returns.of (yder [65] _ _ ?_);have hF:=yyi p h.hg h.hp h.hf h.hV h.gv;have hTb:=ylp h;have hB:=yblb hT (f:=66) fun v hv i hi=>ybis hv hi;have hC:=yww hT;have htot:=hT.tot;have hlen:=hT.len
 generalize tabP p g=T at hTb hB hT hC hk htot hlen ⊢
 obtain⟨N,hN⟩:∃N,ybi T=N:=⟨_,rfl⟩;rw[hN]at hC hk htot;simp only[yfe,grV]at hF hTb;have d1:decide ((k0:Int)<0)=false:=by simp
 have d2:decide ((k0:Int)>=(N:Int))=false:=by simp;omega
 simp only[c15,ydkq,ydvp,yfe,grV,clash,go_sem,zA,zB,zC,zK,↓reduceIte,reduceCtorEq];refine hF.use ?_;simp only[ybg,ydph,ydoy,ydtc,clash,zY,go_sem,zA,zB,zC,zK,↓reduceIte,reduceCtorEq];refine hTb.use ?_;simp only[go_sem,↓reduceIte]
 repeat refine zD (by first|omega|decide|exact ikw (by omega) (by omega)) ?_
 refine hC.use ?_;simp only[ydri,ydxi,ycwx,clash,zY,d1,d2,go_sem,zA,zB,↓reduceIte,reduceCtorEq]
 repeat refine zD (by first|omega|decide|exact ikw (by omega) (by omega)) ?_
 refine yea hB [(301,9),(302,72),(303,73)] 400 [9,5] [5] ?_ ?_
 .simp only[boxT,to1,okN,ycc,yev,ydz,ydm,allQ,live,yc,go_sem,zA,zB,zC,zK,↓reduceIte,reduceCtorEq]
 rintro r o' ⟨rfl,rfl⟩;simp only[boxT,ybr,ymm,ykm,nuF,nu,difN,ydz,ydm,Fam.ren,OB.ren,dim,yij,go_sem,zA,zB,zC,zK,↓reduceIte];simp only[yczg,yu,go_sem,zA,zB,zK,↓reduceIte]
 repeat refine zD (by first|omega|decide|exact ikw (by omega) (by omega)) ?_
 refine(ybbz (n:=T.length) (e:=fun v=>yw (T.getD v []))).use ?_;simp only[ybg,clash,go_sem]
 let ownU:(Nat->List Int)->Nat->Own:=fun w k=>(5,.one (some ⟨3,true,1,1,fun _=>[.i .i64 (k:Nat)]⟩))::(12,.one (some ⟨46,true,1,1,fun _=>[.os (72,0) 0 T.length true]⟩))::ybr 72 73 T.length w
 refine ynt (ybbh (n:=T.length) (e:=fun v=>yw (T.getD v []))) [(12,0),(5,0)] (fun q (_:Unit)=>⟨[(46,.fn 133 [] [.rf [yu T]]),(12,.pt (12,0) 0 0),(5,.pt (5,0) 0 0)],ownU (cU T k0 q) (kT T k0 q)⟩)
  (fun q _=>q<=T.length) () (zL _) ⟨fun _ h=>absurd h zV,fun β h=>absurd h zV⟩ ?_ (fun _=>rfl) ?_ ?_ ?_
 .refine yh [] [] [] ?_;simp only[ownU,ybr,ycm,yu,ydcq,allQ,live,yc,go_sem,zA,zC,↓reduceIte,reduceCtorEq];refine⟨fun _ _ _ _ e=>e,fun v hv=>?_,fun v b hb=>?_⟩
  .rw[ybxh T k0 hv];exact⟨Sim.refl _,by rw[if_pos hv]⟩
  .obtain⟨hv,rfl⟩:=yco hb;rw[ybxh T k0 hv];exact yix (w:=lowT T) (h':=nu [(301,9),(302,72),(303,73)] 400) (if_pos hv)
 .intro i _ hi _;refine⟨trivial,?_⟩;simp only[yu,allQ,go_sem,zA]
 .intro q _ hq hlt;have hlt:q<T.length:=hlt;obtain⟨v,hv⟩:∃v,T.length-1-q=v:=⟨_,rfl⟩;have hvn:v<T.length:=by omega
  refine⟨_,rfl,?_⟩;simp only[bwdS,hv];simp only[ydbh,ycrt,yclw,ownU,ybr,yu,splice,clash,go_sem,zA,zB,zC,zK,↓reduceIte];refine(ybcn (ls:=T.getD v [])).use ?_;obtain⟨hr,hb⟩:=hT.at_ hvn
  have hI:∀l∈T.getD v [],I64 l.1/\I64 l.2:=fun l hl=>by
   obtain⟨i,hi,rfl⟩:=zAO hl;have:=hb i hi;rw[yhn hi]at this;unfold I64;omega
  have hcS:=yddl (k:=k0) hlt hv.symm;have hcO:=ydwd (k:=k0) hlt hv.symm;have hkS:=ydiy (k:=k0) hlt hv.symm;have hlw:lowT T v=(T.getD v []).map (·.1):=rfl;have hcl:=fun {j}=>ydko (k:=k0) (q:=q) hq (j:=j);have hkl:kT T k0 q<=k0:=ydsi _ _;obtain⟨kk,hkk⟩:∃kk,kT T k0 q=kk:=⟨_,rfl⟩;rw[hkk]at hcS hkS hkl;obtain⟨bs,hbs⟩:∃bs,T.getD v []=bs:=⟨_,rfl⟩;rw[hbs]at hr hb hI hcS hkS hlw;simp only[ybg,clash,hbs,go_sem]
  refine ynt (ybec (ls:=bs) hI) [(12,0),(5,0),(13,0)] (fun x (_:Unit)=>⟨[(50,.fn 134 [] [.rf [yw bs]]),(12,.pt (12,0) 0 0),(5,.pt (5,0) 0 0),(13,.pt (13,0) 0 0)],(13,.one (some ⟨3,true,1,1,fun _=>[.i .i64 (v:Nat)]⟩))::ownU (fun j=>if j=v then rowL bs kk x else cU T k0 q j) (kU bs kk x)⟩)
   (fun x _=>x<=bs.length) () (zL _) ⟨fun β h=>(by rcases List.mem_cons.1 h with r|r;rw[r];exact zS;rw[List.mem_singleton.1 r];exact zAJ _ zS),fun β h=>absurd h zV⟩ ?_ (fun _=>rfl) ?_ ?_ ?_
  .refine ybl [] [] [] ?_
   have e0:∀j,(if j=v then rowL bs kk 0 else cU T k0 q j)=cU T k0 q j:=fun j=>by
    by_cases e:j=v
    .rw[if_pos e,ycai,e,hcO,hlw]
    .rw[if_neg e]
   simp only[ownU,ybr,ycm,ydcg,e0,hkk,allQ,live,yc,go_sem,zA,zC,↓reduceIte,reduceCtorEq];exact⟨fun _ _ _ _ e=>e,fun j hj=>by rw[if_pos hj],fun j b hb=>ydl hb⟩
  .intro x _ hx _;refine⟨trivial,?_⟩;simp only[yw,allQ,go_sem,zA]
  .intro x _ hx hlt2;have hlt2:x<bs.length:=hlt2;obtain⟨i,hi⟩:∃i,bs.length-1-x=i:=⟨_,rfl⟩;have hin:i<bs.length:=by omega
   refine⟨_,rfl,?_⟩;simp only[bwdS,hi];obtain⟨b1,b2,b3⟩:=hb i hin;have hrS:=ybsm (k:=kk) hlt2 hi.symm;have hrO:=yciw (k:=kk) hlt2 hi.symm;have hkS2:=ydjb (k:=kk) hlt2 hi.symm;obtain⟨⟨lo,hi'⟩,hbe⟩:∃b,bs.getD i (0,0)=b:=⟨_,rfl⟩;rw[hbe]at b1 b2 b3 hrS hrO hkS2;simp only at b1 b2 b3 hrO;have hsz:=yot (b:=(lo,hi')) b1;obtain⟨sz,hsze⟩:∃sz,szP (lo,hi')=sz:=⟨_,rfl⟩;rw[hsze]at hsz hrS hkS2;simp only at hsz hrS
   have hsz2:hi'-lo+1=(sz:Int):=hsz.2.symm;have hkU:kU bs kk x<=kk:=ydgh _ _;obtain⟨y,hy⟩:∃y,kU bs kk x=y:=⟨_,rfl⟩;rw[hy]at hrS hkS2 hkU;have hmod:(y:Int).tmod (sz:Int)=((y%sz:Nat):Int):=rfl;have hdiv:(y:Int).tdiv (sz:Int)=((y/sz:Nat):Int):=rfl;have hrL:(rowL bs kk x).getD i 0=lo:=by rw[yta hin,hrO]
   have hrn:=yzu bs kk x;have hml:y%sz<sz:=Nat.mod_lt _ hsz.1;have hdl:y/sz<=y:=zBF _ _;simp only[ycub,ycys,ycqq,ycoo,ycnf,ownU,ybr,ycm,intO,if_pos hvn,hrn,hy,hrL,hbe,hsz2,hmod,hdiv,splice,clash,go_sem,zM,zA,zB,zF,zC,zQ,↓reduceIte,reduceCtorEq]
   repeat refine zD (by first|omega|decide|exact ikw (by omega) (by omega)) ?_
   refine zD ⟨by omega,ikw (by omega) (by omega)⟩ ?_
   repeat refine zD (by first|omega|decide|exact ikw (by omega) (by omega)) ?_
   refine ybl [] [] [] ?_
   have hw:∀t,t<bs.length->(if t=i then[SV.i .i64 (lo+((y%sz:Nat):Int))]else[SV.i .i64 ((rowL bs kk x).getD t 0)])=[SV.i .i64 ((rowL bs kk (x+1)).getD t 0)]:=fun t ht=>by
    rw[yta ht,yta ht,hrS]
    by_cases e:t=i
    .rw[if_pos e,if_pos e]
    .rw[if_neg e,if_neg e]
   have hrn2:=yzu bs kk (x+1);simp only[hkS2,allQ,live,yc,go_sem,zA,zC,↓reduceIte,reduceCtorEq];refine⟨fun _ _ _ _ e=>e,fun j hj=>?_,fun j b hb=>?_⟩
   .by_cases e:j=v
    .subst e;simp only[hrn,hrn2,if_pos hj,yc,go_sem,↓reduceIte]
    .simp only[e,if_pos hj,yc,go_sem,↓reduceIte]
   .obtain⟨hj,rfl⟩:=yco (x:=intO (if j=v then rowL bs kk (x+1)else cU T k0 q j)) hb
    by_cases e:j=v
    .subst e;simp only[go_sem,↓reduceIte];exact ycg (l:=rowL bs kk (x+1)) (c:=⟨3,false,1,bs.length,fun t=>if t=i then[SV.i .i64 (lo+((y%sz:Nat):Int))]else[SV.i .i64 ((rowL bs kk x).getD t 0)]⟩) ⟨⟨rfl,rfl,rfl,hrn2.symm⟩,fun t ht=>hw t (by rw[hrn2]at ht;exact ht)⟩
    .simp only[e,go_sem,↓reduceIte];exact⟨_,if_pos hj,ycg (l:=cU T k0 q j) (ycj _)⟩
  .intro _ _
   have e0:∀j,(if j=v then rowL bs kk bs.length else cU T k0 q j)=cU T k0 (q+1) j:=fun j=>by
    rw[hcS]
    by_cases e:j=v
    .rw[if_pos e,if_pos e,yciv]
    .rw[if_neg e,if_neg e]
   simp only[bwdS,go_sem]
   repeat refine zD (by first|omega|decide|exact ikw (by omega) (by omega)) ?_
   refine ybl [] [] [] ?_;simp only[ownU,ybr,ycm,ydqo,e0,hkS,allQ,live,yc,go_sem,zA,zC,↓reduceIte,reduceCtorEq];exact⟨fun _ _ _ _ e=>e,fun j hj=>by rw[if_pos hj],fun j b hb=>ydl hb⟩
 .intro _ _;simp only[ycra,bwdS,ownU,ybr,clash,go_sem,zA,zB,↓reduceIte,reduceCtorEq];have hcl:∀j,j<T.length->(unT T k0).1.getD j []=cU T k0 T.length j:=fun j _=>(ydua T k0 j).symm;have hul:=ycdk T k0;refine⟨fun j hj=>?_,yxg ⟨?_,Sim.refl _,trivial⟩⟩
  .simp only[ycm,intO,if_pos hj,go_sem]
  .unfold ycn ybc;rw[hul];refine ydp fun j hj=>?_;simp only[ycm,intO,if_pos hj,SimL,hcl j hj,go_sem];exact Sim.refl _
end
end Sh
end
section
def rowD(bs:List (Int×Int))(xs:List Int)(x:Nat):List Int:=(zAH bs.length).map fun t=>if t<bs.length-x then xs.getD t 0 else(bs.getD t (0,0)).1
theorem yos(bs:List (Int×Int))(xs:List Int)(x:Nat):(rowD bs xs x).length=bs.length:=by simp[rowD]
theorem ypl{bs:List (Int×Int)}{xs:List Int}{x t:Nat}(ht:t<bs.length):(rowD bs xs x).getD t 0=if t<bs.length-x then xs.getD t 0 else(bs.getD t (0,0)).1:=by simp[rowD,zJ,ht]
theorem ycct{bs:List (Int×Int)}{xs:List Int}(h:xs.length=bs.length):rowD bs xs 0=xs:=ysc (by rw[yos,h]) fun t ht=>by
 have ht:t<bs.length:=by rwa [yos]at ht
 rw[ypl ht,if_pos (by omega)]
theorem ycit(bs:List (Int×Int))(xs:List Int):rowD bs xs bs.length=bs.map (·.1):=ysc (by simp[rowD]) fun t ht=>by
 have ht:t<bs.length:=by rwa [yos]at ht
 rw[ypl ht,if_neg (by omega)]
 simp[zJ,ht]
def cD(T:List (List (Int×Int)))(c:Conf)(q j:Nat):List Int:=if j<T.length-q then c.getD j []else lowT T j
namespace Sh
open Ev Go.RowKit
set_option maxHeartbeats 4000000 in
theorem ybpr{T:List (List (Int×Int))}(hT:TabOk T){c:Conf}(hc:inT T c) :
 Cm zG 61 [(302,0)] (ybr 302 303 T.length fun j=>c.getD j []) [yu T,.os (302,0) 0 T.length true] fun r o=>r = .tp []/\o=ybr 302 303 T.length fun j=>(advT T c).1.getD j []:=by
 refine ydhg [(302,0)] [] _ _ _ ?_;have hlen:=hT.len;obtain⟨hcl,hcr⟩:=ykt.1 hc;have hcrl:∀j,j<T.length->(c.getD j []).length=(T.getD j []).length:=fun j hj=>(ymr.1 (hcr j hj)).1;simp only[c61,ydxa,ydpc,yu,ybr,go_sem,zA,zB,zC,↓reduceIte,reduceCtorEq];refine(ybbz (n:=T.length) (e:=fun v=>yw (T.getD v []))).use ?_;simp only[ybg,clash,go_sem]
 let own3:(Nat->List Int)->Own:=fun w=>(3,.one (some ⟨46,true,1,1,fun _=>[.os (302,0) 0 T.length true]⟩))::ybr 302 303 T.length w
 refine ynt (ybbh (n:=T.length) (e:=fun v=>yw (T.getD v []))) [(302,0),(3,0)] (fun q (_:Unit)=>⟨[(9,.fn 133 [] [.rf [yu T]]),(3,.pt (3,0) 0 0)],own3 (cD T c q)⟩)
  (fun q _=>q<=T.length/\ybxa T c (T.length-q)) () ⟨zL _,fun j h1 h2=>absurd h1 (by omega)⟩ ⟨fun β h=>by rw[List.mem_singleton.1 h];exact zS,fun β h=>absurd h zV⟩ ?_ (fun _=>rfl) ?_ ?_ ?_
 .refine ybl [] [] [] ?_;have e0:∀j,j<T.length->cD T c 0 j=c.getD j []:=fun j hj=>by unfold cD;rw[if_pos (by omega)]
  simp only[own3,ybr,ycm,yu,allQ,live,yc,go_sem,zA,zC,↓reduceIte,reduceCtorEq];refine⟨fun _ _ _ _ e=>e,fun j hj=>?_,fun j b hb=>?_⟩
  .rw[e0 j hj];exact⟨Sim.refl _,by rw[if_pos hj]⟩
  .obtain⟨hj,rfl⟩:=yco (x:=intO (cD T c 0 j)) hb;rw[e0 j hj];exact⟨_,if_pos hj,ycg (ycj _)⟩
 .intro i _ hi _;refine⟨trivial,?_⟩;simp only[yu,allQ,go_sem,zA]
 .rintro q _ ⟨hq,hfu⟩ hlt;have hlt:q<T.length:=hlt;obtain⟨v,hv⟩:∃v,T.length-1-q=v:=⟨_,rfl⟩;have hvn:v<T.length:=by omega
  refine⟨_,rfl,?_⟩;simp only[bwdS,hv];simp only[ydwk,ydmj,ydkg,own3,ybr,yu,splice,clash,go_sem,zA,zB,zC,↓reduceIte];refine(ybcn (ls:=T.getD v [])).use ?_;obtain⟨hr,hb⟩:=hT.at_ hvn
  have hI:∀l∈T.getD v [],I64 l.1/\I64 l.2:=fun l hl=>by
   obtain⟨i,hi,rfl⟩:=zAO hl;have:=hb i hi;rw[yhn hi]at this;unfold I64;omega
  have hfv:ybxa T c (v+1):=fun j h1 h2=>hfu j (by omega) h2
  have hcv:cD T c q v=c.getD v []:=by unfold cD;rw[if_pos (by omega)]
  have hcS:∀j,cD T c (q+1) j=if j=v then lowT T v else cD T c q j:=fun j=>by
   unfold cD
   by_cases e:j=v
   .rw[if_pos e,if_neg (by omega),e]
   .rw[if_neg e]
    by_cases w:j<v
    .rw[if_pos (by omega),if_pos (by omega)]
    .rw[if_neg (by omega),if_neg (by omega)]
  have hcq:∀j,j<T.length->cD T c q j=if j<v then c.getD j []else if j=v then c.getD v []else lowT T j:=fun j hj=>by
   unfold cD
   by_cases w:j<v
   .rw[if_pos (by omega),if_pos w]
   .by_cases e:j=v
    .rw[if_pos (by omega),if_neg w,if_pos e,e]
    .rw[if_neg (by omega),if_neg w,if_neg e]
  have hraise:=yxs hcl hcrl hvn hfv;have hlw:lowT T v=(T.getD v []).map (·.1):=rfl;have hinr:=ymr.1 (hcr v hvn);obtain⟨bs,hbs⟩:∃bs,T.getD v []=bs:=⟨_,rfl⟩;obtain⟨xs,hxs⟩:∃xs,c.getD v []=xs:=⟨_,rfl⟩;rw[hbs]at hr hb hI hlw hraise hinr;rw[hxs]at hraise hinr hcv hcq;obtain⟨hxl,hxi⟩:=hinr;simp only[ybg,clash,hbs,go_sem]
  refine ynt (ybec (ls:=bs) hI) [(302,0),(3,0),(4,0)] (fun x (_:Unit)=>⟨[(13,.fn 134 [] [.rf [yw bs]]),(3,.pt (3,0) 0 0),(4,.pt (4,0) 0 0)],(4,.one (some ⟨3,true,1,1,fun _=>[.i .i64 (v:Nat)]⟩))::own3 (fun j=>if j=v then rowD bs xs x else cD T c q j)⟩)
   (fun x _=>x<=bs.length/\ybqs bs xs (bs.length-x)) () ⟨zL _,fun j h1 h2=>absurd h1 (by omega)⟩ ⟨fun β h=>(by rcases List.mem_cons.1 h with r|r;rw[r];exact zS;rw[List.mem_singleton.1 r];exact zAJ _ zS),fun β h=>absurd h zV⟩ ?_ (fun _=>rfl) ?_ ?_ ?_
  .refine ybl [] [] [] ?_
   have e0:∀j,(if j=v then rowD bs xs 0 else cD T c q j)=cD T c q j:=fun j=>by
    by_cases e:j=v
    .rw[if_pos e,ycct hxl,e,hcv]
    .rw[if_neg e]
   simp only[own3,ybr,ycm,e0,allQ,live,yc,go_sem,zA,zC,↓reduceIte,reduceCtorEq];exact⟨fun _ _ _ _ e=>e,fun j hj=>by rw[if_pos hj],fun j b hb=>ydl hb⟩
  .rintro x _ hx _;refine⟨trivial,?_⟩;simp only[yw,allQ,go_sem,zA]
  .rintro x _ ⟨hx,hfr⟩ hlt2;have hlt2:x<bs.length:=hlt2;obtain⟨i,hi⟩:∃i,bs.length-1-x=i:=⟨_,rfl⟩;have hin:i<bs.length:=by omega
   refine⟨_,rfl,?_⟩;simp only[bwdS,hi];obtain⟨b1,b2,b3⟩:=hb i hin;have hxx:=hxi i hin;have hfi:ybqs bs xs (i+1):=fun t h1 h2=>hfr t (by omega) h2
   have hrw:=yxf hxl hin hfi;have hra:(rowD bs xs x).getD i 0=xs.getD i 0:=by rw[ypl hin,if_pos (by omega)]
   have hrn:=yos bs xs x;have hrn2:=yos bs xs (x+1);obtain⟨⟨lo,hi'⟩,hbe⟩:∃b,bs.getD i (0,0)=b:=⟨_,rfl⟩;rw[hbe]at b1 b2 b3 hxx hrw;simp only at b1 b2 b3 hxx hrw;obtain⟨y,hy⟩:∃y,xs.getD i 0=y:=⟨_,rfl⟩;rw[hy]at hxx hrw hra
   by_cases hlt3:y<hi'
   .have d1:decide (y<hi')=true:=decide_eq_true hlt3;simp only[ydds,ydgt,yddo,ydki,own3,ybr,ycm,intO,if_pos hvn,hrn,hra,hbe,d1,splice,clash,ygm,go_sem,zM,zA,zB,zC,zQ,↓reduceIte,reduceCtorEq]
    repeat refine zD (by first|omega|decide|exact ikw (by omega) (by omega)) ?_
    obtain⟨w1,w2,w3⟩:=hrw hlt3;obtain⟨_,_,H⟩:=hraise w1
    have hcell:∀t,t<bs.length->(if t=i then[SV.i .i64 (y+1)]else[SV.i .i64 ((rowD bs xs x).getD t 0)])=[SV.i .i64 ((advR bs xs).1.getD t 0)]:=fun t ht=>by
     rw[w3 t ht]
     by_cases e:t=i
     .rw[if_pos e,if_neg (by omega),if_pos e]
     .rw[if_neg e,if_neg e,ypl ht]
      by_cases w:t<i
      .rw[if_pos (by omega),if_pos w]
      .rw[if_neg (by omega),if_neg w]
    refine⟨.tp [],ybr 302 303 T.length (fun j=>(advT T c).1.getD j []),?_,?_,rfl,rfl⟩
    .refine ybl [] [] [] ?_;simp only[ybr,ycm,allQ,live,yc,go_sem,zA,zC,↓reduceIte,reduceCtorEq];refine⟨fun _ _ _ _ e=>e,fun j hj=>?_,fun j b hb=>?_⟩
     .have Hj:=H j hj
      by_cases e:j=v
      .subst e;rw[if_neg (by omega),if_pos rfl]at Hj
       simp only[hrn,Hj,w2,if_pos hj,yc,go_sem,↓reduceIte]
      .rw[if_neg e]at Hj;have:=hcq j hj;rw[if_neg e,<-Hj]at this;simp only[e,this,if_pos hj,yc,go_sem,↓reduceIte]
     .obtain⟨hj,rfl⟩:=yco (x:=intO ((advT T c).1.getD j [])) hb;have Hj:=H j hj
      by_cases e:j=v
      .subst e;rw[if_neg (by omega),if_pos rfl]at Hj
       rw[Hj];simp only[go_sem,↓reduceIte];exact ycg (l:=(advR bs xs).1) (c:=⟨3,false,1,bs.length,fun t=>if t=i then[SV.i .i64 (y+1)]else[SV.i .i64 ((rowD bs xs x).getD t 0)]⟩) ⟨⟨rfl,rfl,rfl,w2.symm⟩,fun t ht=>hcell t (by rw[w2]at ht;exact ht)⟩
      .rw[if_neg e]at Hj;have:=hcq j hj;rw[if_neg e,<-Hj]at this;rw[<-this];simp only[e,go_sem,↓reduceIte];exact⟨_,if_pos hj,ycg (l:=cD T c q j) (ycj _)⟩
    .simp only[ybr,ycm,ycc,yev,allQ,live,go_sem,zA,↓reduceIte];exact⟨fun k hk=>by rw[if_pos hk],fun i b hb=>(yco hb).2▸yjr⟩
   .have d1:decide (y<hi')=false:=decide_eq_false hlt3;simp only[ydds,ydgt,yddo,ydtp,own3,ybr,ycm,intO,if_pos hvn,hrn,hra,hbe,d1,splice,clash,go_sem,zM,zA,zB,zF,zC,zQ,↓reduceIte,reduceCtorEq]
    repeat refine zD (by first|omega|decide|exact ikw (by omega) (by omega)) ?_
    refine zD ⟨hlt2,fun t h1 h2=>?_⟩ ?_
    .by_cases e:t=i
     .rw[e,hy,hbe];exact hlt3
     .exact hfr t (by omega) h2
    refine ybl [] [] [] ?_
    have hw:∀t,t<bs.length->(if t=i then[SV.i .i64 lo]else[SV.i .i64 ((rowD bs xs x).getD t 0)])=[SV.i .i64 ((rowD bs xs (x+1)).getD t 0)]:=fun t ht=>by
     rw[ypl ht,ypl ht]
     by_cases e:t=i
     .rw[if_pos e,if_neg (by omega),e,hbe]
     .rw[if_neg e]
      by_cases w:t<i
      .rw[if_pos (by omega),if_pos (by omega)]
      .rw[if_neg (by omega),if_neg (by omega)]
    simp only[allQ,live,yc,go_sem,zA,zC,↓reduceIte,reduceCtorEq];refine⟨fun _ _ _ _ e=>e,fun j hj=>?_,fun j b hb=>?_⟩
    .by_cases e:j=v
     .subst e;simp only[hrn,hrn2,if_pos hj,yc,go_sem,↓reduceIte]
     .simp only[e,if_pos hj,yc,go_sem,↓reduceIte]
    .obtain⟨hj,rfl⟩:=yco (x:=intO (if j=v then rowD bs xs (x+1)else cD T c q j)) hb
     by_cases e:j=v
     .subst e;simp only[go_sem,↓reduceIte];exact ycg (l:=rowD bs xs (x+1)) (c:=⟨3,false,1,bs.length,fun t=>if t=i then[SV.i .i64 lo]else[SV.i .i64 ((rowD bs xs x).getD t 0)]⟩) ⟨⟨rfl,rfl,rfl,hrn2.symm⟩,fun t ht=>hw t (by rw[hrn2]at ht;exact ht)⟩
     .simp only[e,go_sem,↓reduceIte];exact⟨_,if_pos hj,ycg (l:=cD T c q j) (ycj _)⟩
  .rintro _ ⟨_,hfr⟩
   have e0:∀j,(if j=v then rowD bs xs bs.length else cD T c q j)=cD T c (q+1) j:=fun j=>by
    rw[hcS]
    by_cases e:j=v
    .rw[if_pos e,if_pos e,ycit,hlw]
    .rw[if_neg e,if_neg e]
   have hfr:ybqs bs xs (bs.length-bs.length):=hfr;simp only[bwdS,go_sem];refine zD ⟨hlt,fun j h1 h2=>?_⟩ ?_
   .by_cases e:j=v
    .subst e;rw[hbs,hxs];exact fun t _ ht=>hfr t (by omega) ht
    .exact hfv j (by omega) h2
   refine ybl [] [] [] ?_;simp only[own3,ybr,ycm,e0,allQ,live,yc,go_sem,zA,zC,↓reduceIte,reduceCtorEq];exact⟨fun _ _ _ _ e=>e,fun j hj=>by rw[if_pos hj],fun j b hb=>ydl hb⟩
 .rintro _ ⟨_,hfu⟩;simp only[bwdS,own3,ybr,ygm,go_sem];have hfu:ybxa T c (T.length-T.length):=hfu;have hall:=yuq hcl hcrl fun j _ hj=>hfu j (by omega) hj
  have e0:∀j,j<T.length->cD T c T.length j=(advT T c).1.getD j []:=fun j hj=>by
   rw[hall,yue hj];unfold cD;rw[if_neg (by omega)]
  refine⟨.tp [],ybr 302 303 T.length (fun j=>(advT T c).1.getD j []),?_,?_,rfl,rfl⟩
  .refine ybl [] [] [] ?_;simp only[ybr,ycm,allQ,live,yc,go_sem,zA,zC,↓reduceIte,reduceCtorEq];refine⟨fun _ _ _ _ e=>e,fun j hj=>?_,fun j b hb=>?_⟩
   .rw[e0 j hj];exact⟨Sim.refl _,by rw[if_pos hj]⟩
   .obtain⟨hj,rfl⟩:=yco (x:=intO ((advT T c).1.getD j [])) hb;rw[<-e0 j hj];exact⟨_,if_pos hj,ycg (ycj _)⟩
  .simp only[ybr,ycm,ycc,yev,allQ,live,go_sem,zA,↓reduceIte];exact⟨fun k hk=>by rw[if_pos hk],fun i b hb=>(yco hb).2▸yjr⟩
end Sh
end
section
def rowP(bs:List (Int×Int))(p x t:Nat):Int:=if t<bs.length-x then 0 else(plR (bs.drop (bs.length-x)) p).1.getD (t-(bs.length-x)) 0
def pP(bs:List (Int×Int))(p x:Nat):Nat:=(plR (bs.drop (bs.length-x)) p).2
theorem ydgb(bs:List (Int×Int))(p:Nat):pP bs p 0=p:=by unfold pP;rw[zAB,zW];rfl
theorem ydqz(bs:List (Int×Int))(p:Nat):pP bs p bs.length=(plR bs p).2:=by unfold pP;rw[zT];rfl
theorem yccm(bs:List (Int×Int))(p:Nat){t:Nat}(ht:t<bs.length):rowP bs p 0 t=0:=by unfold rowP;rw[if_pos (by omega)]
theorem ycfn(bs:List (Int×Int))(p t:Nat):rowP bs p bs.length t=(plR bs p).1.getD t 0:=by unfold rowP;rw[if_neg (by omega),zT];rfl
section
variable {bs:List (Int×Int)}{p x i:Nat}
theorem ybyu(hx:x<bs.length)(hi:i=bs.length-1-x):plR (bs.drop (bs.length-(x+1))) p=(((pP bs p x:Nat):Int)::(plR (bs.drop (bs.length-x)) p).1,pP bs p x*szP (bs.getD i (0,0))):=by
 have e1:bs.length-(x+1)=i:=by omega
 have e2:bs.length-x=i+1:=by omega
 unfold pP;rw[e1,e2,drop_at (0,0) (show i<bs.length by omega)]
 rfl
theorem yddm(hx:x<bs.length)(hi:i=bs.length-1-x):pP bs p (x+1)=pP bs p x*szP (bs.getD i (0,0)):=by
 show(plR _ p).2=_;rw[ybyu hx hi]
theorem rowP_step(hx:x<bs.length)(hi:i=bs.length-1-x)(t:Nat):rowP bs p (x+1) t=if t=i then((pP bs p x:Nat):Int)else rowP bs p x t:=by
 unfold rowP
 by_cases e:t=i
 .rw[if_pos e,if_neg (by omega),ybyu hx hi,show t-(bs.length-(x+1))=0 by omega]
  rfl
 .rw[if_neg e]
  by_cases q:t<i
  .rw[if_pos (by omega),if_pos (by omega)]
  .rw[if_neg (by omega),if_neg (by omega),ybyu hx hi,show t-(bs.length-(x+1))=(t-(bs.length-x))+1 by omega]
   rfl
theorem yeab:pP bs p x=p*ybp (bs.drop (bs.length-x)):=ypd _ _
theorem ydzj(h:bdR bs):pP bs p x<=p*ybp bs:=by
 rw[yeab];refine zAN _ ?_
 conv=>rhs;rw[<-zU (bs.length-x) bs,yib]
 exact zAD _ (ykq fun b hb=>h b (zAK hb))
end
def cP(T:List (List (Int×Int)))(q j:Nat):List Int:=if j<T.length-q then[]else(plT (T.drop (T.length-q)) 1).1.getD (j-(T.length-q)) []
def ppT(T:List (List (Int×Int)))(q:Nat):Nat:=(plT (T.drop (T.length-q)) 1).2
theorem yckk(T:List (List (Int×Int))):ppT T 0=1:=by unfold ppT;rw[zAB,zW];rfl
theorem ydrk(T:List (List (Int×Int)))(j:Nat):cP T T.length j=(plT T 1).1.getD j []:=by unfold cP;rw[if_neg (by omega),zT];rfl
section
variable {T:List (List (Int×Int))}{q v:Nat}
theorem ybvu(hq:q<T.length)(hv:v=T.length-1-q):plT (T.drop (T.length-(q+1))) 1=((plR (T.getD v []) (ppT T q)).1::(plT (T.drop (T.length-q)) 1).1,(plR (T.getD v []) (ppT T q)).2):=by
 have e1:T.length-(q+1)=v:=by omega
 have e2:T.length-q=v+1:=by omega
 unfold ppT;rw[e1,e2,drop_at [] (show v<T.length by omega)]
 rfl
theorem yblq(hq:q<T.length)(hv:v=T.length-1-q):ppT T (q+1)=(plR (T.getD v []) (ppT T q)).2:=by
 show(plT _ 1).2=_;rw[ybvu hq hv]
theorem ydjs(hq:q<T.length)(hv:v=T.length-1-q)(j:Nat):cP T (q+1) j=if j=v then(plR (T.getD v []) (ppT T q)).1 else cP T q j:=by
 unfold cP
 by_cases e:j=v
 .rw[if_pos e,if_neg (by omega),ybvu hq hv,show j-(T.length-(q+1))=0 by omega]
  rfl
 .rw[if_neg e]
  by_cases w:j<v
  .rw[if_pos (by omega),if_pos (by omega)]
  .rw[if_neg (by omega),if_neg (by omega),ybvu hq hv,show j-(T.length-(q+1))=(j-(T.length-q))+1 by omega]
   rfl
theorem ydqp:ppT T q=ybi (T.drop (T.length-q)):=by unfold ppT;rw[yyx,Nat.one_mul]
theorem ydna(h:bdT T):ppT T q<=ybi T:=by
 rw[ydqp]
 conv=>rhs;rw[<-zU (T.length-q) T,yga]
 exact zAD _ (yoj fun b hb=>h b (zAK hb))
theorem ydul(h:bdT T)(hq:q<T.length)(hv:v=T.length-1-q)(x:Nat):pP (T.getD v []) (ppT T q) x<=ybi T:=by
 refine zAA (ydzj (ycex h)) ?_;have:ppT T q*ybp (T.getD v [])=ppT T (q+1):=by rw[yblq hq hv,ypd]
 rw[this];exact ydna h
end
end
section
namespace Sh
open Ev Go.RowKit
def yeh(T:List (List (Int×Int))):List (List Int):=(plT T 1).1
theorem ybsf:∀(rs:List (List (Int×Int))) (p v:Nat),v<rs.length->((plT rs p).1.getD v []).length=(rs.getD v []).length
 |[],_,_,h=>by simp at h
 |r::rs,p,0,_=>ybiw r _
 |r::rs,p,v+1,h=>ybsf rs p v (by simpa using h)
theorem yuo{T:List (List (Int×Int))}{j:Nat}(hj:j<T.length):((yeh T).getD j []).length=(T.getD j []).length:=ybsf T 1 j hj
def ydf(p:ProgT)(g:Gr)(net:List Nat)(kind:Int)(T:List (List (Int×Int))):List SV:=[yey p g,usV net,.i .i64 kind,yu T,ycn (yeh T)]
theorem ybri{Q1 Q2:(Nat->Option ABlk)->Value->Prop}{p:ProgT}{g:Gr}(h:Checked Q1 Q2 p g):Returns zG 123 [.ag (yfe Q1 Q2 p.raw),grV g] (yey p g):=by
 have hp':=h.hp;unfold ProgT.ok at hp';simp only[zAZ,decide_eq_true_eq]at hp';have hM:Returns zG 123 [.ag (ymp p.raw),grV g] (yey p g):=(ybdf p.raw h.hg hp'.1.1.2 hp'.1.1.1.2).exT
 have hC:Ct zG 123 [.ag (yfe Q1 Q2 p.raw),grV g] fun r=>Sim r (yey p g):=by
  refine(hM.use (Q:=fun r=>Sim r (yey p g)) (Sim.refl _)).simL ?_;exact⟨ybbg _ _ _,Sim.refl _,trivial⟩
 exact Returns.of hC
section
variable {Q1 Q2:(Nat->Option ABlk)->Value->Prop}{p:ProgT}{g:Gr}
set_option maxHeartbeats 4000000 in
theorem ybgv(h:Checked Q1 Q2 p g)(hT:TabOk (tabP p g))(kind:Int):Returns zG 58 [.ag (yfe Q1 Q2 p.raw),grV g,.i .i64 kind] (.rf (ydf p g (g.ports.map netP) kind (tabP p g))):=by
 refine Returns.of (ydpr _ _ ?_);have hM:=ybri h;have hN:=ybqy h.hg;have hTb:=ylp h;have htot:=hT.tot;have hlen:=hT.len;obtain⟨T,hTT⟩:∃T,tabP p g=T:=⟨_,rfl⟩;rw[hTT]at hTb hT htot hlen ⊢
 generalize g.ports.map netP=net at hN ⊢
 simp only[yfe,grV]at hM hN hTb;simp only[c58,ydmh,ydst,yfe,grV,clash,go_sem,zA,zB,zC,↓reduceIte,reduceCtorEq];refine hM.use ?_;simp only[usV,yey]at hN ⊢;simp only[ybg,clash,go_sem,zA,zB,zF,zC,↓reduceIte,reduceCtorEq];refine hN.use ?_;simp only[go_sem,zB,zF,↓reduceIte]
 repeat refine zD (by first|omega|decide|exact ikw (by omega) (by omega)) ?_
 refine hTb.use ?_;simp only[ydkl,ydmk,ydsv,yu,splice,clash,go_sem,zA,zB,zF,zC,↓reduceIte,reduceCtorEq]
 repeat refine zD (by first|omega|decide|exact ikw (by omega) (by omega)) ?_
 let bo:Nat×Fam:=(21,.one (some ⟨86,true,5,1,fun _=>[yey p g,usV net,.i .i64 kind,yu T,.os (28,0) 0 T.length true]⟩))
 let fm:Nat->Nat×Fam:=fun q=>(303,.many fun j=>if T.length-q<=j/\j<T.length then some (intO (cP T q j))else none)
 let rowQ:Nat->Nat->List SV:=fun q j=>if T.length-q<=j then[.os (303,j) 0 (T.getD j []).length true]else[.a (.slice none 0 0)]
 have hlv:∀(O:Own) (q j:Nat),T.length-q<=j/\j<T.length->look O 303=some (fm q).2->live O (303,j)=true:=fun O q j hj ho=>by
  show(lookO O (303,j)).isSome=true;unfold lookO;rw[ho];show(if T.length-q<=j/\j<T.length then some (intO (cP T q j))else none).isSome=true
  rw[if_pos hj];rfl
 refine ybd (σ:=Nat) (fun q=>⟨[(9,.i .i64 ((T.length:Int)-1-(q:Nat))),(8,.i .i64 (ppT T q:Nat)),(7,.pt (21,0) 0 0)],[bo,(28,.one (some ⟨22,false,1,T.length,rowQ q⟩)),fm q]⟩) (fun q=>q<=T.length) (fun q=>T.length-q) 0 (zL _) ?_ ?_
 .refine yh [] [] [] ?_;simp only[bo,fm,rowQ,usV,yey,yu,yckk,allQ,live,yc,yx,zO,go_sem,zA,zC,↓reduceIte,reduceCtorEq];refine⟨fun _ _ _ _ e=>e,⟨by omega,rfl⟩,fun j hj=>?_,fun j b hb=>?_⟩
  .rw[if_neg (by omega)];exact yie rfl
  .rw[if_neg (by omega)]at hb;cases hb
 .intro q hq
  by_cases hlt:q<T.length
  .obtain⟨v,hv⟩:∃v,T.length-1-q=v:=⟨_,rfl⟩;have hvn:v<T.length:=by omega
   have hvi:(T.length:Int)-1-(q:Nat)=(v:Int):=by omega
   have d1:decide ((v:Int)>=0)=true:=by simp
   obtain⟨hr,hb⟩:=hT.at_ hvn;have hpS:=yblq hlt hv.symm;have hcS:=ydjs hlt hv.symm;have hpl:=ydul hT.bd hlt hv.symm;obtain⟨pq,hpq⟩:∃pq,ppT T q=pq:=⟨_,rfl⟩;obtain⟨bs,hbs⟩:∃bs,T.getD v []=bs:=⟨_,rfl⟩;rw[hbs,hpq]at hpS hcS hpl;rw[hbs]at hr hb;have hnv:¬T.length-q<=v:=by omega
   simp only[ydje,ydoo,ydvs,if_neg hnv,bo,fm,rowQ,usV,yey,yu,yw,hvi,d1,hbs,hpq,splice,clash,go_sem,zA,zB,zF,zC,↓reduceIte,reduceCtorEq]
   repeat refine zD (by first|omega|decide|exact ikw (by omega) (by omega)) ?_
   have hlq:∀(O:Own) (j:Nat),T.length-q<=j/\j<T.length->look O 303=some (fm q).2->Sh.live O (303,j)=true:=fun O j=>hlv O q j;refine ybd (σ:=Nat) (fun x=>⟨[(10,.i .i64 ((bs.length:Int)-1-(x:Nat))),(9,.i .i64 (v:Nat)),(8,.i .i64 (pP bs pq x:Nat)),(7,.pt (21,0) 0 0)],[bo,(28,.one (some ⟨22,false,1,T.length,fun j=>if j=v then[.os (54,0) 0 bs.length true]else rowQ q j⟩)),(54,.one (some ⟨3,false,1,bs.length,fun t=>[.i .i64 (rowP bs pq x t)]⟩)),fm q]⟩) (fun x=>x<=bs.length) (fun x=>bs.length-x) 0 (zL _) ?_ ?_
   .refine yh [] [] [] ?_;simp only[bo,fm,rowQ,usV,yey,yu,yw,ydgb,allQ,live,yc,yx,zO,go_sem,zA,zC,↓reduceIte,reduceCtorEq];refine⟨fun _ _ _ _ e=>e,by omega,fun j hj=>?_,fun t ht=>by rw[yccm bs pq ht],fun j b hb=>?_⟩
    .by_cases e:j=v
     .simp only[if_pos e];exact yfr rfl rfl
     .by_cases w:T.length-q<=j
      .simp only[if_neg e,if_pos w];exact yfr (hlq _ j ⟨w,hj⟩ rfl) rfl
      .simp only[if_neg e,if_neg w];exact yie rfl
    .by_cases w:T.length-q<=j/\j<T.length
     .rw[if_pos w]at hb;cases hb
      exact⟨_,if_pos w,ycg (ycj _)⟩
     .rw[if_neg w]at hb;cases hb
   .intro x hx
    by_cases hlt2:x<bs.length
    .obtain⟨i,hi⟩:∃i,bs.length-1-x=i:=⟨_,rfl⟩;have hin:i<bs.length:=by omega
     have hii:(bs.length:Int)-1-(x:Nat)=(i:Int):=by omega
     have d2:decide ((i:Int)>=0)=true:=by simp
     have hs1:=yddm (p:=pq) hlt2 hi.symm;have hs2:=rowP_step (p:=pq) hlt2 hi.symm;have hl1:=hpl x;have hl2:=hpl (x+1);obtain⟨b1,b2,b3⟩:=hb i hin;obtain⟨⟨lo,hi'⟩,hbe⟩:∃b,bs.getD i (0,0)=b:=⟨_,rfl⟩;rw[hbe]at b1 b2 b3 hs1;simp only at b1 b2 b3;have hsz:=(yot (b:=(lo,hi')) b1).2;simp only at hsz;have hm:((pP bs pq x:Nat):Int)*(hi'-lo+1)=((pP bs pq (x+1):Nat):Int):=by rw[hs1,zBG,hsz]
     simp only[ydhi,ycuy,ydal,ycvp,bo,fm,rowQ,usV,yey,yu,yw,hii,d2,hbs,hbe,hm,splice,clash,go_sem,zM,zA,zB,zF,zQ,↓reduceIte,reduceCtorEq]
     repeat refine zD (by first|omega|decide|exact ikw (by omega) (by omega)) ?_
     refine yj (x+1) hlt2 (by omega) ?_
     refine yh [] [] [] ?_;simp only[allQ,live,yc,yx,go_sem,zA,zC,↓reduceIte,reduceCtorEq];refine⟨fun _ _ _ _ e=>e,by omega,fun j hj=>?_,fun t ht=>yfi ?_,fun j b hb=>?_⟩
     .by_cases e:j=v
      .simp only[if_pos e];exact yfr rfl rfl
      .by_cases w:T.length-q<=j
       .simp only[if_neg e,if_pos w];exact yfr (hlq _ j ⟨w,hj⟩ rfl) rfl
       .simp only[if_neg e,if_neg w];exact yie rfl
     .rw[hs2]
      by_cases e:t=i
      .rw[if_pos e,if_pos e]
      .rw[if_neg e,if_neg e]
     .by_cases w:T.length-q<=j/\j<T.length
      .rw[if_pos w]at hb;cases hb
       exact⟨_,if_pos w,ycg (ycj _)⟩
      .rw[if_neg w]at hb;cases hb
    .obtain rfl:x=bs.length:=by omega
     have hii:(bs.length:Int)-1-(bs.length:Nat) = -1:=by omega
     simp only[ydhi,ydrf,bo,fm,rowQ,usV,yey,yu,yw,hii,clash,zBJ,zBN,go_sem,zA,zB,↓reduceIte,reduceCtorEq]
     repeat refine zD (by first|omega|decide|exact ikw (by omega) (by omega)) ?_
     refine yj (q+1) hlt (by omega) ?_
     refine yh [(303,fun j=>if j=v then(54,0)else(303,j))] [] [] ?_
     simp only[ydqz,hpS,allQ,live,yc,yx,go_sem,zA,zC,↓reduceIte,reduceCtorEq];refine⟨?_,by omega,fun j hj=>?_,fun j b hb=>?_⟩
     .repeat' apply zD
      all_goals first|exact fun i _=>ybam (by decide) (by decide)|exact fun i _=>yqn (by decide) (by decide)|exact fun i _ j _=>ywc (by decide)
     .by_cases e:j=v
      .have e2:T.length-(q+1)<=j:=by omega
       simp only[if_pos e,if_pos e2];exact yfr (hlv _ (q+1) j ⟨e2,hj⟩ rfl) (by subst e;simp only[hbs,go_sem,↓reduceIte])
      .by_cases w:T.length-q<=j
       .have e2:T.length-(q+1)<=j:=by omega
        simp only[if_neg e,if_pos w,if_pos e2];exact yfr (hlv _ (q+1) j ⟨e2,hj⟩ rfl) (by simp only[e,go_sem,↓reduceIte])
       .have e2:¬T.length-(q+1)<=j:=by omega
        simp only[if_neg e,if_neg w,if_neg e2];exact yie rfl
     .by_cases w:T.length-(q+1)<=j/\j<T.length
      .rw[if_pos w]at hb;cases hb
       by_cases e:j=v
       .subst e;simp only[go_sem,zA,↓reduceIte];have hcj:=hcS j;rw[if_pos rfl]at hcj;rw[hcj];refine ycg (l:=(plR bs pq).1) (c:=⟨3,false,1,bs.length,fun t=>[SV.i .i64 (rowP bs pq bs.length t)]⟩) ⟨⟨rfl,rfl,rfl,(ybiw bs pq).symm⟩,fun t ht=>?_⟩;show[SV.i .i64 (rowP bs pq bs.length t)]=_;rw[ycfn]
       .have hcj:=hcS j;rw[if_neg e]at hcj;rw[hcj];have w2:T.length-q<=j/\j<T.length:=⟨by omega,w.2⟩
        simp only[e,go_sem,zA,↓reduceIte];exact⟨_,if_pos w2,ycg (ycj _)⟩
      .rw[if_neg w]at hb;cases hb
  .obtain rfl:q=T.length:=by omega
   have hvi:(T.length:Int)-1-(T.length:Nat) = -1:=by omega
   simp only[ydje,ycvj,bo,fm,rowQ,usV,yey,yu,yw,hvi,clash,zBJ,zBN,go_sem,zA,zB,zF,↓reduceIte,reduceCtorEq];have hn0:∀j,T.length-T.length<=j:=fun j=>by omega
   have hcl:∀j,cP T T.length j=(yeh T).getD j []:=fun j=>ydrk T j;have hpl:(yeh T).length=T.length:=yzy T 1;have hrl:∀j,j<T.length->((yeh T).getD j []).length=(T.getD j []).length:=fun j hj=>yuo hj;refine⟨fun j hj=>?_,ycvg ⟨Sim.refl _,Sim.refl _,Sim.refl _,Sim.refl _,?_,trivial⟩ rfl⟩
   .simp only[if_pos (hn0 j)];have w:T.length-T.length<=j/\j<T.length:=⟨hn0 j,hj⟩;simp only[if_pos w,intO,hcl,hrl j hj,go_sem,zA,↓reduceIte]
   .unfold ycn ybc;rw[hpl];refine ydp fun j hj=>?_;simp only[if_pos (hn0 j)];have w:T.length-T.length<=j/\j<T.length:=⟨hn0 j,hj⟩;simp only[if_pos w,intO,hcl,hrl j hj,SimL,go_sem,zA,↓reduceIte];exact Sim.refl _
end
end Sh
end
end Go.Proofs.YthclbjjgfcgbgaaGreatDoor
