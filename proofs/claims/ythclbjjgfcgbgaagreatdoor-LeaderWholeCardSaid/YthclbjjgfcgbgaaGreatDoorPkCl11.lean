/- Joined. -/
import Derived.Test.YthclbjjgfcgbgaaGreatDoorPkCl10
set_option linter.unusedSimpArgs false
set_option linter.unusedVariables false
set_option maxRecDepth 8000
open Nat renaming reduceEqDiff->zA,reduceAdd->zB,reduceLT->zC,reduceLeDiff->zD,zero_le->zG
open Int renaming lt_irrefl->zF,reduceBNe->zH
open Go.Proofs.Tryz renaming prog->zI
open Go
namespace Go.Proofs.YthclbjjgfcgbgaaGreatDoor
section
namespace Sh
open Ev Go.RowKit
set_option maxHeartbeats 16000000 in
theorem ybkp{x:NetR}(hx:x.ok):Returns zI 5 [.ag (netC x)] (.b true):=by
 refine Returns.of (yehr _ _ ?_)
 have b0:({ x with ids:=[] }:NetR).ok:=⟨hx.1,hx.2.1,hx.2.2.1,fun k=>by
  show inK .i64 (([]:List Int).getD k 0);rw[show([]:List Int).getD k 0=0 from by simp]
  exact ikw (by omega) (by omega)⟩
 have hS:SimL [.ag [.i .i64 x.n,ybc x.links,ybc x.weights,.a (.slice none 0 0),.b x.apart,.b x.back],.i .i64 (2:Nat)] [.ag (netC { x with ids:=[] }),.i .i64 (2:Nat)]:=⟨ybgs ⟨Sim.refl _,Sim.refl _,Sim.refl _,ybee,Sim.refl _,Sim.refl _,trivial⟩,Sim.refl _,trivial⟩;have hC:=(ycjp b0 (most:=2) (by omega)).simL hS
 simp only[c5,c5_0,c5_1,c5_2,netC,clash,go_sem,zA,zB,zD,zC];refine hC.found (V:=grV) (fun r g h=>h.2.2.2) fun r g h=>?_;obtain⟨hT,hit,⟨a9,-,T⟩,-⟩:=h;have w:=hT.good;have z:=hT.conn;have hI:=ycpy w;have b5:=w.2.2.1;have K:Checked (Lies LqB Lqv) (Lies LqC Lqr) LqP g:=⟨w,ydrm,ybos w,ycpn⟩;have L:=ybnf hI z
 have a7:0<=eccP g (ybt g.ids):=by
  have b4:=ylk w;have h1:=yxs w z (a:=ybt g.ids) (by omega)
  have X:ybt g.ids<(ybx g (ybt g.ids)).length:=by rw[yhm w (by omega)];omega
  rw[ydfp w z,<-h1,ylj X];exact ytq _ _ (List.getElem_mem X)
 have c:WLaw LqP g (fun _=>true) (fun _=>True) (ycb g) _ ((g.ids.length:Int)+eccP g (ybt g.ids)).toNat (fun _=>True):=ydjf w z (T rfl) a7 a9;have b1:2^g.ids.length<=2^4:=Nat.pow_le_pow_right (by omega) c.n4
 have H:∀e s,e<2^g.ids.length->s≠0->s<16->s&&&e=s->Returns zI 171 [usV (g.ports.map netP),.i .i64 3,.i .u32 (e:Nat),.i .u32 (s:Nat)] (.b true):=fun e s he h0 hs h=>ybim _ (by omega) h0 (by omega) (ybqb h)
 have b2:(((g.ids.length:Int)+eccP g (ybt g.ids)).toNat:Int)=(g.ids.length:Int)+eccP g (ybt g.ids):=by omega
 have Q:g.ids.length<=24:=by have:=w.2.1;have:=w.2.2.1;omega
 have a4:=ycap;have a2:=ybvu;have hB:=yceq K c.tab (kind:=3) (.inr rfl) c.n4 (perm:=(fun _=>true)) H c.tot;have W:=fun k (hk:k<ybm (tabP LqP g))=>ybvi K c.tab (k0:=k) hk;have G:=fun k=>ybtm hI (ycoz (ybrn w ydrm (c.conf k))) (by have:=(yea w (c.conf k)).len;omega)
 have t:=ycni c.ok c.free;have p:=ybwg c.ok (lg:=fun k=>ycb g (cfP LqP g k)) fun k _ X=>c.rest k X;have v:=ycey c.ok c.free Q (fun k _=>yzx _ _ _) c.big c.rdB;have u:=ycsi c.ok c.free c.mvB;have P:=fun k x=>c.ybyo (k:=k) (x:=x);have M:=fun k x=>c.ycoi (k:=k) (x:=x);have D:0<ybm (tabP LqP g):=c.ok.pos;have a8:ybm (tabP LqP g)<=32768:=c.ok.le;have hN:(spcP (fun _=>true) LqP g).N=ybm (tabP LqP g):=rfl
 have a6:∀k,(unT (tabP LqP g) k).1=cfP LqP g k:=fun _=>rfl;obtain⟨lg,R⟩:∃lg:Nat->Bool,(fun k=>ycb g (cfP LqP g k))=lg:=⟨_,rfl⟩;have S:∀k,ycb g (cfP LqP g k)=lg k:=fun k=>by rw[<-R]
 simp only[a6]at W;simp only[S]at G;rw[R]at t p v u;rw[hN]at t p v u;obtain⟨N,O⟩:∃N,ybm (tabP LqP g)=N:=⟨_,rfl⟩;rw[O]at W t p v u D a8;obtain⟨E,a0⟩:∃E:Nat->SV,(fun k=>SV.i .u32 ((spcP (fun _=>true) LqP g).en k:Nat))=E:=⟨_,rfl⟩;obtain⟨A,Z⟩:∃A:Nat->SV,(fun k=>ybl ((spcP (fun _=>true) LqP g).arcs k))=A:=⟨_,rfl⟩;have a3:spcC (spcP (fun _=>true) LqP g)=[.sl 1 N fun k=>[E k],.sl 1 N fun k=>[A k]]:=by rw[<-O,<-a0,<-Z];rfl
 rw[a3]at hB t p v u;simp only[grV,ygc,ybd]at hB W G t p v u L;simp only[ybk,c5_3,grV,clash,go_sem,zA,zB,zC];refine a4.use ?_;simp only[go_sem];refine a2.use ?_;simp only[ybk,c5_4,ygc,clash,go_sem,zA,zB,zC];refine L.use ?_;simp only[ybk,c5_5,ydhn,clash,go_sem,zA,zB,zD,zC];refine hB.use ?_;simp only[go_sem,zA,zB]
 repeat refine ybe ?_
 have d0:((N:Int)==0)=false:=by rw[beq_eq_false_iff_ne];omega
 simp only[c5_6,c5_8,c5_9,d0,zH,clash,go_sem,zA,zB]
 let d:Own:=[(6,.one (some ⟨41,true,2,1,fun _=>[.sl 1 N fun k=>[E k],.sl 1 N fun k=>[A k]]⟩)),(5,.one (some ⟨36,true,5,1,fun _=>[.i .i64 3,.b false,.b true,.i .i64 ((g.ids.length:Int)+eccP g (ybt g.ids)),.i .i64 (-1)]⟩)),
  (4,.one (some ⟨32,true,3,1,fun _=>[.a (.string LqP.raw.name),.ex (Lies LqB Lqv) (yfp LqP.raw.vars),.ex (Lies LqC Lqr) (ydr LqP.raw.rules)]⟩)),(3,.one (some ⟨27,true,2,1,fun _=>[ybc g.ids,yw g.ports]⟩))]
 let l:List (Nat×SV):=[(6,.pt (6,0) 0 0),(5,.pt (5,0) 0 0),(4,.pt (4,0) 0 0),(3,.pt (3,0) 0 0)]
 obtain⟨Y,y,F⟩:∃Y:Nat->SS,(∀k,k<N->Y k=⟨(9,.i .i64 k)::(8,.os (70,0) 0 k true)::l,(70,.one (some ⟨4,false,1,k,fun i=>[.b (lg i)]⟩))::d⟩)/\Y N=⟨(9,.i .i64 N)::(8,.sl 1 N fun i=>[.b (lg i)])::l,d⟩ :=
  ⟨fun k=>if k<N then⟨(9,.i .i64 k)::(8,.os (70,0) 0 k true)::l,(70,.one (some ⟨4,false,1,k,fun i=>[.b (lg i)]⟩))::d⟩else⟨(9,.i .i64 N)::(8,.sl 1 N fun i=>[.b (lg i)])::l,d⟩,fun k hk=>if_pos hk,if_neg (Nat.lt_irrefl _)⟩
 refine ybf (σ:=Nat) Y (fun k=>k<=N) (fun k=>N-k) 0 (zG _) ?_ ?_
 .rw[y 0 D];refine yby [] [70] [] ?_;simp only[l,d,wk,go_sem,zA,zC,Nat.reduceBEq];exact⟨(70,0),rfl,rfl,rfl⟩
 .intro k hk
  by_cases B:k<N
  .have d1:=dec_lt B;have a5:=W k B;have a1:=G k;rw[y k B];simp only[ydja,yefh,l,d,d1,clash,go_sem,zA,zB];refine a5.use ?_;simp only[ybk,ydvw,ydrv,splice,clash,zH,go_sem,zA,zB,zC];refine a1.use ?_;simp only[ydtq,clash,go_sem,zA,zB,zD]
   repeat refine ybe ?_
   refine yj (k+1) B (by omega) ?_
   have I:∀i,i<k+1->(if i<k then[SV.b (lg i)]else List.take 1 (List.drop ((i-k)*1) [SV.b (lg k)]))=[SV.b (lg i)]:=fun i J=>by
    by_cases q:i<k
    .rw[if_pos q]
    .obtain rfl:i=k:=by omega
     rw[if_neg q,Nat.sub_self];rfl
   by_cases U:k+1<N
   .rw[y (k+1) U];refine yby [(70,fun i=>(66,i))] [] [] ?_;simp only[l,d,wk,go_sem,zA,zC];exact⟨by omega,fun i J=>ycke (I i J)⟩
   .obtain rfl:k+1=N:=by omega
    rw[F];refine yby [] [] [(66,0)] ?_;simp only[l,d,wk,go_sem,zA,zD,zC];exact⟨fun i J=>by rw[I i J];rfl,by omega,yeb fun i J=>by rw[I i J];exact⟨⟨Sim.refl _,trivial⟩,rfl⟩⟩
  .obtain rfl:k=N:=by omega
   rw[F];simp only[ydja,ydug,l,d,zF,clash,go_sem,zA,zB];refine t.use ?_;simp only[ybk,yeez,clash,go_sem,zA,zB];refine p.use ?_;simp only[yedg,yeaz,clash,bne_self_eq_false,go_sem,zA,zB];refine ybf (σ:=Nat) (fun j=>⟨(16,.i .i64 j)::(12,.sl 1 k fun _=>[.b false])::(8,.sl 1 k fun i=>[.b (lg i)])::l,d⟩) (fun j=>j<=k) (fun j=>k-j) 0 (zG _) ?_ ?_
   .refine yx ?_;simp only[l,d,wk,go_sem,zA,zC]
   .intro j hj
    by_cases C:j<k
    .have d2:=dec_lt C;simp only[ydkg,yegn,ydvx,l,d,d2,clash,go_sem,zA,zB]
     repeat refine ybe ?_
     refine yj (j+1) C (by omega) ?_
     refine yx ?_;simp only[wk,go_sem,zA,zC];omega
    .obtain rfl:j=k:=by omega
     simp only[ydkg,ydwn,l,d,zF,clash,go_sem,zA,zB];refine v.found (V:=fun f=>.tp [.sl 1 j fun q=>[.i .i64 (f q:Nat)],.i .i64 0]) (fun r f h=>h.1) fun r f h=>?_;obtain⟨-,hf⟩:=h;simp only[ybk,ydzv,clash,go_sem,zA,zB];refine u.found (V:=fun f=>.tp [.sl 1 j fun q=>[.i .i64 (f q:Nat)],.i .i64 0]) (fun r f h=>h.1) fun r m h=>?_;obtain⟨-,hm,b3⟩:=h;simp only[yech,ydss,clash,bne_self_eq_false,go_sem,zA,zB]
     refine ybf (σ:=Nat) (fun q=>⟨(21,.i .i64 q)::(19,.sl 1 j fun q=>[.i .i64 (m q:Nat)])::(17,.sl 1 j fun q=>[.i .i64 (f q:Nat)])::l,d⟩) (fun q=>q<=j) (fun q=>j-q) 0 (zG _) ?_ ?_
     .refine yx ?_;simp only[l,d,wk,go_sem,zA,zC]
     .intro q hq
      by_cases o:q<j
      .have d3:=dec_lt o;have r1:=P q (f q) (hf q o);have m1:=M q (m q) (hm q o);have r2:decide (((f q:Nat):Int)>((g.ids.length:Int)+eccP g (ybt g.ids)))=false:=decide_eq_false (by omega)
       simp only[ydnd,yedt,l,d,d3,r2,ge_iff_le,Int.reduceLE,Int.reduceNeg,clash,go_sem,zA,zB,zD]
       repeat refine ybe ?_
       simp only[clash,go_sem,zA,zB]
       repeat refine ybe ?_
       refine yj (q+1) o (by omega) ?_
       refine yx ?_;simp only[wk,go_sem,zA,zC];omega
      .obtain rfl:q=j:=by omega
       have hK:=ybmb;simp only[ydnd,yees,l,d,zF,clash,go_sem,zA,zB];refine hK.use ?_;simp only[ybk,clash,go_sem,zB];exact Sim.refl _
end Sh
end
end Go.Proofs.YthclbjjgfcgbgaaGreatDoor
