/- Joined. -/
import Derived.Test.YtiejahgklcjhkaaGreatDoorPkU13
set_option linter.unusedSimpArgs false
set_option linter.unusedVariables false
set_option maxRecDepth 8000
open Nat renaming reduceEqDiff→zA,reduceLeDiff→zB,reduceAdd→zD,reduceBEq→zF,reduceBNe→zG,reduceMul→zH,reduceLT→zI,and_two_pow_sub_one_of_lt_two_pow→zT,zero_mul→zU,pow_le_pow_right→zY,sub_self→zAB,pow_lt_pow_right→zAH,zero_le→zAJ,testBit_two_pow_sub_one→zAK,lt_of_lt_of_le→zAL,shiftRight_eq_div_pow→zAM,testBit_lt_two_pow→zAP,lt_of_le_of_lt→zAT,div_le_self→zAV,lt_irrefl→zAX,and_zero→zAZ,le_refl→zBB,mod_lt→zBC
open Int renaming reduceToNat→zC,natCast_zero→zJ,reduceBNe→zS,toNat_natCast→zX,emod_lt_of_pos→zAC,reduceBEq→zAE,emod_nonneg→zAI,ofNat_tmod→zAW
open Option renaming getD_none→zK,getD_some→zL,getD→zM
open Go.Proofs.Tryz renaming prog→zN
open Bool renaming and_eq_true→zO
open BitVec renaming ofInt→zQ
open List renaming getElem?_eq_getElem→zV,getD→zW,getD_cons_zero→zZ,length_append→zAA,range→zAD,getElem_mem→zAF,getElem?_eq_none→zAG,getElem?_append_left→zAN,length_map→zAO,range_succ_eq_map→zAQ,mem_cons_of_mem→zAR,getElem_of_mem→zAS,mem_cons_self→zAU,map_cons→zAY,map_map→zBA
open Go
namespace Go.Proofs.YtiejahgklcjhkaaGreatDoor
section
namespace Sh
open Go Ev Go.RowKit
theorem ybrf{g:Gr}(hg:ybb g){x:VarR}(hx:x.ok=true)(v:Nat):-4096<=(ybh g v x).1/\(ybh g v x).2<=100000:=by
 obtain⟨h1,h2,h3,h4,h5⟩:=ybax hx;obtain⟨h6,h7⟩:=ylo hg hx;have h8:=hg.deg_lt (v:=v);unfold ybh;split
 ·exact⟨by simp only[];omega,by simp only[];omega⟩
 ·split
  ·exact⟨by simp only[];omega,by simp only[];omega⟩
  ·split
   ·exact⟨by simp only[];omega,by simp only[];omega⟩
   ·exact⟨by simp only[];omega,by simp only[];omega⟩
theorem yky{p:ProgT}{g:Gr}(hg:ybb g)(hp:p.ok=true){c:Conf}(hc:yhb p g c=true):ConfIn g.ports.length p.vars.length c:=by
 have h:=(ydu _ _ _).1 hc;have hp':=hp;unfold ProgT.ok at hp';simp only[zO,decide_eq_true_eq]at hp';refine⟨h.1.trans hg.2.2.1,fun s hs=>?_⟩;obtain⟨v,hv,rfl⟩:=zAS hs;have h2:=h.2 v _ (zV hv);have hl:(c[v]).length=p.vars.length:=by have:=h2.1;simpa using this
 refine⟨hl,fun x hx=>?_⟩;obtain⟨i,hi,rfl⟩:=zAS hx;have hi':i<p.vars.length:=by omega
 have h3:=h2.2 i (ybh g v p.vars[i]) _ (by simp[hi']) (zV hi)
 have h4:=ybrf hg (List.all_eq_true.1 hp'.1.1.2 _ (zAF hi')) v;unfold InB;omega
structure Checked(Q1 Q2:(Nat->Option ABlk)->Value->Prop)(p:ProgT)(g:Gr):Prop where
 hg:ybb g
 hp:p.ok=true
 hf:yvt p g=true
 hV:Returns zN 191 [.ag (yff Q1 Q2 p.raw)] (.b true)
theorem Checked.gv{Q1 Q2:(Nat->Option ABlk)->Value->Prop}{p:ProgT}{g:Gr}(h:Checked Q1 Q2 p g):Returns zN 96 [grV g] (.b true):=by
 have e:=yss (ycre h.hg);rw[(yhe g).2 h.hg]at e;exact e
section
variable {Q1 Q2:(Nat->Option ABlk)->Value->Prop}{p:ProgT}{g:Gr}
theorem ybth(h:Checked Q1 Q2 p g)(c:Conf):Returns zN 112 [.ag (yff Q1 Q2 p.raw),grV g,ybj c] (.i .i64 (if yhb p g c then 0 else 10)):=by
 refine Returns.of (ycvr _ _ ?_);have hp':=h.hp;unfold ProgT.ok at hp';simp only[zO,decide_eq_true_eq]at hp';have hid:=h.hg.2.2.1;have h24:=h.hg.2.1;have hF:=ybvv p h.hg h.hp h.hf h.hV h.gv;have hT:=yww p.raw h.hg hp'.1.1.2 hp'.1.1.1.2;have hW:=ybhr (n:=g.ids.length) p.vars (by omega) (ybh g) c (by omega)
 simp only[yff,grV]at hF hT;simp only[c112,ycph,ycmo,yff,grV,go_sem,zC,zA,zD,zB,zI,zF,zG,zH,↓reduceIte,reduceCtorEq];refine hF.use ?_;simp only[ybf,ycdl,ycct,ycpj,go_sem,zC,zA,zD,zB,zI,zF,zG,zH,↓reduceIte,reduceCtorEq];refine⟨fun h=>absurd rfl h,hT.useS ?_ ?_⟩
 ·exact⟨ysx ⟨Sim.refl _,ypr _ _,ypr _ _,trivial⟩,Sim.refl _,trivial⟩
 simp only[yie]at hW ⊢;simp only[go_sem,↓reduceIte];refine hW.use ?_;simp only[go_sem];have hcf:∀b,yoo g.ids.length (fun v=>p.vars.map (ybh g v)) c=b->yhb p g c=b:=fun b h=>h;refine⟨fun h1=>?_,fun h1=>?_⟩
 ·simp only[ycec,hcf _ h1,yu,go_sem,zC,zA,zD,zB,zI,zF,zG,zH,↓reduceIte,reduceCtorEq]
 ·simp only[ycke,hcf _ h1,yu,go_sem,zC,zA,zD,zB,zI,zF,zG,zH,↓reduceIte,reduceCtorEq]
theorem ybhp(k:Int):Returns zN 108 [.i .i64 k] (.b (decide (1<=k)&&decide (k<=4))):=by
 refine Returns.of (yctt _ _ ?_);simp only[c108,ycdf,ycbz,ybi,go_sem,zC,zA,zD,zB,zI,zF,zG,zH,↓reduceIte,reduceCtorEq]
 by_cases h:k>=1<;>simp[h]
end
end Sh
end
section
theorem ylf(s a:Nat):∀b,yfd s (a+b)=yfd s a+yfd (s>>>a) b
 |0=>rfl
 | b+1=>by
   show yfd s (a+b)+(s.testBit (a+b)).toNat=_;rw[ylf s a b];show _=yfd s a+(yfd (s>>>a) b+((s>>>a).testBit b).toNat);rw[Nat.testBit_shiftRight];omega
theorem ymf(s:Nat):∀b,b<=8->yfd (s&&&255) b=yfd s b
 |0,_=>rfl
 | b+1,h=>by
   show yfd _ b+_=yfd s b+_;rw[ymf s b (by omega),Nat.testBit_and,show(255:Nat)=2^8-1 from rfl,zAK]
   simp[show b<8 by omega]
theorem ybkn(s:Nat):popP s=yfd (s>>>24&&&255) 8+yfd (s>>>16&&&255) 8+yfd (s>>>8&&&255) 8+yfd (s&&&255) 8:=by
 simp only[ymf _ 8 (zBB _)];have h1:=ylf s 8 24;have h2:=ylf (s>>>8) 8 16;have h3:=ylf (s>>>8>>>8) 8 8;simp only[<-Nat.shiftRight_add,zD]at h1 h2 h3;unfold popP;omega
namespace Sh
open Ev Go.RowKit
theorem yuy:∀k,k<256->ysn.getD k 0=yfd k 8:=by decide
theorem ycuq:ysn.length=256:=by decide
theorem ycui(a v:Nat):(a:Int).fdiv (2^v)=((a>>>v:Nat):Int):=by
 have h:=ybnr (a:=a) (v:=v)
 rwa [zX]at h
theorem ycbh{a:Nat}(ha:a<2^32):IntKind.wrap .u32 (((zQ (IntKind.bits .u32) (a:Int))&&&zQ (IntKind.bits .u32) 255).toNat:Int)=((a&&&255:Nat):Int):=u32_and (b:=255) ha (by decide)
theorem ydcw{a n:Nat}(h:a<2^32):a>>>n<2^32:=by rw[zAM];exact zAT (zAV _ _) h
theorem ybzp{s:Nat}(hs:s<2^32):Returns zN 104 [.i .u32 s] (.i .i64 (popP s)):=by
 refine Returns.of (ycvl _ _ ?_);simp only[c104,ycdb,ycht,clash,go_sem,zC,zA,zD,zB,zI,zF,zG,zH,↓reduceIte,reduceCtorEq];have f1:=ycbh hs;have f2:=fun n=>ycbh (ydcw (n:=n) hs);simp only[IntKind.bits]at f1 f2;simp only[ycui,f1,f2,zX,ycuq];have hp:=ybkn s;have l1:s>>>24<256:=by rw[zAM];omega
 have b1:∀x:Nat,x&&&255<256:=fun x=>zAT Nat.and_le_right (by omega)
 rw[ymf (s>>>24) 8 (zBB _)]at hp;rw[yuy _ l1,yuy _ (b1 (s>>>16)),yuy _ (b1 (s>>>8)),yuy _ (b1 s)];have q1:=yiz (s>>>24) 8;have q2:=yiz (s>>>16&&&255) 8;have q3:=yiz (s>>>8&&&255) 8;have q4:=yiz (s&&&255) 8;have w1:=b1 (s>>>16);have w2:=b1 (s>>>8);have w3:=b1 s;have u8k:∀x:Int,0<=x->x<=255->inK .u8 x:=fun x h1 h2=>⟨by simpa[IntKind.min,IntKind.signed]using h1,by simpa[IntKind.max,IntKind.bits,IntKind.signed]using h2⟩
 refine⟨⟨by omega,by decide⟩,⟨by omega,by omega⟩,⟨by omega,by decide⟩,by omega,u8k _ (by omega) (by omega),⟨by omega,by decide⟩,by omega,u8k _ (by omega) (by omega),by omega,u8k _ (by omega) (by omega),?_⟩
 rw[wrap_in (ikw (by omega) (by omega)),hp]
 exact Sim.refl _
def cntV(k:Cnt):List SV:=[.i .i64 k.steps,.i .i64 k.moves,.i .i64 k.rounds,.i .i64 k.begun,.i .u32 k.pend]
theorem yble{e:Nat}(he:e<2^24):Returns zN 195 [.i .u32 e] (.ag (cntV (ydg e))):=by
 refine Returns.of (ycvh _ _ ?_);simp only[c195,ycio,yccb,go_sem,zC,zA,zD,zB,zI,zF,zG,zH,↓reduceIte,reduceCtorEq];have e1:e&&&16777215=e:=by rw[show(16777215:Nat)=2^24-1 from rfl,zT he]
 have e2:IntKind.wrap .u32 (((zQ (IntKind.bits .u32) (e:Int))&&&zQ (IntKind.bits .u32) 16777215).toNat:Int)=((e&&&16777215:Nat):Int):=u32_and (b:=16777215) (by omega) (by decide)
 simp only[IntKind.bits]at e2;rw[e2,e1];exact Sim.refl _
def usV(l:List Nat):SV:=.sl 1 l.length (fun k=>[.i .u32 ((l.getD k 0:Nat):Int)])
theorem ydfp{a:Nat}(ha:a<2^24):IntKind.wrap .u32 (((zQ (IntKind.bits .u32) (a:Int)) &&& ~~~zQ (IntKind.bits .u32) 16777215).toNat:Int)=0:=by
 have h:=u32_andNot (a:=a) (b:=16777215) (by omega) (by decide)
 have e:difB a 16777215=0:=by
  rw[yib];intro i;rw[ylb,show(16777215:Nat)=2^24-1 from rfl,zAK]
  by_cases hi:i<24
  ·simp[hi]
  ·rw[zAP (zAL ha (zY (by omega) (by omega)))]
   rfl
 rw[e]at h;exact h
theorem yok(l:List Nat)(hl:l.length<=10)(h:∀k,k<l.length->l.getD k 0<2^24):Returns zN 223 [usV l] (.b true):=by
 refine Returns.of (ycqp _ _ ?_);simp only[c223,yccc,ycft,usV,go_sem,zC,zA,zD,zB,zI,zF,zG,zH,↓reduceIte,reduceCtorEq];refine ybl (σ:=Nat) (fun k=>⟨[(7,.i .i64 k),(6,.i .i64 l.length),(5,usV l)],[]⟩) (fun k=>k<=l.length) (fun k=>l.length-k) 0 (zAJ _) ?_ ?_
 ·refine yh [] [] [] ?_;simp only[usV,allQ,live,zM,zK,zL,yc,yu,ybi,zJ,go_sem,zC,zA,zD,zB,zI,zF,zG,zH,↓reduceIte,reduceCtorEq]
 ·intro k hk;simp only[yces,yckf,yceb,ycop,usV,splice,go_sem,zC,zA,zD,zB,zI,zF,zG,zH,↓reduceIte,reduceCtorEq];refine⟨fun hlt=>?_,fun hlt=>?_⟩
  ·have hk':k<l.length:=by omega
   have e0:=ydfp (h k hk');simp only[IntKind.bits]at e0;rw[e0];refine⟨⟨by omega,by omega⟩,fun h=>absurd rfl h,fun _=>?_⟩
   simp only[ycde,usV,go_sem,zC,zA,zD,zB,zI,zF,zG,zH,↓reduceIte,reduceCtorEq];refine⟨ikw (by omega) (by omega),?_⟩
   refine yj (k+1) (by omega) (by omega) ?_
   refine yh [] [] [] ?_;simp only[usV,allQ,live,zM,zK,zL,yc,yu,ybi,zJ,go_sem,zC,zA,zD,zB,zI,zF,zG,zH,↓reduceIte,reduceCtorEq];omega
  ·simp only[ycjy,ybi,go_sem,zC,zA,zD,zB,zI,zF,zG,zH,↓reduceIte,reduceCtorEq]
theorem ybid{k:Cnt}(hk : k.ok)(hs:k.steps<=4096):Returns zN 222 [.ag (cntV k)] (.b true):=by
 refine Returns.of (ycwb _ _ ?_);obtain⟨h1,h2,h3,h4,h5,h6⟩:=hk
 have hP:=yok [k.pend] (by simp) (fun i hi=>by have:i=0:=by simp at hi;omega
                                               subst this;exact h6)
 have f1:decide ((k.steps:Int)<0)=false:=by simp
 have f2:decide ((k.steps:Int)>4096)=false:=by simp;omega
 have f3:decide ((k.rounds:Int)<0)=false:=by simp
 have f4:decide ((k.rounds:Int)>k.begun)=false:=by simp;omega
 have f5:decide ((k.begun:Int)>k.steps)=false:=by simp;omega
 have f6:decide ((k.begun:Int)>k.rounds+1)=false:=by simp;omega
 have f7:decide ((k.steps:Int)<=k.moves)=true:=by simp;omega
 have f8:decide ((k.moves:Int)<=24*k.steps)=true:=by simp;omega
 simp(maxSteps:=5000000) only [c222,ycfu,ycgh,cntV,f1,f2,f3,f4,f5,go_sem,zC,zA,zD,zB,zI,zF,zG,zH,↓reduceIte,reduceCtorEq];simp only[yccg,f6,go_sem,zC,zA,zD,zB,zI,zF,zG,zH,↓reduceIte,reduceCtorEq];refine⟨ikw (by omega) (by omega),?_⟩
 simp(maxSteps:=5000000) only [yclt,f7,f8,go_sem,zC,zA,zD,zB,zI,zF,zG,zH,↓reduceIte,reduceCtorEq];refine⟨ikw (by omega) (by omega),?_⟩
 refine .inl ⟨fun q hq=>?_,hP.useS ?_ ?_⟩
 ·obtain rfl:q=0:=by omega
  simp only[go_sem,zC,zA,zD,zB,zI,zF,zG,zH,↓reduceIte,reduceCtorEq]
 ·exact⟨yid fun q hq=>by obtain rfl:q=0:=by omega
                         rfl,trivial⟩
 simp only[ybf,ybi,go_sem,zC,zA,zD,zB,zI,zF,zG,zH,↓reduceIte,reduceCtorEq]
theorem ycum{k:Cnt}(hk:k.ok)(hs:k.steps<4096){s e:Nat}(h0:s≠0)(hs24:s<2^24)(he:e<2^24):Returns zN 197 [.ag (cntV k),.i .u32 s,.i .u32 e] (.tp [.ag (cntV (addP k s e)),.i .i64 0]):=by
 refine Returns.of (ycrj _ _ ?_);have hV:=ybid hk (by omega)
 have hO:=ybzp (s:=s) (by omega)
 have hP:=yok [s,e] (by simp) (fun i hi=>by
  have:i=0\/i=1:=by simp at hi;omega
  rcases this with rfl|rfl
  ·exact hs24
  ·exact he)
 obtain⟨h1,h2,h3,h4,h5,h6⟩:=hk;simp only[cntV]at hV;simp only[c197,ycjd,ycqe,cntV,go_sem,zC,zA,zD,zB,zI,zF,zG,zH,↓reduceIte,reduceCtorEq];refine hV.use ?_;have z0:((s:Int)==0)=false:=by simp;omega
 simp only[ybf,ycoz,z0,go_sem,zC,zA,zD,zB,zI,zF,zG,zH,↓reduceIte,reduceCtorEq];refine .inl ⟨fun q hq=>?_,hP.useS ?_ ?_⟩
 ·have:q=0\/q=1:=by omega
  rcases this with rfl|rfl
  ·simp only[go_sem,zC,zA,zD,zB,zI,zF,zG,zH,↓reduceIte,reduceCtorEq]
  ·simp only[go_sem,zC,zA,zD,zB,zI,zF,zG,zH,↓reduceIte,reduceCtorEq]
 ·exact⟨yid fun q hq=>by
   have:q=0\/q=1:=by omega
   rcases this with rfl|rfl<;>rfl,trivial⟩
 have z1:((k.steps:Int)==4096)=false:=by simp;omega
 simp only[ybf,ycfw,ychd,z1,go_sem,zC,zA,zD,zB,zI,zF,zG,zH,↓reduceIte,reduceCtorEq];refine⟨ikw (by omega) (by omega),?_⟩
 simp only[ycdi,clash,go_sem,zC,zA,zD,zB,zI,zF,zG,zH,↓reduceIte,reduceCtorEq];refine hO.use ?_;have hpop:=ybpk s hs24;have a1:=u32_andNot (a:=k.pend) (b:=s) (by omega) (by omega)
 have hd:difB k.pend s<2^24:=ybcu h6;have a2:=u32_and (a:=difB k.pend s) (b:=e) (by omega) (by omega)
 obtain⟨P,hPe⟩:∃P,difB k.pend s&&&e=P:=⟨_,rfl⟩;rw[hPe]at a2;simp only[IntKind.bits]at a1 a2;simp only[ybf,go_sem,zC,zA,zD,zB,zI,zF,zG,zH,↓reduceIte,reduceCtorEq];refine⟨ikw (by omega) (by omega),?_⟩
 simp only[ycps,ybqe,ybsp,a1,a2,go_sem,zC,zA,zD,zB,zI,zF,zG,zH,↓reduceIte,reduceCtorEq];refine⟨by decide,ikw (by omega) (by omega),fun hP0=>?_,fun hP0=>?_⟩
 ·have hP1:P=0:=by omega
  have ea:addP k s e=⟨k.steps+1,k.moves+popP s,k.rounds+1,k.rounds+1,e⟩:=by unfold addP;simp only[hPe,hP1,if_true]
  rw[ea];simp only[ybuq,ybpx,ybcg,go_sem,zC,zA,zD,zB,zI,zF,zG,zH,↓reduceIte,reduceCtorEq];exact Sim.refl _
 ·have hP1:¬P=0:=by omega
  have ea:addP k s e=⟨k.steps+1,k.moves+popP s,k.rounds,k.rounds+1,P⟩:=by unfold addP;simp only[hPe,if_neg hP1]
  rw[ea];simp only[ybcg,go_sem,zC,zA,zD,zB,zI,zF,zG,zH,↓reduceIte,reduceCtorEq];exact Sim.refl _
end Sh
end
section
def netP(ls:List (Int×Int)):Nat:=ls.foldl (fun a l=>a|||2^l.1.toNat) 0
theorem yblw(ls:List (Int×Int))(k:Nat)(h:k<ls.length):netP (ls.take (k+1))=netP (ls.take k)|||2^(ls.getD k (0,0)).1.toNat:=by
 unfold netP;rw[List.take_succ_eq_append_getElem h,List.foldl_append,Sh.getD_at h];rfl
theorem ycub(ls:List (Int×Int))(h:∀l∈ls,l.1<24):netP ls<2^24:=by
 unfold netP
 have:∀(ls:List (Int×Int)) (a:Nat),(∀l∈ls,l.1<24)->a<2^24->ls.foldl (fun a l=>a|||2^l.1.toNat) a<2^24:=by
  intro ls
  induction ls with
  |nil=>intro a _ h;exact h
  | cons l ls ih =>
    intro a hl ha;refine ih _ (fun x hx=>hl x (zAR _ hx)) (Nat.or_lt_two_pow ha ?_);have:=hl l zAU;exact zAH (by omega) (by omega)
 exact this ls 0 h (by decide)
namespace Sh
open Ev Go.RowKit
theorem u32k{a:Nat}(h:a<2^32):inK .u32 (a:Int):=⟨by simp[IntKind.min,IntKind.signed],by simp[IntKind.max,IntKind.bits,IntKind.signed];omega⟩
theorem ycvo{g:Gr}(hg:ybb g):Returns zN 109 [grV g] (.i .u32 (2^g.ids.length-1:Nat)):=by
 refine Returns.of (ycqx _ _ ?_);have h3:=hg.2.2.1;have h4:=hg.2.1;simp only[c109,ycnm,ycjx,grV,yw,go_sem,zC,zA,zD,zB,zI,zF,zG,zH,↓reduceIte,reduceCtorEq];have h5:=ywa (v:=g.ids.length) (by omega)
 rw[zX]at h5;have h6:2^g.ids.length<2^32:=zAH (by omega) (by omega)
 have h7:1<=2^g.ids.length:=Nat.one_le_two_pow;have h8:(((2^g.ids.length:Nat):Int))-1=((2^g.ids.length-1:Nat):Int):=by omega
 rw[h5,h8];refine⟨⟨by omega,by show _<((32:Nat):Int);omega⟩,u32k (by omega),Sim.refl _⟩
theorem ybib{g:Gr}(hg:ybb g):Returns zN 110 [grV g] (usV (g.ports.map netP)):=by
 refine Returns.of (ycwy _ _ ?_);have h3:=hg.2.2.1;have h4:=hg.2.1;simp only[c110,ycbm,ycpv,ycnr,grV,yw,ybe,go_sem,zC,zA,zD,zB,zI,zF,zG,zH,↓reduceIte,reduceCtorEq];refine⟨by omega,?_⟩
 obtain⟨n,hn⟩:∃n,g.ports.length=n:=⟨_,rfl⟩
 let val:Nat->Nat->Nat:=fun k i=>if i<k then netP (g.ports.getD i [])else 0
 refine ybl (σ:=Nat) (fun k=>⟨[(15,.i .i64 k),(14,.i .i64 n),(13,ybe g.ports),(3,.os (11,0) 0 n true)],
  [(11,.one (some ⟨40,false,1,n,fun i=>[.i .u32 (val k i:Nat)]⟩))]⟩) (fun k=>k<=n) (fun k=>n-k) 0 (zAJ _) ?_ ?_
 ·refine yh [] [] [] ?_;simp only[ybe,hn,allQ,live,zM,zK,zL,yc,yu,ybi,zJ,go_sem,zC,zA,zD,zB,zI,zF,zG,zH,↓reduceIte,reduceCtorEq];simp[val]
 ·intro k hk;obtain⟨L,hL⟩:∃L,g.ports.getD k []=L:=⟨_,rfl⟩;simp only[ycld,ycez,ycjk,ybe,ybc,hn,hL,go_sem,zC,zA,zD,zB,zI,zF,zG,zH,↓reduceIte,reduceCtorEq];refine⟨fun hlt=>?_,fun hlt=>?_⟩
  ·have hk':k<n:=by omega
   have hkp:k<g.ports.length:=by omega
   have hlk:∀l∈L,0<=l.1/\l.1<24:=fun l hl=>by
    rw[<-hL,getD_at hkp]at hl;obtain⟨a1,a2,_⟩:=(hg.2.2.2.2.2.1 ⟨k,hkp⟩).1 l hl;exact⟨a1,by omega⟩
   have hdeg:=hg.deg_lt (v:=k);rw[hL]at hdeg;refine⟨by omega,?_⟩
   obtain⟨m,hm⟩:∃m,L.length=m:=⟨_,rfl⟩;rw[hm]
   let val2:Nat->Nat->Nat:=fun j i=>if i<k then netP (g.ports.getD i [])else if i=k then netP (L.take j)else 0
   refine ybl (σ:=Nat) (fun j=>⟨[(22,.i .i64 j),(21,.i .i64 m),(20,ybc L),(4,.i .i64 k),(15,.i .i64 k),(14,.i .i64 n),(13,ybe g.ports),(3,.os (11,0) 0 n true)],
    [(11,.one (some ⟨40,false,1,n,fun i=>[.i .u32 (val2 j i:Nat)]⟩))]⟩) (fun j=>j<=m) (fun j=>m-j) 0 (zAJ _) ?_ ?_
   ·refine yh [] [] [] ?_;simp only[ybe,ybc,hn,hm,allQ,live,zM,zK,zL,yc,yu,ybi,zJ,go_sem,zC,zA,zD,zB,zI,zF,zG,zH,↓reduceIte,reduceCtorEq];intro i hi;simp only[val,val2]
    by_cases q:i<k
    ·rw[if_pos q,if_pos q]
    ·rw[if_neg q,if_neg q]
     by_cases q2:i=k
     ·rw[if_pos q2];rfl
     ·rw[if_neg q2]
   ·intro j hj;obtain⟨l,hl⟩:∃l,L.getD j (0,0)=l:=⟨_,rfl⟩;simp only[ycfv,yckc,ybe,ybc,hn,hm,hl,go_sem,zC,zA,zD,zB,zI,zF,zG,zH,↓reduceIte,reduceCtorEq];refine⟨fun hlj=>⟨by omega,?_⟩,fun hlj=>?_⟩
    ·have hj':j<L.length:=by omega
     have hl2:=hlk l (by rw[<-hl,getD_at hj'];exact zAF _)
     obtain⟨t,ht⟩:∃t:Nat,l.1=t:=⟨l.1.toNat,by omega⟩
     have h24t:t<24:=by omega
     have hval:val2 j k<2^24:=by
      simp only[val2,if_neg (zAX k),if_true];exact ycub _ fun l hl=>(hlk l (List.mem_of_mem_take hl)).2
     have hp:2^t<2^24:=zAH (by omega) h24t
     have hsh:=ywa (v:=t) (by omega)
     have hor:=u32_or (a:=val2 j k) (b:=2^t) (by omega) (by omega)
     rw[zX]at hsh;simp only[IntKind.bits]at hor;simp only[ycls,ht,clash,hsh,hor,go_sem,zC,zA,zD,zB,zI,zF,zG,zH,↓reduceIte,reduceCtorEq];refine⟨by omega,by omega,⟨by omega,by show _<((32:Nat):Int);omega⟩,by omega,by omega,by decide,?_⟩
     simp only[ycck,splice,go_sem,zC,zA,zD,zB,zI,zF,zG,zH,↓reduceIte,reduceCtorEq];refine⟨ikw (by omega) (by omega),?_⟩
     refine yj (j+1) (by omega) (by omega) ?_
     refine yh [] [] [] ?_;simp only[ybe,ybc,hn,hm,splice,allQ,live,zM,zK,zL,yc,yu,ybi,zJ,go_sem,zC,zA,zD,zB,zI,zF,zG,zH,↓reduceIte,reduceCtorEq];refine⟨by omega,fun i hi=>?_⟩
     have hsn:=yblw L j hj';rw[hl,ht,zX]at hsn
     by_cases q:i=k
     ·simp only[if_pos q];subst q;simp only[go_sem,allQ,live,zM,zK,zL,yc,yu,ybi,zJ,go_sem,zC,zA,zD,zB,zI,zF,zG,zH,↓reduceIte,reduceCtorEq];simp only[val2,if_neg (zAX i),if_true,hsn]
     ·simp only[if_neg q];simp only[go_sem,allQ,live,zM,zK,zL,yc,yu,ybi,zJ,go_sem,zC,zA,zD,zB,zI,zF,zG,zH,↓reduceIte,reduceCtorEq];simp only[val2,if_neg q]
    ·obtain rfl:j=m:=by omega
     simp only[ybln,go_sem,zC,zA,zD,zB,zI,zF,zG,zH,↓reduceIte,reduceCtorEq];refine⟨ikw (by omega) (by omega),?_⟩
     refine yj (k+1) (by omega) (by omega) ?_
     refine yh [] [] [] ?_;simp only[ybe,ybc,hn,allQ,live,zM,zK,zL,yc,yu,ybi,zJ,go_sem,zC,zA,zD,zB,zI,zF,zG,zH,↓reduceIte,reduceCtorEq];refine⟨by omega,fun i hi=>?_⟩
     simp only[val,val2]
     by_cases q:i<k
     ·rw[if_pos q,if_pos (by omega)]
     ·rw[if_neg q]
      by_cases q2:i=k
      ·rw[if_pos q2,if_pos (by omega),q2,hL,<-hm,List.take_length]
      ·rw[if_neg q2,if_neg (by omega)]
  ·obtain rfl:k=n:=by omega
   simp only[ybqm,go_sem,zC,zA,zD,zB,zI,zF,zG,zH,↓reduceIte,reduceCtorEq];unfold usV;rw[zAO,hn];refine yid fun i hi=>?_;have hi':i<g.ports.length:=by omega
   simp only[val,if_pos hi];simp[zW,hi']
theorem yzr(net:SV){e:Nat}(he:e<2^24)(h0:e≠0):Returns zN 196 [net,.i .i64 4,.i .u32 e,.i .u32 e] (.b true):=by
 refine Returns.of (ycxb _ _ ?_);have z0:((e:Int)==0)=false:=by simp;omega
 have hd:difB e e=0:=by unfold difB;simp
 have a0:=u32_andNot (a:=e) (b:=e) (by omega) (by omega)
 rw[hd]at a0;simp only[zJ,IntKind.bits]at a0;simp only[c196,yckp,yckh,z0,a0,zAE,zS,go_sem,zC,zA,zD,zB,zI,zF,zG,zH,↓reduceIte,reduceCtorEq];simp only[ycho,ycco,ycfn,ycna,ycnc,ybrj,zAE,zS,ybi,go_sem,zC,zA,zD,zB,zI,zF,zG,zH,↓reduceIte,reduceCtorEq]
theorem yyf(net:SV)(hn:net.cells.all one1=true){e w:Nat}(he:e<2^24)(h0:e≠0)(hw:w<2^32):Returns zN 111 [net,.i .i64 4,.i .u32 e,.i .u32 w] (.i .u32 e):=by
 refine Returns.of (ybob _ _ ?_);have a0:=u32_and (a:=w) (b:=e) (by omega) (by omega)
 have a1:=u32_neg (a:=e) (by omega) (by omega)
 have a2:=u32_and (a:=e) (b:=2^32-e) (by omega) (by omega)
 obtain⟨W,hW⟩:∃W,w&&&e=W:=⟨_,rfl⟩;rw[hW]at a0;simp only[IntKind.bits]at a0 a2;simp only[c111,ybod,ybky,ybsf,a0,hn,go_sem,zC,zA,zD,zB,zI,zF,zG,zH,↓reduceIte,reduceCtorEq];refine⟨fun q=>?_,fun q=>?_⟩
 ·simp only[ybgz,ybem,ybgq,ybfw,yuv,ywn,IntKind.signed,a1,a2,zAE,zS,go_sem,zC,zA,zD,zB,zI,zF,zG,zH,↓reduceIte,reduceCtorEq];exact Sim.refl _
 ·simp only[ybgz,ybem,ybgq,ybfw,yuv,ywn,IntKind.signed,a1,a2,zAE,zS,go_sem,zC,zA,zD,zB,zI,zF,zG,zH,↓reduceIte,reduceCtorEq];exact Sim.refl _
end Sh
end
section
namespace Sh
open Go Ev
def ycxv:LO:=[o3 (.mv (ci' 0)) 4 0]
def ydbf:LO:=[mv' 1 5 0,o3 (.bin .lss (.tmp 5) (ci' 1)) 6 1]
def yczj:LO:=[o3 (.mv (ci' 0)) 4 0]
def ydat:LO:=[mv' 0 7 0,mv' 1 8 0,bn' .rem 7 8 9 3,mv' 9 0 7]
def ycyg:LO:=[mv' 0 10 0,o3 (.bin .lss (.tmp 10) (ci' 0)) 11 1]
def yczx:LO:=[mv' 0 12 0,mv' 1 13 0,bn' .add 12 13 14 3,mv' 14 0 7]
def yddf:LO:=[mv' 0 15 0,mv' 15 4 1]
def c39:SC:=(.seq (.reg false ycxv) (.seq (.seq (.reg false ydbf) (.cond (.tmp 6) (.seq (.reg false yczj) .ret) .skip)) (.seq (.reg false ydat) (.seq (.seq (.reg false ycyg) (.cond (.tmp 11) (.reg false yczx) .skip)) (.seq (.reg false yddf) .ret)))))
theorem ycyp:Fn 39 c39 [.t 4]:=fn_0 Tryz.func39 (by kernel_rfl) (by kernel_rfl)
def ydcr:LO:=[o3 (.mv (ci' 0)) 4 0]
def yczw:LO:=[mv' 1 5 0,mv' 0 6 0,ln' 6 7 2,bn' .lss 5 7 8 7]
def ydah:LO:=[mv' 0 9 0,mv' 1 10 0,ix' 1 9 10 11 3,ld' false 1 11 12 7,mv' 12 4 15]
def ydbg:LO:=[o3 (.mv (ci' 0)) 4 0]
def c77:SC:=(.seq (.reg false ydcr) (.seq (.seq (.reg false yczw) (.cond (.tmp 8) (.seq (.reg false ydah) .ret) .skip)) (.seq (.reg false ydbg) .ret)))
theorem ydal:Fn 77 c77 [.t 4]:=fn_0 Tryz.func77 (by kernel_rfl) (by kernel_rfl)
def ydbk:LO:=[o3 (.box 24 (.tmp 0)) 2 0,o3 (.alloc 27 1 [.a (.slice none 0 0),.a (.slice none 0 0)]) 4 0]
def ydbm:LO:=[fa' 0 1 2 10 0,ld' false 1 10 11 1,o3 (.wsub (.tmp 11) (ci' 1)) 12 3,mv' 1 13 0,cl' 39 [12,13] 14 15,o3 (.bin .add (ci' 1) (.tmp 14)) 15 31,mv' 15 5 63]
def ydbu:LO:=[mv' 5 16 0,o3 (.mk 71 1 24 [.a (.slice none 0 0)] (.tmp 16) (.tmp 16)) 17 1,o3 (.build [.a (.slice none 0 0),.a (.slice none 0 0)] [(1,1,(.tmp 17))]) 18 3,o3 (.alloc 27 1 [.a (.slice none 0 0),.a (.slice none 0 0)]) 6 0,o0 (.store 2 (.tmp 6) (.tmp 18)) 15]
def ydbx:LO:=[o3 (.mv (ci' 0)) 7 0]
def ydaj:LO:=[mv' 7 19 0,mv' 5 20 0,bn' .lss 19 20 21 3]
def ydav:LO:=[fa' 3 1 2 24 0,ld' false 1 24 25 1,mv' 7 26 0,cl' 77 [25,26] 27 7,o3 (.call (.func 39) [(.tmp 27),(ci' 256)]) 28 15,mv' 28 8 31]
def ycyh:LO:=[o3 (.mv (ci' 0)) 9 0]
def ydcp:LO:=[mv' 9 29 0,mv' 7 30 0,bn' .lss 29 30 31 3]
def ycil:LO:=[fa' 0 1 6 34 0,ld' false 1 34 35 1,mv' 9 36 0,ix' 1 35 36 37 7,ld' false 1 37 38 15,mv' 8 39 0,bn' .eql 38 39 40 63]
def ycjt:LO:=[mv' 8 41 0,o3 (.bin .add (.tmp 41) (ci' 1)) 42 1,o3 (.bin .rem (.tmp 42) (ci' 256)) 43 3,mv' 43 8 7,o3 (.mv (.const (.int .i64 (-1)))) 9 15]
def ydbv:LO:=[mv' 9 32 0,o3 (.bin .add (.tmp 32) (ci' 1)) 33 1,mv' 33 9 3]
def ycds:LO:=[fa' 0 1 6 44 0,ld' false 1 44 45 1,mv' 8 46 0,o3 (.bslice 3 1 1 [.i .i64 0] [(0,1,(.tmp 46))]) 47 4,o3 (.app 3 1 8 (.tmp 45) (.tmp 47)) 48 15,fa' 0 1 6 49 31,o0 (.store 1 (.tmp 49) (.tmp 48)) 63]
def ydcx:LO:=[mv' 7 22 0,o3 (.bin .add (.tmp 22) (ci' 1)) 23 1,mv' 23 7 3]
def ycjh:LO:=[ld' true 2 6 50 0,o0 (.store 2 (.tmp 4) (.tmp 50)) 1]
def c75:SC:=(.seq (.reg false ydbk) (.seq (.reg false ydbm) (.seq (.reg false ydbu) (.seq (.seq (.reg false ydbx) (.block 0 (.loop (.seq (.seq (.reg false ydaj) (.cond (.tmp 21) .skip (.exit 0))) (.seq (.block 1 (.seq (.reg false ydav) (.seq (.seq (.reg false ycyh) (.block 2 (.loop (.seq (.seq (.reg false ydcp) (.cond (.tmp 31) .skip (.exit 2))) (.seq (.block 3 (.seq (.reg false ycil) (.cond (.tmp 40) (.reg false ycjt) .skip))) (.reg false ydbv)))))) (.reg false ycds)))) (.reg false ydcx)))))) (.seq (.reg false ycjh) .ret)))))
theorem ycvb:FnM 75 c75 [.c 4 true 2]:=fn_m Tryz.func75 (by kernel_rfl) (by kernel_rfl)
def yczy:LO:=[o3 (.box 27 (.tmp 0)) 3 0,o3 (.mv (.const (.slice none 0 0))) 6 0]
def yczz:LO:=[fa' 1 1 3 16 0,ld' false 1 16 17 1,ln' 17 18 3,mv' 18 7 7,o3 (.mv (ci' 0)) 8 15]
def yczb:LO:=[o3 (.mv (ci' 0)) 9 0]
def ydbn:LO:=[mv' 9 19 0,mv' 7 20 0,bn' .lss 19 20 21 3]
def ydbi:LO:=[mv' 8 24 0,fa' 0 1 3 25 0,ld' false 1 25 26 2,mv' 9 27 0,ix' 1 26 27 28 14,ld' false 1 28 29 30,o3 (.mm true (.tmp 24) (.tmp 29)) 30 63,mv' 30 8 127]
def yczq:LO:=[mv' 9 22 0,o3 (.bin .add (.tmp 22) (ci' 1)) 23 1,mv' 23 9 3]
def ycxq:LO:=[o3 (.mv (.const (.slice none 0 0))) 10 0]
def ycyw:LO:=[o3 (.mv (ci' 0)) 11 0]
def ydcb:LO:=[mv' 11 31 0,mv' 7 32 0,bn' .lss 31 32 33 3]
def yclh:LO:=[o3 (.mv (.const (.slice none 0 0))) 12 0]
def yccu:LO:=[o3 (.mv (ci' 0)) 13 0]
def ycju:LO:=[mv' 13 36 0,mv' 1 37 0,ln' 37 38 2,bn' .lss 36 38 39 7]
def ycfr:LO:=[mv' 1 42 0,mv' 13 43 0,ix' 6 42 43 44 3,fa' 2 1 44 45 7,ld' false 1 45 46 15,mv' 1 47 0,mv' 13 48 0,ix' 6 47 48 49 96,fa' 3 1 49 50 224,ld' false 1 50 51 480,mv' 1 52 0,mv' 13 53 0,ix' 6 52 53 54 3072,fa' 4 1 54 55 7168,ld' false 1 55 56 15360,mv' 7 57 0,bn' .mul 56 57 58 64512,bn' .add 51 58 59 131040,mv' 1 60 0,mv' 13 61 0,ix' 6 60 61 62 786432,fa' 5 1 62 63 1835008,ld' false 1 63 64 3932160,mv' 8 65 0,bn' .mul 64 65 66 16515072,bn' .add 59 66 67 33554400,mv' 46 14 31,mv' 67 15 134217727]
def ychv:LO:=[mv' 1 68 0,mv' 13 69 0,ix' 6 68 69 70 3,fa' 1 1 70 71 7,ld' false 1 71 72 15]
def ybeo:LO:=[o3 (.bin .eql (.tmp 72) (ci' 2)) 74 0,mv' 74 73 1]
def ybgf:LO:=[o3 (.mv (ci' 0)) 14 0,o3 (.mv (ci' 1)) 15 1]
def ybgo:LO:=[o3 (.bin .eql (.tmp 72) (ci' 3)) 76 0,mv' 76 75 1]
def ybgw:LO:=[fa' 1 1 3 77 0,ld' false 1 77 78 1,mv' 11 79 0,ix' 1 78 79 80 7,ld' false 1 80 81 15,ln' 81 82 31,o3 (.bin .sub (.tmp 82) (ci' 1)) 83 63,o3 (.mv (.const (.int .i64 (-1)))) 14 0,mv' 83 15 255]
def ybgr:LO:=[mv' 12 84 0,mv' 14 85 0,mv' 2 86 0,mv' 11 87 0,mv' 1 88 0,ln' 88 89 16,bn' .mul 87 89 90 56,mv' 13 91 0,bn' .add 90 91 92 248,cl' 77 [86,92] 93 508,mv' 15 94 0,mv' 14 95 0,bn' .sub 94 95 96 3072,o3 (.bin .add (.tmp 96) (ci' 1)) 97 7168,cl' 39 [93,97] 98 16380,bn' .add 85 98 99 32766,o3 (.bslice 3 1 1 [.i .i64 0] [(0,1,(.tmp 99))]) 100 65534,o3 (.app 3 1 8 (.tmp 84) (.tmp 100)) 101 131071,mv' 101 12 262143]
def ybgs:LO:=[mv' 13 40 0,o3 (.bin .add (.tmp 40) (ci' 1)) 41 1,mv' 41 13 3]
def ycda:LO:=[mv' 10 102 0,mv' 12 103 0,o3 (.bslice 22 1 1 [.a (.slice none 0 0)] [(0,1,(.tmp 103))]) 104 2,o3 (.app 22 1 24 (.tmp 102) (.tmp 104)) 105 7,mv' 105 10 15]
def ydcn:LO:=[mv' 11 34 0,o3 (.bin .add (.tmp 34) (ci' 1)) 35 1,mv' 35 11 3]
def yccp:LO:=[mv' 10 106 0,mv' 106 6 1]
def c24:SC:=(.seq (.reg false yczy) (.seq (.reg false yczz) (.seq (.seq (.reg false yczb) (.block 0 (.loop (.seq (.seq (.reg false ydbn) (.cond (.tmp 21) .skip (.exit 0))) (.seq (.block 1 (.reg false ydbi)) (.reg false yczq)))))) (.seq (.reg false ycxq) (.seq (.seq (.reg false ycyw) (.block 2 (.loop (.seq (.seq (.reg false ydcb) (.cond (.tmp 33) .skip (.exit 2))) (.seq (.block 3 (.seq (.reg false yclh) (.seq (.seq (.reg false yccu) (.block 4 (.loop (.seq (.seq (.reg false ycju) (.cond (.tmp 39) .skip (.exit 4))) (.seq (.block 5 (.seq (.reg true ycfr) (.seq (.seq (.reg false ychv) (.block 6 (.seq (.reg false ybeo) (.cond (.tmp 73) (.reg false ybgf) (.seq (.reg false ybgo) (.cond (.tmp 75) (.reg true ybgw) .skip)))))) (.reg false ybgr)))) (.reg false ybgs)))))) (.reg false ycda)))) (.reg false ydcn)))))) (.seq (.reg false yccp) .ret))))))
theorem ydbc:Fn 24 c24 [.t 6]:=fn_0 Tryz.func24 (by kernel_rfl) (by kernel_rfl)
def ycxu:LO:=[o3 (.mv (.const (.slice none 0 0))) 4 0]
def yddx:LO:=[o3 (.mv (.const (.slice none 0 0))) 5 0]
def ydaq:LO:=[o3 (.mv (ci' 0)) 6 0]
def ycxy:LO:=[mv' 6 9 0,mv' 1 10 0,bn' .lss 9 10 11 3]
def ydcj:LO:=[mv' 0 14 0,ln' 14 15 1,o3 (.bin .eql (.tmp 15) (ci' 0)) 16 3]
def yddr:LO:=[mv' 5 17 0,o3 (.bslice 40 1 1 [.i .u32 0] [(0,1,(.const (.int .u32 4294967295)))]) 18 0,o3 (.app 40 1 4 (.tmp 17) (.tmp 18)) 19 3,mv' 19 5 7]
def ydec:LO:=[mv' 0 20 0,mv' 6 21 0,mv' 0 22 0,ln' 22 23 4,bn' .rem 21 23 24 14,ix' 1 20 24 25 31,ld' false 1 25 26 63,mv' 6 27 0,mv' 0 28 0,ln' 28 29 256,bn' .quo 27 29 30 896,o3 (.bin .rem (.tmp 30) (ci' 24)) 31 1920,o3 (.conv .u64 (.tmp 31)) 32 3968,mv' 26 7 127,mv' 32 8 16383]
def ydcl:LO:=[mv' 7 33 0,o3 (.bin .and (.tmp 33) (.const (.int .u32 16777215))) 34 1,mv' 34 7 3]
def ycxn:LO:=[mv' 5 35 0,mv' 7 36 0,mv' 8 37 0,bn' .shl 36 37 38 6,mv' 7 39 0,mv' 8 40 0,o3 (.bin .sub (.const (.int .u64 24)) (.tmp 40)) 41 32,bn' .shr 39 41 42 112,bn' .or 38 42 43 254,o3 (.bin .and (.tmp 43) (.const (.int .u32 16777215))) 44 510,o3 (.bslice 40 1 1 [.i .u32 0] [(0,1,(.tmp 44))]) 45 1022,o3 (.app 40 1 4 (.tmp 35) (.tmp 45)) 46 2047,mv' 46 5 4095]
def yctm:LO:=[mv' 6 12 0,o3 (.bin .add (.tmp 12) (ci' 1)) 13 1,mv' 13 6 3]
def ychj:LO:=[mv' 5 47 0,mv' 47 4 1]
def c26:SC:=(.seq (.reg false ycxu) (.seq (.reg false yddx) (.seq (.seq (.reg false ydaq) (.block 0 (.loop (.seq (.seq (.reg false ycxy) (.cond (.tmp 11) .skip (.exit 0))) (.seq (.block 1 (.seq (.seq (.reg false ydcj) (.cond (.tmp 16) (.seq (.reg false yddr) (.exit 1)) .skip)) (.seq (.reg true ydec) (.seq (.reg false ydcl) (.reg false ycxn))))) (.reg false yctm)))))) (.seq (.reg false ychj) .ret))))
theorem yddj:Fn 26 c26 [.t 4]:=fn_0 Tryz.func26 (by kernel_rfl) (by kernel_rfl)
def yddv:LO:=[o3 (.box 27 (.tmp 1)) 6 0,o3 (.mv (.const (.slice none 0 0))) 10 0,o3 (.mv (.const (.slice none 0 0))) 11 2,o3 (.mv (.const (.bool false))) 12 6]
def yczs:LO:=[mv' 0 17 0,cl' 37 [17] 18 1,ld' true 2 6 19 0,mv' 2 20 0,mv' 3 21 0,mv' 4 22 0,cl' 78 [18,19,20,21,22] 23 63,mv' 23 16 127,xt' 16 0 24 255,xt' 16 1 25 255,xt' 16 2 26 255,mv' 24 13 511,mv' 25 14 3071,mv' 26 15 8191]
def ydcm:LO:=[mv' 13 27 0,mv' 14 28 0,mv' 15 29 0,o3 (.bin .eql (.tmp 29) (ci' 0)) 30 4,mv' 30 31 12,⟨.mv (.tmp 13),some 32,some (31,true),28⟩,⟨.len (.tmp 32),some 33,some (31,true),60⟩,⟨.mv (.tmp 14),some 34,some (31,true),28⟩,⟨.len (.tmp 34),some 35,some (31,true),156⟩,⟨.bin .eql (.tmp 33) (.tmp 35),some 36,some (31,true),508⟩,o3 (.pick (.tmp 31) (.tmp 36) (.const (.bool false))) 37 1020,mv' 37 38 2044,⟨.mv (.tmp 13),some 39,some (38,true),4092⟩,⟨.len (.tmp 39),some 40,some (38,true),8188⟩,⟨.bin .gtr (.tmp 40) (ci' 0),some 41,some (38,true),16380⟩,o3 (.pick (.tmp 38) (.tmp 41) (.const (.bool false))) 42 32764,mv' 27 10 4093,mv' 28 11 69631,mv' 42 12 262143]
def c22:SC:=(.seq (.reg false yddv) (.seq (.reg true yczs) (.seq (.reg false ydcm) .ret)))
theorem ydad:Fn 22 c22 [.t 10,.t 11,.t 12]:=fn_0 Tryz.func22 (by kernel_rfl) (by kernel_rfl)
end Sh
end
section
namespace Sh
open Ev Go.RowKit
instance:Inhabited Cnt:=⟨⟨0,0,0,0,0⟩⟩
def seeO(cs:List Conf)(ks:List Cnt):Own:=[(1,.one (some ⟨29,true,1,1,fun _=>[.os (2,0) 0 cs.length true]⟩)),(2,.one (some ⟨34,false,1,cs.length,fun i=>[ybj (cs.getD i [])]⟩)),
 (3,.one (some ⟨30,true,1,1,fun _=>[.os (4,0) 0 ks.length true]⟩)),(4,.one (some ⟨48,false,5,ks.length,fun i=>cntV (ks.getD i default)⟩))]
def ycwt:Own:=[(1,.one (some ⟨29,true,1,1,fun _=>[.a (.slice none 0 0)]⟩)),(3,.one (some ⟨30,true,1,1,fun _=>[.a (.slice none 0 0)]⟩))]
theorem ybvu(cs:List Conf)(ks:List Cnt)(h1:0<cs.length/\cs.length<=5000)(h2:0<ks.length/\ks.length<=5000){c:Conf}(hc:∀s∈c,0<s.length/\s.length<=1000)(hl:c.length<=1000)(e:Nat)(k:Cnt) :
 Cm zN 131 [(1,0),(3,0)] (seeO cs ks) [ybj c,.i .u32 e,.ag (cntV k),.pt (1,0) 0 0,.pt (3,0) 0 0] fun r o=>r = .tp []/\o=seeO (cs++[c]) (ks++[k]):=by
 refine yben [(1,0),(3,0)] [] _ _ _ ?_;obtain⟨n,hn⟩:∃n,cs.length=n:=⟨_,rfl⟩;obtain⟨m,hm⟩:∃m,ks.length=m:=⟨_,rfl⟩;have hC:=yvi c hc hl;obtain⟨O2,hO2⟩:∃O,seeO (cs++[c]) (ks++[k])=O:=⟨_,rfl⟩;rw[hO2];simp only[c131,ybuv,ybsn,ybtk,seeO,cntV,hn,hm,clash,go_sem,zC,zA,zD,zB,zI,zF,zG,zH,↓reduceIte,reduceCtorEq];refine hC.use ?_;simp only[ybf,clash,ymp,go_sem,zC,zA,zD,zB,zI,zF,zG,zH,↓reduceIte,reduceCtorEq]
 refine⟨by decide,⟨by omega,by omega⟩,by decide,by decide,⟨by omega,by omega⟩,.tp [],O2,?_,?_,rfl,rfl⟩
 ·subst hO2;refine ydp [(2,fun i=>(12,i)),(4,fun i=>(16,i))] [] [] ?_;simp only[seeO,cntV,zAA,hn,hm,allQ,live,zM,zK,zL,yc,yu,ybi,zJ,go_sem,zC,zA,zD,zB,zI,zF,zG,zH,↓reduceIte,reduceCtorEq];have gl:∀{α:Type}(l:List α) (x d:α) (i:Nat),i<l.length->(l++[x]).getD i d=l.getD i d:=fun l x d i h=>by simp[zW,zAN h]
  have gr:∀{α:Type}(l:List α) (x d:α),(l++[x]).getD l.length d=x:=fun l x d=>by simp[zW]
  refine⟨fun i hi=>?_,fun i hi=>?_⟩
  ·by_cases q:i<n
   ·simp only[if_pos q,gl cs c [] i (by omega)]
    simp only[go_sem,allQ,live,zM,zK,zL,yc,yu,ybi,zJ,go_sem,zC,zA,zD,zB,zI,zF,zG,zH,↓reduceIte,reduceCtorEq]
   ·obtain rfl:i=n:=by omega
    simp only[if_neg q,zAB,zU];have e:=gr cs c [];rw[hn]at e;simp only[e,allQ,live,zM,zK,zL,yc,yu,ybi,zJ,go_sem,zC,zA,zD,zB,zI,zF,zG,zH,↓reduceIte,reduceCtorEq]
  ·by_cases q:i<m
   ·simp only[if_pos q,gl ks k default i (by omega)]
    simp only[go_sem,allQ,live,zM,zK,zL,yc,yu,ybi,zJ,go_sem,zC,zA,zD,zB,zI,zF,zG,zH,↓reduceIte,reduceCtorEq]
   ·obtain rfl:i=m:=by omega
    simp only[if_neg q,zAB,zU];have e:=gr ks k default;rw[hm]at e;simp only[e,allQ,live,zM,zK,zL,yc,yu,ybi,zJ,go_sem,zC,zA,zD,zB,zI,zF,zG,zH,↓reduceIte,reduceCtorEq]
 ·subst hO2;simp only[seeO,cntV,ydt,yhw,allQ,live,zM,zK,zL,yc,yu,ybi,zJ,go_sem,zC,zA,zD,zB,zI,zF,zG,zH,↓reduceIte,reduceCtorEq]
theorem ybpm{c:Conf}(hc:∀s∈c,0<s.length/\s.length<=1000)(hl:c.length<=1000)(e:Nat)(k:Cnt) :
 Cm zN 131 [(1,0),(3,0)] ycwt [ybj c,.i .u32 e,.ag (cntV k),.pt (1,0) 0 0,.pt (3,0) 0 0] fun r o=>r = .tp []/\o=seeO [c] [k]:=by
 refine yben [(1,0),(3,0)] [] _ _ _ ?_;have hC:=yvi c hc hl;obtain⟨O2,hO2⟩:∃O,seeO [c] [k]=O:=⟨_,rfl⟩;rw[hO2];simp only[c131,ybuv,ybsn,ybtk,ycwt,cntV,clash,go_sem,zC,zA,zD,zB,zI,zF,zG,zH,↓reduceIte,reduceCtorEq];refine hC.use ?_;simp only[ybf,clash,ymp,go_sem,zC,zA,zD,zB,zI,zF,zG,zH,↓reduceIte,reduceCtorEq];refine⟨by decide,by decide,by decide,.tp [],O2,?_,?_,rfl,rfl⟩
 ·subst hO2;refine ydp [(2,fun i=>(12,i)),(4,fun i=>(16,i))] [] [] ?_;simp only[seeO,cntV,allQ,live,zM,zK,zL,yc,yu,ybi,zJ,go_sem,zC,zA,zD,zB,zI,zF,zG,zH,↓reduceIte,reduceCtorEq];refine⟨fun i hi=>?_,fun i hi=>?_⟩
  ·obtain rfl:i=0:=by omega
   simp only[zU];simp only[zZ,allQ,live,zM,zK,zL,yc,yu,ybi,zJ,go_sem,zC,zA,zD,zB,zI,zF,zG,zH,↓reduceIte,reduceCtorEq]
  ·obtain rfl:i=0:=by omega
   simp only[zU];simp only[zZ,allQ,live,zM,zK,zL,yc,yu,ybi,zJ,go_sem,zC,zA,zD,zB,zI,zF,zG,zH,↓reduceIte,reduceCtorEq]
 ·subst hO2;simp only[seeO,cntV,ydt,yhw,allQ,live,zM,zK,zL,yc,yu,ybi,zJ,go_sem,zC,zA,zD,zB,zI,zF,zG,zH,↓reduceIte,reduceCtorEq]
structure DaemonOk(kind:Int)(net:List Nat)(res:Nat->Nat->Nat):Prop where
 resolve:∀(e w:Nat),e<2^24->e<2^net.length->e≠0->w<2^32->Returns zN 111 [usV net,.i .i64 kind,.i .u32 e,.i .u32 w] (.i .u32 (res e w))
 permits:∀(e w:Nat),e<2^24->e<2^net.length->e≠0->w<2^32->Returns zN 196 [usV net,.i .i64 kind,.i .u32 e,.i .u32 (res e w)] (.b true)
 zero:∀(w:Nat),w<2^32->∃x:Nat,Returns zN 111 [usV net,.i .i64 kind,.i .u32 0,.i .u32 w] (.i .u32 x)
 sub:∀(e w:Nat),e≠0->e<2^24->res e w≠0/\subB (res e w) e
theorem ybeg{kind:Int}{net:List Nat}{res:Nat->Nat->Nat}(hd:DaemonOk kind net res)(rest:SV)(liv:SV)(mv:SV){ws:List Nat}(hw:∀k,ws.getD k 0<2^32){e:Nat}(he:e<2^24)(hen:e<2^net.length)(h0:e≠0){k:Nat}(hk:k<ws.length) :
 Returns zN 169 [.i .i64 k,.i .u32 e,.rf [mv,usV net,.i .i64 kind,liv,rest],.rf [usV ws]] (.tp [.i .u32 (res e (ws.getD k 0)),.b true]):=by
 refine Returns.of (ybqv _ _ ?_);have hR:=hd.resolve e (ws.getD k 0) he hen h0 (hw k);have z0:((e:Int)!=0)=true:=by simp;omega
 simp only[usV]at hR;simp only[c169,yboc,ybrz,usV,clash,go_sem,zC,zA,zD,zB,zI,zF,zG,zH,↓reduceIte,reduceCtorEq];refine⟨by omega,hR.use ?_⟩
 simp only[ybf,clash,z0,go_sem,zC,zA,zD,zB,zI,zF,zG,zH,↓reduceIte,reduceCtorEq];exact Sim.refl _
theorem ybbi{kind:Int}{net:List Nat}{res:Nat->Nat->Nat}(hd:DaemonOk kind net res)(rest:SV)(liv:SV)(mv:SV){ws:List Nat}(hw:∀k,ws.getD k 0<2^32){k:Nat}(hk:k<ws.length) :
 ∃x:Nat,Returns zN 169 [.i .i64 k,.i .u32 0,.rf [mv,usV net,.i .i64 kind,liv,rest],.rf [usV ws]] (.tp [.i .u32 x,.b false]):=by
 obtain⟨x,hR⟩:=hd.zero (ws.getD k 0) (hw k);refine⟨x,Returns.of (ybqv _ _ ?_)⟩;simp only[usV]at hR;simp only[c169,yboc,ybrz,usV,clash,go_sem,zC,zA,zD,zB,zI,zF,zG,zH,↓reduceIte,reduceCtorEq];refine⟨by omega,hR.use ?_⟩
 simp only[ybf,clash,zS,go_sem,zC,zA,zD,zB,zI,zF,zG,zH,↓reduceIte,reduceCtorEq];exact Sim.refl _
theorem ycuc{s e n:Nat}(h:subB s e)(he:e<2^n):s<2^n:=by
 refine Nat.lt_pow_two_of_testBit _ fun i hi=>?_;cases hb:s.testBit i with
 |false=>rfl
 | true =>
   have:=h i hb;rw[zAP (zAL he (zY (by omega) hi))]at this
   cases this
theorem ycvd(net:List Nat):DaemonOk 4 net resS where
 resolve:=fun e w he _ h0 hw=>yyf (usV net) (by simp[usV,ybfi,ybpb]) he h0 hw
 permits:=fun e w he _ h0 hw=>yzr (usV net) he h0
 zero:=fun w hw=>⟨0,by
  refine Returns.of (ybob _ _ ?_);have a0:=u32_and (a:=w) (b:=0) (by omega) (by omega)
  rw[zAZ]at a0;have a1:IntKind.wrap .u32 (0-0)=0:=by decide
  have a2:=u32_and (a:=0) (b:=0) (by omega) (by omega)
  rw[zAZ]at a2;simp only[zJ,IntKind.bits]at a0 a2;simp only[usV,c111,ybod,ybky,ybsf,ybgz,ybem,ybgq,ybfw,yuv,ywn,IntKind.signed,a0,a1,a2,zAE,zS,yu,go_sem,zC,zA,zD,zB,zI,zF,zG,zH,↓reduceIte,reduceCtorEq];rfl⟩
 sub:=fun e w h0 _=>⟨h0,fun _ h=>h⟩
end Sh
end
section
def stAt(S:Sys)(res:Nat->Nat->Nat):List Nat->Conf->Cnt->Nat->Conf×Cnt
 |_,c,k,0=>(c,k)
 |ws,c,k,i+1=>stAt S res ws.tail (S.mv c (res (S.en c) (ws.getD 0 0))) (addP k (res (S.en c) (ws.getD 0 0)) (S.en (S.mv c (res (S.en c) (ws.getD 0 0))))) i
theorem yxb(S:Sys)(res:Nat->Nat->Nat):∀(i:Nat) (ws:List Nat) (c:Conf) (k:Cnt),
 stAt S res ws c k (i+1)=(S.mv (stAt S res ws c k i).1 (res (S.en (stAt S res ws c k i).1) (ws.getD i 0)),addP (stAt S res ws c k i).2 (res (S.en (stAt S res ws c k i).1) (ws.getD i 0)) (S.en (S.mv (stAt S res ws c k i).1 (res (S.en (stAt S res ws c k i).1) (ws.getD i 0)))))
 |0,ws,c,k=>rfl
 | i+1,ws,c,k=>by
   show stAt S res ws.tail _ _ (i+1)=_;rw[yxb S res i ws.tail];have e:ws.tail.getD i 0=ws.getD (i+1) 0:=by cases ws<;>rfl
   rw[e];rfl
theorem yxy(S:Sys)(res:Nat->Nat->Nat):∀(ws:List Nat) (c:Conf) (k:Cnt) (i:Nat),(∀j,j<i->S.en (stAt S res ws c k j).1≠0)->i<=ws.length->(i=ws.length\/S.en (stAt S res ws c k i).1=0) ->
 S.run res ws c k=(zAD i).map fun j=>stAt S res ws c k (j+1)
 | [],c,k,i,_,hi,_=>by
   have:i=0:=by simpa using hi
   subst this;rfl
 | w :: ws,c,k,0,_,_,h=>by
   have h0:S.en c=0:=by
    rcases h with h|h
    ·simp at h
    ·exact h
   unfold Sys.run;rw[if_pos h0];rfl
 | w :: ws,c,k,i+1,hj,hi,h=>by
   have h0:S.en c≠0:=hj 0 (by omega)
   unfold Sys.run;rw[if_neg h0];simp only
   have e:=yxy S res ws (S.mv c (res (S.en c) w)) (addP k (res (S.en c) w) (S.en (S.mv c (res (S.en c) w)))) i (fun j hj'=>hj (j+1) (by omega)) (by simpa using hi) (by
    rcases h with h|h
    ·exact .inl (by simpa using h)
    ·exact .inr h)
   rw[e,zAQ,zAY,zBA];rfl
theorem ybje(S:Sys)(res:Nat->Nat->Nat)(ws:List Nat)(c:Conf)(i:Nat)(hj:∀j,j<i->S.en (stAt S res ws c (ydg (S.en c)) j).1≠0)(hi:i<=ws.length)(h:i=ws.length\/S.en (stAt S res ws c (ydg (S.en c)) i).1=0) :
 S.runs res ws c=(zAD (i+1)).map fun j=>stAt S res ws c (ydg (S.en c)) j:=by
 unfold Sys.runs;rw[yxy S res ws c _ i hj hi h,zAQ,zAY,zBA];rfl
theorem ycab{kind:Int}{b:Int×Int}(hb:b.1<=b.2)(h3:kind=3->b.1 <= -1 /\ -1<=b.2)(x:Int):b.1<=yic kind b x/\yic kind b x<=b.2:=by
 unfold yic;split
 ·assumption
 ·split
  ·exact h3 (by assumption)
  ·split<;>omega
namespace Sh
theorem ybep{p:ProgT}{g:Gr}(hg:ybb g)(hp:p.ok=true)(hf:yvt p g=true){x:VarR}(hx:x∈p.vars)(v:Nat):(ybh g v x).1<=(ybh g v x).2/\(x.kind=3->(ybh g v x).1 <= -1 /\ -1<=(ybh g v x).2):=by
 have h1:=List.all_eq_true.1 hf x hx;have hp':=hp;unfold ProgT.ok at hp';simp only[zO,decide_eq_true_eq]at hp';have hxo:=ybax (List.all_eq_true.1 hp'.1.1.2 _ hx);rcases hxo.1 with h|h|h
 ·have e:ybh g v x=ybh g 0 x:=by unfold ybh;rw[if_pos h,if_pos h]
  rw[e];simp[h]at h1;exact⟨h1.1,fun q=>by omega⟩
 ·unfold ybh;rw[if_neg (by omega),if_pos h]
  exact⟨by decide,fun q=>by omega⟩
 ·unfold ybh;rw[if_neg (by omega),if_neg (by omega),if_pos h]
  exact⟨by simp only[];omega,fun _=>⟨by simp only[];omega,by simp only[];omega⟩⟩
theorem ybsj{p:ProgT}{g:Gr}(hg:ybb g)(hp:p.ok=true)(hf:yvt p g=true){v:Nat}{s:List Int}(hs:yec (p.vars.map (ybh g v)) s){a:Int}(ha:0<=a/\a<p.vars.length)(y:Int) :
 yec (p.vars.map (ybh g v)) (s.set a.toNat (yic (p.vars.getD a.toNat default).kind (ybh g v (p.vars.getD a.toNat default)) y)):=by
 refine⟨by rw[List.length_set];exact hs.1,fun i b x hb hx=>?_⟩
 by_cases q:a.toNat=i
 ·subst q;have hlt:a.toNat<p.vars.length:=by omega
  rw[List.getElem?_map,zV hlt]at hb;cases hb
  have hl:a.toNat<s.length:=by rw[hs.1,zAO];exact hlt
  rw[List.getElem?_set_self hl]at hx;cases hx
  rw[getD_at hlt];obtain⟨h1,h2⟩:=ybep hg hp hf (zAF hlt) v;exact ycab h1 h2 y
 ·rw[List.getElem?_set_ne q]at hx;exact hs.2 i b x hb hx
theorem ytc{p:ProgT}{g:Gr}(hg:ybb g)(hp:p.ok=true)(hf:yvt p g=true)(c:Conf)(v:Nat):∀(sets:List (Int×Ex)) (s:List Int),(∀a∈sets,0<=a.1/\a.1<p.vars.length)->yec (p.vars.map (ybh g v)) s->yec (p.vars.map (ybh g v)) (ylm p g c v s sets)
 |[],s,_,hs=>hs
 | a::sets,s,ha,hs=>by
   show yec _ (ylm p g c v (s.set _ _) sets);exact ytc hg hp hf c v sets _ (fun x hx=>ha x (zAR _ hx)) (ybsj hg hp hf hs (ha a zAU) _)
theorem ybip{p:ProgT}{g:Gr}(hg:ybb g)(hp:p.ok=true)(hf:yvt p g=true){c:Conf}(hc:yhb p g c=true)(s:Nat):yhb p g (yit p g c s)=true:=by
 have h:=(ydu _ _ _).1 hc;refine(ydu _ _ _).2 ⟨by rw[ydh];exact h.1,fun v st hst=>?_⟩
 have hv:v<c.length:=by
  have:=(List.getElem?_eq_some_iff.1 hst).1
  rwa [ydh]at this
 have e:st=(yit p g c s).getD v []:=by simp[zW,hst]
 rw[ylc p g c s hv]at e;have hold:=h.2 v (c.getD v []) (by rw[getD_at hv];exact zV hv)
 rw[e];split
 ·unfold yxx;refine ytc hg hp hf c v _ _ (fun a ha=>?_) hold;have hp':=hp;unfold ProgT.ok at hp';simp only[zO,decide_eq_true_eq]at hp'
  by_cases hr:(yfg p g c v).toNat<p.rules.length
  ·rw[getD_at hr]at ha;have hok:=List.all_eq_true.1 hp'.2 _ (zAF hr);unfold RuleT.ok at hok;simp only[zO,decide_eq_true_eq]at hok;have:=List.all_eq_true.1 hok.2 a ha;simp only[zO,decide_eq_true_eq]at this;exact this.1.1
  ·have:p.rules.getD (yfg p g c v).toNat default=default:=by simp[zW,zAG (Nat.le_of_not_lt hr)]
   rw[this]at ha;cases ha
 ·exact hold
theorem ymb{p:ProgT}{g:Gr}(hg:ybb g)(hp:p.ok=true){c:Conf}(hc:yhb p g c=true):(∀s∈c,0<s.length/\s.length<=1000)/\c.length<=1000:=by
 have h:=yky hg hp hc;have hp':=hp;unfold ProgT.ok at hp';simp only[zO,decide_eq_true_eq]at hp';have:=hg.2.1;exact⟨fun s hs=>by have:=(h.row s hs).1;omega,by rw[h.len];omega⟩
theorem yctk(p:ProgT)(g:Gr)(c:Conf):ybs p g c<2^g.ids.length:=ybhe _ _
end Sh
end
section
namespace Sh
open Ev Go.RowKit
def seeC:SV:=.fn 131 [] [.pt (201,0) 0 0,.pt (203,0) 0 0]
def seeX(cs:List Conf)(ks:List Cnt):Own:=[(201,.one (some ⟨29,true,1,1,fun _=>[.os (202,0) 0 cs.length true]⟩)),(202,.one (some ⟨34,false,1,cs.length,fun i=>[ybj (cs.getD i [])]⟩)),
 (203,.one (some ⟨30,true,1,1,fun _=>[.os (204,0) 0 ks.length true]⟩)),(204,.one (some ⟨48,false,5,ks.length,fun i=>cntV (ks.getD i default)⟩))]
def ykw:Own:=[(201,.one (some ⟨29,true,1,1,fun _=>[.a (.slice none 0 0)]⟩)),(203,.one (some ⟨30,true,1,1,fun _=>[.a (.slice none 0 0)]⟩))]
def TT:(Nat->Option ABlk)->Value->Prop:=fun _ _=>True
def yem(p:ProgT)(g:Gr):SV:=.ex TT (.rf (ydr p.raw g))
def ydd(p:ProgT)(g:Gr)(net:List Nat)(kind:Int):List SV:=[yem p g,usV net,.i .i64 kind,.i .u32 (2^g.ids.length-1:Nat),seeC]
def ybtd(p:ProgT)(g:Gr)(net:List Nat)(kind:Int)(ws:List Nat):Own:=[(205,.one (some ⟨126,true,5,1,fun _=>ydd p g net kind⟩)),(206,.one (some ⟨38,true,1,1,fun _=>[usV ws]⟩))]
theorem gmr{α:Type}(f:Nat->α)(n k:Nat)(d:α)(h:k<n):((zAD n).map f).getD k d=f k:=by simp[zW,h]
def mapR{α:Type}(n:Nat)(f:Nat->α):List α:=(zAD n).map f
theorem gmR{α:Type}(f:Nat->α)(n k:Nat)(d:α)(h:k<n):(mapR n f).getD k d=f k:=gmr f n k d h
theorem yuq{α:Type}(n:Nat)(f:Nat->α):(mapR n f).length=n:=by simp[mapR]
theorem ybhg{α β:Type}(n:Nat)(f:Nat->α)(h:α->β):(mapR n f).map h=mapR n fun k=>h (f k):=by simp[mapR,Function.comp_def]
theorem yblc{α:Type}(f:Nat->α)(n:Nat)(x d:α)(hx:f n=x)(k:Nat)(h:k<n+1):(((zAD n).map f)++[x]).getD k d=f k:=by
 rw[<-hx,show[f n]=[n].map f from rfl,<-List.map_append,<-List.range_succ]
 exact gmr f (n+1) k d h
section
variable {Q1 Q2:(Nat->Option ABlk)->Value->Prop}{p:ProgT}{g:Gr}
theorem ybim(h:Checked Q1 Q2 p g){kind:Int}{net:List Nat}(hnl:g.ids.length<=net.length){res:Nat->Nat->Nat}(hd:DaemonOk kind net res){c:Conf}(hc:yhb p g c=true){ws:List Nat}(hw:∀k,ws.getD k 0<2^32)(hwl:ws.length<=4000) :
 Cm zN 168 [(201,0),(203,0)] (ykw++ybtd p g net kind ws) [.ag (ydd p g net kind),ybj c,.i .i64 ws.length,.fn 169 [] [.pt (205,0) 0 0,.pt (206,0) 0 0]]
  fun r o=>(∃l1 l2 c' k',r = .tp [.ag (usV l1::usV l2::ybj c'::cntV k'),.i .i64 0])/\o=seeX ((ybu p g).runs res ws c |>.map (·.1)) ((ybu p g).runs res ws c |>.map (·.2)):=by
 refine ybvz [(201,0),(203,0)] [131] _ _ _ ?_;obtain⟨O2,hO2⟩:∃O,seeX ((ybu p g).runs res ws c |>.map (·.1)) ((ybu p g).runs res ws c |>.map (·.2))=O:=⟨_,rfl⟩;rw[hO2];obtain⟨hr1,hr2⟩:=ymb h.hg h.hp hc;have hcin:=yky h.hg h.hp hc;have hC:=yvi c hr1 hr2;have hE:=yog p h.hg h.hp hcin;have hX:SimL [yem p g,ybj c] [.rf (ydr p.raw g),ybj c]:=⟨ypr _ _,Sim.refl _,trivial⟩;have hen:=yctk p g c;have hid:=h.hg.2.2.1
 have h24:=h.hg.2.1;have h2n:2^g.ids.length<=2^24:=zY (by omega) (by omega)
 simp only[c168,ycky,yclq,ycif,ykw,ybtd,ydd,seeC,usV,yem,go_sem,zC,zA,zD,zB,zI,zF,zG,zH,↓reduceIte,reduceCtorEq];refine hC.use ?_;simp only[ybf,ycdz,clash,go_sem,zC,zA,zD,zB,zI,zF,zG,zH,↓reduceIte,reduceCtorEq];refine hE.useS ?_ ?_
 ·exact hX
 have ha:IntKind.wrap .u32 (((zQ (IntKind.bits .u32) (ybs p g c:Int))&&&zQ (IntKind.bits .u32) ((2^g.ids.length-1:Nat):Int)).toNat:Int)=(ybs p g c:Int):=by
  have e:=u32_and (a:=ybs p g c) (b:=2^g.ids.length-1) (by omega) (by omega)
  rw[zT hen]at e;exact e
 simp only[IntKind.bits]at ha;simp only[ybf,ychr,clash,ha,go_sem,zC,zA,zD,zB,zI,zF,zG,zH,↓reduceIte,reduceCtorEq];have hB:=yble (e:=ybs p g c) (by omega)
 obtain⟨K0,hK0⟩:∃K,ydg (ybs p g c)=K:=⟨_,rfl⟩;rw[hK0]at hB;refine hB.use ?_;simp only[ybf,yciq,cntV,go_sem,zC,zA,zD,zB,zI,zF,zG,zH,↓reduceIte,reduceCtorEq];have hS:=ybpm hr1 hr2 (ybs p g c) K0;simp only[cntV]at hS;refine yhm hS [(1,201),(3,203)] 200 [1,2,3,4,8,9,10,11,12] [4,8,10,12,205,206] ?_ ?_
 ·simp only[ycwt,to1,okN,ydt,yhw,yfp,yex,allQ,live,zM,zK,zL,yc,yu,ybi,zJ,go_sem,zC,zA,zD,zB,zI,zF,zG,zH,↓reduceIte,reduceCtorEq]
 ·rintro r o' ⟨rfl,rfl⟩;simp only[seeO,ywi,yqi,nuF,nu,difN,yfp,yex,Fam.ren,OB.ren,dim,yfo,yzv,yxh,ynl,ynj,yiq,yny,ynm,yoc,yob,ynp,yoj,go_sem,zC,zA,zD,zB,zI,zF,zG,zH,↓reduceIte,reduceCtorEq];simp only[ycfc,ycii,splice,go_sem,zC,zA,zD,zB,zI,zF,zG,zH,↓reduceIte,reduceCtorEq]
  let st:Nat->Conf×Cnt:=stAt (ybu p g) res ws c K0
  let en:Nat->Nat:=fun i=>ybs p g (st i).1
  let ch:Nat->Nat:=fun i=>res (en i) (ws.getD i 0)
  refine ybl (σ:=Nat) (fun i=>⟨[(40,.i .i64 i),(39,.i .i64 ws.length),(1,ybj (st i).1),(3,.fn 169 [] [.pt (205,0) 0 0,.pt (206,0) 0 0]),(4,.pt (4,0) 0 0),(8,.pt (8,0) 0 0),(9,.i .i64 0),(10,.pt (10,0) 0 0),(11,.i .u32 (en i)),(12,.pt (12,0) 0 0)],
   [(4,.one (some ⟨126,true,5,1,fun _=>ydd p g net kind⟩)),
    (8,.one (some ⟨130,true,8,1,fun _=>[.a (.slice none 0 0),.a (.slice none 0 0),.a (.slice none 0 0),.i .i64 0,.i .i64 0,.i .i64 0,.i .i64 0,.i .u32 0]⟩)),
    (10,.one (some ⟨130,true,8,1,fun _=>[.os (301,0) 0 i true,.os (302,0) 0 (i+1) true,.a (.slice none 0 0),.i .i64 0,.i .i64 0,.i .i64 0,.i .i64 0,.i .u32 0]⟩)),
    (301,.one (some ⟨40,false,1,i,fun j=>[.i .u32 (ch j)]⟩)),(302,.one (some ⟨40,false,1,i+1,fun j=>[.i .u32 (en j)]⟩)),
    (12,.one (some ⟨48,true,5,1,fun _=>cntV (st i).2⟩)),
    (201,.one (some ⟨29,true,1,1,fun _=>[.os (202,0) 0 (i+1) true]⟩)),(202,.one (some ⟨34,false,1,i+1,fun j=>[ybj (st j).1]⟩)),
    (203,.one (some ⟨30,true,1,1,fun _=>[.os (204,0) 0 (i+1) true]⟩)),(204,.one (some ⟨48,false,5,i+1,fun j=>cntV (st j).2⟩)),
    (205,.one (some ⟨126,true,5,1,fun _=>ydd p g net kind⟩)),(206,.one (some ⟨38,true,1,1,fun _=>[usV ws]⟩))]⟩)
   (fun i=>i<=ws.length/\(∀j,j<i->en j≠0)/\yhb p g (st i).1=true/\(st i).2.ok/\(st i).2.steps=i) (fun i=>ws.length-i) 0 ⟨zAJ _,fun j hj=>absurd hj (Nat.not_lt_zero j),hc,by show K0.ok;rw[<-hK0];exact ybon (by omega),by show K0.steps=0;rw[<-hK0];rfl⟩ ?_ ?_
  ·refine ydp [(302,fun i=>(37,i))] [301] [] ?_;have st0:st 0=(c,K0):=rfl;have en0:en 0=ybs p g c:=rfl;simp only[ydd,yem,seeC,usV,cntV,st0,en0,allQ,live,zM,zK,zL,yc,yu,ybi,zJ,go_sem,zC,zA,zD,zB,zI,zF,zG,zH,↓reduceIte,reduceCtorEq];refine⟨fun i _=>⟨(301,0),rfl,?_⟩,?_⟩
   ·simp only[go_sem,allQ,live,zM,zK,zL,yc,yu,ybi,zJ,go_sem,zC,zA,zD,zB,zI,zF,zG,zH,↓reduceIte,reduceCtorEq]
   refine⟨fun i hi=>?_,fun i hi=>?_,fun i hi=>?_⟩
   ·obtain rfl:i=0:=by omega
    simp only[zU];simp only[en0,allQ,live,zM,zK,zL,yc,yu,ybi,zJ,go_sem,zC,zA,zD,zB,zI,zF,zG,zH,↓reduceIte,reduceCtorEq]
   ·obtain rfl:i=0:=by omega
    simp only[st0,zZ,allQ,live,zM,zK,zL,yc,yu,ybi,zJ,go_sem,zC,zA,zD,zB,zI,zF,zG,zH,↓reduceIte,reduceCtorEq]
   ·obtain rfl:i=0:=by omega
    simp only[st0,zZ,allQ,live,zM,zK,zL,yc,yu,ybi,zJ,go_sem,zC,zA,zD,zB,zI,zF,zG,zH,↓reduceIte,reduceCtorEq]
  ·rintro i ⟨hi,hj,hci,hko,hks⟩;obtain⟨cr1,cr2⟩:=ymb h.hg h.hp hci;have cin:=yky h.hg h.hp hci;have eni:=yctk p g (st i).1
   have fin:(i=ws.length\/en i=0)->(ybu p g).runs res ws c=mapR (i+1) st:=fun hq=>by
    have e:=ybje (ybu p g) res ws c i;rw[show(ybu p g).en c=ybs p g c from rfl,hK0]at e
    exact e hj hi hq
   simp only[ycfz,ycmn,ybmm,ydd,yem,seeC,usV,cntV,go_sem,zC,zA,zD,zB,zI,zF,zG,zH,↓reduceIte,reduceCtorEq];refine⟨fun hlt=>.inl ?_,fun hlt=>?_⟩
   ·have hi':i<ws.length:=by omega
    by_cases h0:en i=0
    ·obtain⟨x,hF⟩:=ybbi hd (.fn 131 [] [.rf [.sl 1 (i+1) fun j=>[ybj (st j).1]],.rf [.sl 5 (i+1) fun j=>cntV (st j).2]]) (.i .u32 (2^g.ids.length-1:Nat)) (yem p g) hw hi';simp only[yem,usV,cntV]at hF;simp only[h0,zJ];refine hF.use ?_;simp only[ybf,ybci,ybbr,ybbl,go_sem,zC,zA,zD,zB,zI,zF,zG,zH,↓reduceIte,reduceCtorEq];refine⟨by decide,?_⟩
     simp only[ymp,go_sem,zC,zA,zD,zB,zI,zF,zG,zH,↓reduceIte,reduceCtorEq];refine⟨.tp [.ag (usV (mapR i ch)::usV (mapR (i+1) en)::ybj (st i).1::cntV (st i).2),.i .i64 0],O2,?_,?_,⟨_,_,_,_,rfl⟩,rfl⟩
     ·subst hO2;rw[fin (.inr h0)];refine ydp [] [] [(301,0),(302,0)] ?_;simp only[seeX,usV,cntV,ybhg,yuq,allQ,live,zM,zK,zL,yc,yu,ybi,zJ,go_sem,zC,zA,zD,zB,zI,zF,zG,zH,↓reduceIte,reduceCtorEq];refine⟨ychn ⟨ysx ⟨yid fun q hq=>by rw[gmR _ _ _ _ hq],yid fun q hq=>by rw[gmR _ _ _ _ hq],Sim.refl _,Sim.refl _,Sim.refl _,Sim.refl _,Sim.refl _,Sim.refl _,trivial⟩,Sim.refl _,trivial⟩,fun q hq=>?_,fun q hq=>?_⟩
      ·rw[gmR _ _ _ _ hq];exact Sim.refl _
      ·rw[gmR _ _ _ _ hq];exact⟨rfl,rfl,rfl,rfl,rfl⟩
     ·subst hO2;simp only[seeX,usV,cntV,ydt,yhw,allQ,live,zM,zK,zL,yc,yu,ybi,zJ,go_sem,zC,zA,zD,zB,zI,zF,zG,zH,↓reduceIte,reduceCtorEq]
    ·have hen24:en i<2^24:=by show ybs p g (st i).1<_;omega
     have henn:en i<2^net.length:=zAL eni (zY (by omega) hnl)
     have hF:=ybeg hd (.fn 131 [] [.rf [.sl 1 (i+1) fun j=>[ybj (st j).1]],.rf [.sl 5 (i+1) fun j=>cntV (st j).2]]) (.i .u32 (2^g.ids.length-1:Nat)) (yem p g) hw hen24 henn h0 hi';obtain⟨hch0,hchs⟩:=hd.sub (en i) (ws.getD i 0) h0 hen24;have hP:=hd.permits (en i) (ws.getD i 0) hen24 henn h0 (hw i);have hch24:ch i<2^24:=ycuc hchs hen24;have hSt:=ybwk p h.hg h.hp cin (s:=ch i) (by omega) hchs
     obtain⟨d,hdd⟩:∃d,yit p g (st i).1 (ch i)=d:=⟨_,rfl⟩;rw[hdd]at hSt;have hcd:yhb p g d=true:=by rw[<-hdd];exact ybip h.hg h.hp h.hf hci (ch i)
     simp only[yem,usV,cntV]at hF hP;refine hF.use ?_;simp only[ybf,ybci,ybpl,go_sem,zC,zA,zD,zB,zI,zF,zG,zH,↓reduceIte,reduceCtorEq];refine hP.use ?_;simp only[ybf,ybrp,go_sem,zC,zA,zD,zB,zI,zF,zG,zH,↓reduceIte,reduceCtorEq];refine hSt.useS ?_ ?_
     ·exact⟨ypr _ _,Sim.refl _,Sim.refl _,trivial⟩
     obtain⟨dr1,dr2⟩:=ymb h.hg h.hp hcd;have dcin:=yky h.hg h.hp hcd;have hE2:=yog p h.hg h.hp dcin;have hen2:=yctk p g d;obtain⟨e2,he2⟩:∃e,ybs p g d=e:=⟨_,rfl⟩;rw[he2]at hE2 hen2
     have ha2:IntKind.wrap .u32 (((zQ (IntKind.bits .u32) (e2:Int))&&&zQ (IntKind.bits .u32) ((2^g.ids.length-1:Nat):Int)).toNat:Int)=(e2:Int):=by
      have e:=u32_and (a:=e2) (b:=2^g.ids.length-1) (by omega) (by omega)
      rw[zT hen2]at e;exact e
     simp only[IntKind.bits]at ha2;simp only[ybf,ybno,clash,go_sem,zC,zA,zD,zB,zI,zF,zG,zH,↓reduceIte,reduceCtorEq];refine hE2.useS ?_ ?_
     ·exact⟨ypr _ _,Sim.refl _,trivial⟩
     have hA:=ycum hko (by omega) hch0 hch24 (e:=e2) (by omega)
     obtain⟨K2,hK2⟩:∃K,addP (st i).2 (ch i) e2=K:=⟨_,rfl⟩;rw[hK2]at hA;simp only[cntV]at hA;simp only[ybf,ybtf,clash,ha2,go_sem,zC,zA,zD,zB,zI,zF,zG,zH,↓reduceIte,reduceCtorEq];refine hA.use ?_;simp only[ybf,ybtz,go_sem,zC,zA,zD,zB,zI,zF,zG,zH,↓reduceIte,reduceCtorEq]
     let cs:List Conf:=(zAD (i+1)).map fun j=>(st j).1
     let ks:List Cnt:=(zAD (i+1)).map fun j=>(st j).2
     have lc:cs.length=i+1:=by simp[cs]
     have lk:ks.length=i+1:=by simp[ks]
     have hS2:=ybvu cs ks (by omega) (by omega) dr1 dr2 e2 K2
     simp only[cntV]at hS2;refine yhm hS2 [(1,201),(2,202),(3,203),(4,204)] 400 [40,39,1,3,4,8,9,10,11,12,14] [4,8,10,301,302,12,205,206] ?_ ?_
     ·simp only[seeO,lc,lk,cntV,to1,okN,ydt,yhw,yfp,yex,allQ,live,zM,zK,zL,yc,yu,ybi,zJ,go_sem,zC,zA,zD,zB,zI,zF,zG,zH,↓reduceIte,reduceCtorEq];refine⟨fun q hq=>?_,fun q hq=>?_⟩
      ·simp only[cs,gmr _ _ _ _ hq];exact Sim.refl _
      ·simp only[ks,gmr _ _ _ _ hq];exact⟨trivial,trivial,trivial,trivial,trivial⟩
     ·rintro r o' ⟨rfl,rfl⟩;simp only[seeO,cntV,zAA,lc,lk,ywi,yqi,nuF,nu,difN,yfp,yex,Fam.ren,OB.ren,dim,yfo,yzv,yxh,ynl,ynj,yiq,yny,ynm,yoc,yob,ynp,yoj,go_sem,zC,zA,zD,zB,zI,zF,zG,zH,↓reduceIte,reduceCtorEq];simp only[ybqg,ybmg,ybmc,splice,go_sem,zC,zA,zD,zB,zI,zF,zG,zH,↓reduceIte,reduceCtorEq]
      have hst:st (i+1)=(d,K2):=by
       show stAt (ybu p g) res ws c K0 (i+1)=_;rw[yxb];show(yit p g (st i).1 (ch i),addP (st i).2 (ch i) (ybs p g (yit p g (st i).1 (ch i))))=_;rw[hdd,he2,hK2]
      have hen':en (i+1)=e2:=by
       show ybs p g (st (i+1)).1=_;rw[hst];exact he2
      refine⟨⟨by omega,by omega⟩,⟨by omega,by omega⟩,ikw (by omega) (by omega),?_⟩
      refine yj (i+1) ⟨by omega,fun j hj'=>?_,by rw[hst];exact hcd,by rw[hst,<-hK2];exact ycqy hko hch24 hch0 (by omega),by rw[hst,<-hK2];show(st i).2.steps+1=i+1;omega⟩ (by omega) ?_
      ·by_cases q:j=i
       ·rw[q];exact h0
       ·exact hj j (by omega)
      refine ydp [(301,fun i=>(90,i)),(302,fun i=>(96,i))] [] [] ?_;simp only[ydd,yem,seeC,usV,cntV,hst,hen',allQ,live,zM,zK,zL,yc,yu,ybi,zJ,go_sem,zC,zA,zD,zB,zI,zF,zG,zH,↓reduceIte,reduceCtorEq];have hcs:∀k,k<i+1+1->(cs++[d]).getD k []=(st k).1:=yblc (fun j=>(st j).1) (i+1) d [] (by rw[hst])
      have hksx:∀k,k<i+1+1->(ks++[K2]).getD k default=(st k).2:=yblc (fun j=>(st j).2) (i+1) K2 default (by rw[hst])
      refine⟨by omega,fun q hq=>?_,fun q hq=>?_,fun q hq=>?_,fun q hq=>?_⟩
      ·by_cases q1:q<i
       ·simp only[if_pos q1];simp only[go_sem,allQ,live,zM,zK,zL,yc,yu,ybi,zJ,go_sem,zC,zA,zD,zB,zI,zF,zG,zH,↓reduceIte,reduceCtorEq]
       ·obtain rfl:q=i:=by omega
        simp only[if_neg q1,zAB,zU];simp only[ch,allQ,live,zM,zK,zL,yc,yu,ybi,zJ,go_sem,zC,zA,zD,zB,zI,zF,zG,zH,↓reduceIte,reduceCtorEq]
      ·by_cases q1:q<i+1
       ·simp only[if_pos q1];simp only[go_sem,allQ,live,zM,zK,zL,yc,yu,ybi,zJ,go_sem,zC,zA,zD,zB,zI,zF,zG,zH,↓reduceIte,reduceCtorEq]
       ·obtain rfl:q=i+1:=by omega
        simp only[if_neg q1,zAB,zU];simp only[hen',allQ,live,zM,zK,zL,yc,yu,ybi,zJ,go_sem,zC,zA,zD,zB,zI,zF,zG,zH,↓reduceIte,reduceCtorEq]
      ·rw[hcs q hq];exact Sim.refl _
      ·rw[hksx q hq];exact⟨rfl,rfl,rfl,rfl,rfl⟩
   ·obtain rfl:i=ws.length:=by omega
    simp only[ybbr,ybbl,go_sem,zC,zA,zD,zB,zI,zF,zG,zH,↓reduceIte,reduceCtorEq];refine⟨by decide,?_⟩
    simp only[ymp,go_sem,zC,zA,zD,zB,zI,zF,zG,zH,↓reduceIte,reduceCtorEq];refine⟨.tp [.ag (usV (mapR ws.length ch)::usV (mapR (ws.length+1) en)::ybj (st ws.length).1::cntV (st ws.length).2),.i .i64 0],O2,?_,?_,⟨_,_,_,_,rfl⟩,rfl⟩
    ·subst hO2;rw[fin (.inl rfl)];refine ydp [] [] [(301,0),(302,0)] ?_;simp only[seeX,usV,cntV,ybhg,yuq,allQ,live,zM,zK,zL,yc,yu,ybi,zJ,go_sem,zC,zA,zD,zB,zI,zF,zG,zH,↓reduceIte,reduceCtorEq];refine⟨ychn ⟨ysx ⟨yid fun q hq=>by rw[gmR _ _ _ _ hq],yid fun q hq=>by rw[gmR _ _ _ _ hq],Sim.refl _,Sim.refl _,Sim.refl _,Sim.refl _,Sim.refl _,Sim.refl _,trivial⟩,Sim.refl _,trivial⟩,fun q hq=>?_,fun q hq=>?_⟩
     ·rw[gmR _ _ _ _ hq];exact Sim.refl _
     ·rw[gmR _ _ _ _ hq];exact⟨rfl,rfl,rfl,rfl,rfl⟩
    ·subst hO2;simp only[seeX,usV,cntV,ydt,yhw,allQ,live,zM,zK,zL,yc,yu,ybi,zJ,go_sem,zC,zA,zD,zB,zI,zF,zG,zH,↓reduceIte,reduceCtorEq]
end
end Sh
end
section
namespace Sh
open Ev Go.RowKit
theorem Returns.exT{P:Program}{g:FuncId}{args:List SV}{r:SV}(h:Returns P g args r):Returns P g args (.ex TT r):=fun G m us h1 h2 h3=>by
 obtain⟨v,m',x,a,b,c,d,e⟩:=h G m us h1 h2 h3;exact⟨v,m',.ex TT r,a,b,c,rfl,.ex trivial (fun _ _ _ _ _=>trivial) (d▸e)⟩
section
variable {Q1 Q2:(Nat->Option ABlk)->Value->Prop}{p:ProgT}{g:Gr}
theorem ybnq(h:Checked Q1 Q2 p g){kind:Int}(hk:1<=kind/\kind<=4){c:Conf}(hc:yhb p g c=true){len:Nat}(hl:len<=4096):Returns zN 129 [.ag (yff Q1 Q2 p.raw),grV g,.i .i64 kind,ybj c,.i .i64 len] (.i .i64 0):=by
 refine Returns.of (ycrf _ _ ?_);have hC:=ybth h c;rw[if_pos hc]at hC;have hD:=ybhp kind;rw[decide_eq_true hk.1,decide_eq_true hk.2]at hD;have f1:decide ((len:Int)>4096)=false:=by simp;omega
 simp only[yff,grV]at hC;simp only[c129,yckz,ycki,yff,grV,go_sem,zC,zA,zD,zB,zI,zF,zG,zH,↓reduceIte,reduceCtorEq];refine hC.use ?_;simp only[ybf,ycbg,ycbx,zS,go_sem,zC,zA,zD,zB,zI,zF,zG,zH,↓reduceIte,reduceCtorEq];refine hD.use ?_;simp only[ybf,ycdc,ycbk,f1,yu,Bool.and_self,go_sem,zC,zA,zD,zB,zI,zF,zG,zH,↓reduceIte,reduceCtorEq]
theorem ybhw(h:Checked Q1 Q2 p g):Returns zN 93 [.ag (ylu p.raw),grV g] (yem p g):=by
 have hp':=h.hp;unfold ProgT.ok at hp';simp only[zO,decide_eq_true_eq]at hp';exact(yxv p.raw h.hg hp'.1.1.2 hp'.1.1.1.2).exT
theorem yzg(h:Checked Q1 Q2 p g)(kind:Int):Cm zN 130 [(201,0),(203,0)] ykw [.ag (yff Q1 Q2 p.raw),grV g,.i .i64 kind,seeC] fun r o=>r = .ag (ydd p g (g.ports.map netP) kind)/\o=ykw:=by
 refine ybvp [(201,0),(203,0)] [] _ _ _ ?_;have hM:=ybhw h;have hN:=ybib h.hg;have hA:=ycvo h.hg;simp only[grV]at hM hN hA;simp only[c130,ycma,yckv,yff,grV,seeC,ykw,clash,go_sem,zC,zA,zD,zB,zI,zF,zG,zH,↓reduceIte,reduceCtorEq];refine hM.useS ?_ ?_
 ·exact⟨ysx ⟨Sim.refl _,ypr _ _,ypr _ _,trivial⟩,Sim.refl _,trivial⟩
 simp only[usV,yem]at hN ⊢;simp only[ybf,clash,go_sem,zC,zA,zD,zB,zI,zF,zG,zH,↓reduceIte,reduceCtorEq];refine hN.use ?_;simp only[ybf,clash,go_sem,zC,zA,zD,zB,zI,zF,zG,zH,↓reduceIte,reduceCtorEq];refine⟨by decide,hA.use ?_⟩
 simp only[ybf,clash,ymp,go_sem,zC,zA,zD,zB,zI,zF,zG,zH,↓reduceIte,reduceCtorEq];refine⟨by decide,by decide,.ag (ydd p g (g.ports.map netP) kind),ykw,?_,?_,rfl,rfl⟩
 ·refine ydp [] [] [] ?_;simp only[ydd,yem,usV,seeC,ykw,allQ,live,zM,zK,zL,yc,yu,ybi,zJ,go_sem,zC,zA,zD,zB,zI,zF,zG,zH,↓reduceIte,reduceCtorEq]
 ·simp only[ydd,yem,usV,seeC,ykw,ydt,yhw,allQ,live,zM,zK,zL,yc,yu,ybi,zJ,go_sem,zC,zA,zD,zB,zI,zF,zG,zH,↓reduceIte,reduceCtorEq]
theorem ybur(h:Checked Q1 Q2 p g){kind:Int}{net:List Nat}(hnl:g.ids.length<=net.length){res:Nat->Nat->Nat}(hd:DaemonOk kind net res){c:Conf}(hc:yhb p g c=true){ws:List Nat}(hw:∀k,ws.getD k 0<2^32)(hwl:ws.length<=4000) :
 Cm zN 133 [(201,0),(203,0)] ykw [.ag (ydd p g net kind),ybj c,usV ws]
  fun r o=>(∃l1 l2 c' k',r = .tp [.ag (usV l1::usV l2::ybj c'::cntV k'),.i .i64 0])/\o=seeX ((ybu p g).runs res ws c |>.map (·.1)) ((ybu p g).runs res ws c |>.map (·.2)):=by
 refine ybzm [(201,0),(203,0)] [168] _ _ _ ?_;have hX:=ybim h hnl hd hc hw hwl
 generalize ((ybu p g).runs res ws c).map (·.1)=CS at hX ⊢
 generalize ((ybu p g).runs res ws c).map (·.2)=KS at hX ⊢
 simp only[c133,yclc,ycmq,ykw,ydd,yem,usV,seeC,go_sem,zC,zA,zD,zB,zI,zF,zG,zH,↓reduceIte,reduceCtorEq];refine yhm hX [(201,201),(203,203),(205,3),(206,5)] 0 [6,7] [6] ?_ ?_
 ·simp only[ykw,ybtd,ydd,yem,usV,seeC,List.cons_append,List.nil_append,to1,okN,ydt,yhw,yfp,yex,allQ,live,zM,zK,zL,yc,yu,ybi,zJ,go_sem,zC,zA,zD,zB,zI,zF,zG,zH,↓reduceIte,reduceCtorEq]
 ·rintro r o' ⟨⟨l1,l2,c',k',rfl⟩,rfl⟩;simp only[seeX,usV,cntV,ywi,yqi,nuF,nu,difN,yfp,yex,Fam.ren,OB.ren,dim,yfo,yzv,yxh,ynl,ynj,yiq,yny,ynm,yoc,yob,ynp,yoj,go_sem,zC,zA,zD,zB,zI,zF,zG,zH,↓reduceIte,reduceCtorEq];simp only[ymp,go_sem,zC,zA,zD,zB,zI,zF,zG,zH,↓reduceIte,reduceCtorEq];refine⟨.tp [.ag (usV l1::usV l2::ybj c'::cntV k'),.i .i64 0],seeX CS KS,?_,?_,⟨l1,l2,c',k',rfl⟩,rfl⟩
  ·refine ydp [] [] [] ?_;simp only[seeX,usV,cntV,allQ,live,zM,zK,zL,yc,yu,ybi,zJ,go_sem,zC,zA,zD,zB,zI,zF,zG,zH,↓reduceIte,reduceCtorEq]
  ·simp only[seeX,usV,cntV,ydt,yhw,allQ,live,zM,zK,zL,yc,yu,ybi,zJ,go_sem,zC,zA,zD,zB,zI,zF,zG,zH,↓reduceIte,reduceCtorEq]
def yef(l:List Conf):SV:=.sl 1 l.length (fun i=>[ybj (l.getD i [])])
def ygu(l:List Cnt):SV:=.sl 5 l.length (fun i=>cntV (l.getD i default))
theorem yblx(h:Checked Q1 Q2 p g){kind:Int}(hk:1<=kind/\kind<=4){res:Nat->Nat->Nat}(hd:DaemonOk kind (g.ports.map netP) res){c:Conf}(hc:yhb p g c=true){ws:List Nat}(hw:∀k,ws.getD k 0<2^32)(hwl:ws.length<=4000) :
 Returns zN 78 [.ag (yff Q1 Q2 p.raw),grV g,.i .i64 kind,ybj c,usV ws] (.tp [yef (((ybu p g).runs res ws c).map (·.1)),ygu (((ybu p g).runs res ws c).map (·.2)),.i .i64 0]):=by
 refine Returns.of (ycwu [130,133] _ _ ?_);have hC:=ybnq h hk hc (len:=ws.length) (by omega)
 have hN:=yzg h kind;have hX:=ybur h (by have:=h.hg.2.2.1;rw[zAO];omega) hd hc hw hwl
 generalize ((ybu p g).runs res ws c).map (·.1)=CS at hX ⊢
 generalize ((ybu p g).runs res ws c).map (·.2)=KS at hX ⊢
 simp only[yff,grV]at hC;simp only[c78,ydde,yddb,yff,grV,usV,go_sem,zC,zA,zD,zB,zI,zF,zG,zH,↓reduceIte,reduceCtorEq];refine hC.use ?_;simp only[ybf,yddh,ydbd,ydby,ycyo,zS,go_sem,zC,zA,zD,zB,zI,zF,zG,zH,↓reduceIte,reduceCtorEq];refine yhm hN [(201,14),(203,15)] 0 [3,4,14,15] [] ?_ ?_
 ·simp only[ykw,seeC,yff,grV,to1,okN,ydt,yhw,yfp,yex,allQ,live,zM,zK,zL,yc,yu,ybi,zJ,go_sem,zC,zA,zD,zB,zI,zF,zG,zH,↓reduceIte,reduceCtorEq]
 rintro r o' ⟨rfl,rfl⟩;simp only[ykw,ydd,yem,usV,seeC,ywi,yqi,nuF,nu,difN,yfp,yex,Fam.ren,OB.ren,dim,yfo,yzv,yxh,ynl,ynj,yiq,yny,ynm,yoc,yob,ynp,yoj,go_sem,zC,zA,zD,zB,zI,zF,zG,zH,↓reduceIte,reduceCtorEq];simp only[yczt,go_sem,zC,zA,zD,zB,zI,zF,zG,zH,↓reduceIte,reduceCtorEq];simp only[ydd,yem,usV,seeC]at hX;refine yhm hX [(201,14),(203,15)] 0 [14,15] [] ?_ ?_
 ·simp only[ykw,to1,okN,ydt,yhw,yfp,yex,allQ,live,zM,zK,zL,yc,yu,ybi,zJ,go_sem,zC,zA,zD,zB,zI,zF,zG,zH,↓reduceIte,reduceCtorEq]
 rintro r o' ⟨⟨l1,l2,c',k',rfl⟩,rfl⟩;simp only[seeX,usV,cntV,ywi,yqi,nuF,nu,difN,yfp,yex,Fam.ren,OB.ren,dim,yfo,yzv,yxh,ynl,ynj,yiq,yny,ynm,yoc,yob,ynp,yoj,go_sem,zC,zA,zD,zB,zI,zF,zG,zH,↓reduceIte,reduceCtorEq];simp only[ydbz,ycex,clash,zS,yef,ygu,go_sem,zC,zA,zD,zB,zI,zF,zG,zH,↓reduceIte,reduceCtorEq];exact Sim.refl _
end
end Sh
end
section
def ybw(v m:Int):Int:=if m<1 then 0 else v%m
def atP(l:List Int)(i:Nat):Int:=l.getD i 0
theorem yee{v m:Int}(h:1<=m):0<=ybw v m/\ybw v m<m:=by
 unfold ybw;rw[if_neg (by omega)]
 exact⟨zAI _ (by omega),zAC _ (by omega)⟩
namespace Sh
open Ev Go.RowKit
theorem ybfx{v m:Int}(h:1<=m):(if v.tmod m<0 then v.tmod m+m else v.tmod m)=v%m:=by
 have h1:=Int.emod_add_mul_ediv v m;have h2:=zAI v (show m≠0 by omega)
 have h3:=zAC v (show 0<m by omega)
 have h4:=Int.tmod_eq_emod (a:=v) (b:=m);have h5:(m.natAbs:Int)=m:=by omega
 rw[h4]
 by_cases q:0<=v\/m ∣ v
 ·simp only[if_pos q,zJ,Int.sub_zero];rw[if_neg (by omega)]
 ·simp only[if_neg q,h5];rw[if_pos (by omega)]
  omega
theorem ydl(v m:Int)(hm:m<=4611686018427387904)(hv:inK .i64 v):Returns zN 39 [.i .i64 v,.i .i64 m] (.i .i64 (ybw v m)):=by
 refine Returns.of (ycyp _ _ ?_);simp only[c39,ycxv,ydbf,yczj,ydat,ycyg,yczx,yddf,yu,go_sem,zA,zD,↓reduceIte,reduceCtorEq];unfold ybw;refine⟨fun h=>by rw[if_pos h],fun h=>⟨by omega,fun h2=>?_,fun h2=>?_⟩⟩
 ·have h3:=ybfx (v:=v) (show 1<=m by omega)
  rw[if_pos h2]at h3;rw[if_neg h,h3];have h4:=zAI v (show m≠0 by omega)
  have h5:=zAC v (show 0<m by omega)
  exact⟨ikw (by omega) (by omega),rfl⟩
 ·have h3:=ybfx (v:=v) (show 1<=m by omega)
  rw[if_neg h2]at h3;rw[if_neg h,h3]
theorem at_ret(l:List Int)(i:Nat):Returns zN 77 [yw l,.i .i64 i] (.i .i64 (atP l i)):=by
 refine Returns.of (ydal _ _ ?_);simp only[c77,ydcr,yczw,ydah,ydbg,yw,yu,go_sem,zA,zD,↓reduceIte,reduceCtorEq];exact⟨fun h=>⟨by omega,rfl⟩,fun h=>by unfold atP;rw[zW,zAG (by omega)];rfl⟩
theorem wrap32(z:Int):0<=IntKind.wrap .u32 z/\IntKind.wrap .u32 z<2^32:=by
 unfold IntKind.wrap;simp only[IntKind.signed,IntKind.bits];exact⟨zAI _ (by decide),zAC _ (by decide)⟩
theorem yqv{α:Type}(l:List α)(x d:α)(i:Nat):(l++[x]).getD i d=if i<l.length then l.getD i d else if i=l.length then x else d:=by
 by_cases h:i<l.length
 ·simp[zW,zAN h,h]
 ·by_cases e:i=l.length
  ·subst e;simp[zW]
  ·rw[if_neg h,if_neg e,zW,zAG (by simp;omega)]
   rfl
theorem ybhm(l:List Nat)(hb:∀k,l.getD k 0<2^32)(n:Nat)(hn:n<=1000):Ct zN 26 [usV l,.i .i64 n] fun r=>∃ws:List Nat,ws.length=n/\(∀k,ws.getD k 0<2^32)/\Sim r (usV ws):=by
 refine yddj _ _ ?_;simp only[c26,ycxu,yddx,ydaq,usV,go_sem,zC,zA,zD,zB,zI,zF,zG,zH,↓reduceIte,reduceCtorEq];refine ybl (σ:=List Nat) (fun ws=>⟨[(6,.i .i64 ws.length),(1,.i .i64 n),(0,usV l),(5,.os (100,0) 0 ws.length true)],[(100,.one (some ⟨40,false,1,ws.length,fun k=>[.i .u32 (ws.getD k 0:Nat)]⟩))]⟩) (fun ws=>ws.length<=n/\∀k,ws.getD k 0<2^32) (fun ws=>n-ws.length) [] ⟨zAJ _,fun k=>by simp⟩ ?_ ?_
 ·refine yh [] [100] [] ?_;simp only[usV,List.length_nil,allQ,live,zM,zK,zL,yc,yu,ybi,zJ,go_sem,zC,zA,zD,zB,zI,zF,zG,zH,↓reduceIte,reduceCtorEq];exact⟨(100,0),rfl,rfl,rfl⟩
 ·rintro ws ⟨h1,h2⟩;simp only[ycxy,ydcj,usV,go_sem,zC,zA,zD,zB,zI,zF,zG,zH,↓reduceIte,reduceCtorEq];refine⟨fun hlt=>⟨fun h0=>?_,fun h0=>?_⟩,fun hlt=>?_⟩
  ·simp only[yctm,yddr,splice,go_sem,zC,zA,zD,zB,zI,zF,zG,zH,↓reduceIte,reduceCtorEq];refine⟨⟨by omega,by omega⟩,ikw (by omega) (by omega),?_⟩
   refine yj (ws++[4294967295]) ⟨by simp;omega,fun k=>?_⟩ (by simp;omega) ?_
   ·rw[yqv];split
    ·exact h2 k
    ·split<;>decide
   refine yh [(100,fun i=>(19,i))] [] [] ?_;simp only[usV,zAA,allQ,live,zM,zK,zL,yc,yu,ybi,zJ,go_sem,zC,zA,zD,zB,zI,zF,zG,zH,↓reduceIte,reduceCtorEq];refine⟨by omega,fun i hi=>?_⟩
   rw[yqv]
   by_cases q:i<ws.length
   ·simp only[if_pos q];simp only[allQ,live,zM,zK,zL,yc,yu,ybi,zJ,go_sem,zC,zA,zD,zB,zI,zF,zG,zH,↓reduceIte,reduceCtorEq]
   ·obtain rfl:i=ws.length:=by omega
    simp only[if_neg q,zAB,zU];simp only[allQ,live,zM,zK,zL,yc,yu,ybi,zJ,go_sem,zC,zA,zD,zB,zI,zF,zG,zH,↓reduceIte,reduceCtorEq];rfl
  ·simp only[ydec,ydcl,splice,clash,go_sem,zC,zA,zD,zB,zI,zF,zG,zH,↓reduceIte,reduceCtorEq];have hl0:0<l.length:=by omega
   have t1:(ws.length:Int).tmod (l.length:Int)=((ws.length%l.length:Nat):Int):=(zAW _ _).symm;have t2:(ws.length:Int).tdiv (l.length:Int)=((ws.length/l.length:Nat):Int):=(Int.ofNat_tdiv _ _).symm;have t3:((ws.length/l.length:Nat):Int).tmod 24=((ws.length/l.length%24:Nat):Int):=(zAW _ 24).symm;have hlt1:=zBC ws.length hl0;have hle1:=zAV ws.length l.length;obtain⟨D,hD⟩:∃D,ws.length/l.length=D:=⟨_,rfl⟩
   rw[hD]at t2 t3 hle1;obtain⟨K,hK⟩:∃K,D%24=K:=⟨_,rfl⟩;have hK24:K<24:=by rw[<-hK];exact zBC _ (by decide)
   have t4:IntKind.wrap .u64 (K:Int)=K:=by unfold IntKind.wrap;simp[IntKind.bits,IntKind.signed];omega
   simp only[t1,t2,t3,hK,t4]
   generalize IntKind.wrap .u32 _=A
   refine⟨by omega,⟨by omega,by omega⟩,⟨by omega,ikw (by omega) (by omega)⟩,by decide,?_⟩
   simp only[yctm,ycxn,splice,go_sem,zC,zA,zD,zB,zI,zF,zG,zH,↓reduceIte,reduceCtorEq]
   generalize hZ:IntKind.wrap .u32 ((BitVec.toNat _:Nat):Int)=Z
   have hz:0<=Z/\Z<2^32:=by rw[<-hZ];exact wrap32 _
   obtain⟨z,rfl⟩:∃z:Nat,Z=z:=⟨Z.toNat,by omega⟩
   refine⟨⟨by omega,by show _<((32:Nat):Int);omega⟩,⟨by simp[IntKind.min,IntKind.signed];omega,by simp[IntKind.max,IntKind.bits,IntKind.signed];omega⟩,⟨by omega,by show _<((32:Nat):Int);omega⟩,⟨by omega,by omega⟩,ikw (by omega) (by omega),?_⟩
   refine yj (ws++[z]) ⟨by simp;omega,fun k=>?_⟩ (by simp;omega) ?_
   ·rw[yqv];split
    ·exact h2 k
    ·split<;>omega
   refine yh [(100,fun i=>(46,i))] [] [] ?_;simp only[usV,zAA,allQ,live,zM,zK,zL,yc,yu,ybi,zJ,go_sem,zC,zA,zD,zB,zI,zF,zG,zH,↓reduceIte,reduceCtorEq];refine⟨by omega,fun i hi=>?_⟩
   rw[yqv]
   by_cases q:i<ws.length
   ·simp only[if_pos q];simp only[allQ,live,zM,zK,zL,yc,yu,ybi,zJ,go_sem,zC,zA,zD,zB,zI,zF,zG,zH,↓reduceIte,reduceCtorEq]
   ·obtain rfl:i=ws.length:=by omega
    simp only[if_neg q,zAB,zU];simp only[allQ,live,zM,zK,zL,yc,yu,ybi,zJ,go_sem,zC,zA,zD,zB,zI,zF,zG,zH,↓reduceIte,reduceCtorEq]
  ·simp only[ychj,go_sem,zC,zA,zD,zB,zI,zF,zG,zH,↓reduceIte,reduceCtorEq];exact⟨ws,by omega,h2,Sim.refl _⟩
end Sh
end
end Go.Proofs.YtiejahgklcjhkaaGreatDoor
