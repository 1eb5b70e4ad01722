/- Joined. -/
import Derived.Test.YtiejahgklcjhkaaGreatPkX11
set_option linter.unusedSimpArgs false
set_option linter.unusedVariables false
set_option maxRecDepth 8000
open Go.Lib renaming hid→zA
open Nat renaming reduceEqDiff→zB,reduceLeDiff→zH,reduceAdd→zI,le_refl→zJ,reduceLT→zM,reduceBEq→zO,reduceBNe→zQ,reduceMul→zS,shiftRight_eq_div_pow→zT,lt_of_le_of_lt→zX,mod_eq_of_lt→zAA,testBit_and→zAF,zero_le→zAG,testBit_lt_two_pow→zAH,eq_of_testBit_eq→zAK,pow_le_pow_right→zAL,pow_lt_pow_right→zAN,lt_of_lt_of_le→zAU,div_le_self→zBG,lt_or_ge→zBK
open List renaming getElem?_eq_getElem→zC,getD→zG,range→zV,getElem_mem→zY,replicate→zAB,take_length→zAC,length_erase_of_mem→zAD,getElem?_cons_zero→zAE,getElem?_set_self→zAI,mem_of_getElem?→zAJ,getElem?_set_ne→zAO,mem_cons_of_mem→zAP,mem_erase_of_ne→zAQ,length_append→zAS,mem_cons_self→zAV,foldl_append→zAW,pairwise_map→zAX,all_eq_true→zBA,length_drop→zBC,length_cons→zBD,any_append→zBE,range_succ→zBF,length_map→zBH,flatMap→zBL
open BitVec renaming ofInt→zD,ofInt_natCast→zN,toNat_ofNat→zW,getLsbD_ofNat→zAM
open Go.Proofs.Tryz renaming prog→zF,ntmps112→zAR,func112→zAT,func76→zAY,func41→zAZ,ntmps76→zBI,ntmps41→zBJ,func77→zBM,func82→zBN
open Int renaming toNat_natCast→zK,reduceToNat→zL,eq_ofNat_of_zero_le→zU,natCast_zero→zBB
open Bool renaming and_eq_true→zZ
open Classical renaming choose_spec→zBO,choose→zBP
open Go
namespace Go.Proofs.YtiejahgklcjhkaaGreat
section
namespace Sh
open Go Ev
def varC(x:VarR):List SV:=[.a (.string x.name),.i .i64 x.kind,.i .i64 x.lo,.i .i64 x.hi,.i .i64 x.perNode,.i .i64 x.perID]
def ygk(l:List VarR):SV:=.sl 6 l.length (fun k=>varC (l.getD k default))
def yjc(l:List SetR):SV:=.sl 2 l.length (fun k=>[.i .i64 (l.getD k default).var,ybh (l.getD k default).val])
def yfd(l:List RuleR):SV:=.sl 3 l.length (fun k=>[.a (.string (l.getD k default).name),ybh (l.getD k default).guard,yjc (l.getD k default).sets])
def yfp(g:Gr):SV:=.sl 1 g.ports.length (fun v=>[ybg (ybrb g v)])
theorem ybex(l:List Int):one1 (ybg l)=true:=rfl
theorem yxk{n:Nat}(l:List Int):owned (n+1) (ybg l)=false:=rfl
theorem yub{n:Nat}(l:List Int):scalar (n+1) (ybg l)=false:=rfl
theorem ybdn{n:Nat}(o:Own)(l:List Int):view o (n+1) (ybg l)=ybg l:=rfl
theorem ybhs{n:Nat}(o:Own)(l:List Int):vok o (n+1) (ybg l)=True:=rfl
theorem ybis{n:Nat}(h:Nm->Nm)(l:List Int):ren h (n+1) (ybg l)=ybg l:=rfl
theorem ybif{n:Nat}(L:Nm->Bool)(l:List Int):cln L (n+1) (ybg l)=true:=rfl
theorem yym(l:List (Int×Int)):one1 (ybh l)=true:=rfl
theorem yto{n:Nat}(l:List (Int×Int)):owned (n+1) (ybh l)=false:=rfl
theorem ysx{n:Nat}(l:List (Int×Int)):scalar (n+1) (ybh l)=false:=rfl
theorem yxu{n:Nat}(o:Own)(l:List (Int×Int)):view o (n+1) (ybh l)=ybh l:=rfl
theorem ybfq{n:Nat}(o:Own)(l:List (Int×Int)):vok o (n+1) (ybh l)=True:=rfl
theorem ybdh{n:Nat}(h:Nm->Nm)(l:List (Int×Int)):ren h (n+1) (ybh l)=ybh l:=rfl
theorem ybcz{n:Nat}(L:Nm->Bool)(l:List (Int×Int)):cln L (n+1) (ybh l)=true:=rfl
theorem ybag(l:List (List (Int×Int))):one1 (yw l)=true:=rfl
theorem yts{n:Nat}(l:List (List (Int×Int))):owned (n+1) (yw l)=false:=rfl
theorem yrv{n:Nat}(l:List (List (Int×Int))):scalar (n+1) (yw l)=false:=rfl
theorem yxg{n:Nat}(o:Own)(l:List (List (Int×Int))):view o (n+1) (yw l)=yw l:=rfl
theorem ybfb{n:Nat}(o:Own)(l:List (List (Int×Int))):vok o (n+1) (yw l)=True:=rfl
theorem ybdc{n:Nat}(h:Nm->Nm)(l:List (List (Int×Int))):ren h (n+1) (yw l)=yw l:=rfl
theorem ybfm{n:Nat}(L:Nm->Bool)(l:List (List (Int×Int))):cln L (n+1) (yw l)=true:=rfl
theorem ybfc(l:List (List Int)):one1 (ycn l)=true:=rfl
theorem yzi{n:Nat}(l:List (List Int)):owned (n+1) (ycn l)=false:=rfl
theorem yvk{n:Nat}(l:List (List Int)):scalar (n+1) (ycn l)=false:=rfl
theorem ybdk{n:Nat}(o:Own)(l:List (List Int)):view o (n+1) (ycn l)=ycn l:=rfl
theorem ybjq{n:Nat}(o:Own)(l:List (List Int)):vok o (n+1) (ycn l)=True:=rfl
theorem ybjh{n:Nat}(h:Nm->Nm)(l:List (List Int)):ren h (n+1) (ycn l)=ycn l:=rfl
theorem ybhf{n:Nat}(L:Nm->Bool)(l:List (List Int)):cln L (n+1) (ycn l)=true:=rfl
theorem ybet(l:List VarR):one1 (ygk l)=true:=rfl
theorem yyf{n:Nat}(l:List VarR):owned (n+1) (ygk l)=false:=rfl
theorem yvf{n:Nat}(l:List VarR):scalar (n+1) (ygk l)=false:=rfl
theorem ybeo{n:Nat}(o:Own)(l:List VarR):view o (n+1) (ygk l)=ygk l:=rfl
theorem ybgb{n:Nat}(o:Own)(l:List VarR):vok o (n+1) (ygk l)=True:=rfl
theorem ybfx{n:Nat}(h:Nm->Nm)(l:List VarR):ren h (n+1) (ygk l)=ygk l:=rfl
theorem ybln{n:Nat}(L:Nm->Bool)(l:List VarR):cln L (n+1) (ygk l)=true:=rfl
theorem ybcx(l:List SetR):one1 (yjc l)=true:=rfl
theorem yzp{n:Nat}(l:List SetR):owned (n+1) (yjc l)=false:=rfl
theorem yuu{n:Nat}(l:List SetR):scalar (n+1) (yjc l)=false:=rfl
theorem ybek{n:Nat}(o:Own)(l:List SetR):view o (n+1) (yjc l)=yjc l:=rfl
theorem yble{n:Nat}(o:Own)(l:List SetR):vok o (n+1) (yjc l)=True:=rfl
theorem ybht{n:Nat}(h:Nm->Nm)(l:List SetR):ren h (n+1) (yjc l)=yjc l:=rfl
theorem ybkt{n:Nat}(L:Nm->Bool)(l:List SetR):cln L (n+1) (yjc l)=true:=rfl
theorem yxm(l:List RuleR):one1 (yfd l)=true:=rfl
theorem yty{n:Nat}(l:List RuleR):owned (n+1) (yfd l)=false:=rfl
theorem yst{n:Nat}(l:List RuleR):scalar (n+1) (yfd l)=false:=rfl
theorem yxy{n:Nat}(o:Own)(l:List RuleR):view o (n+1) (yfd l)=yfd l:=rfl
theorem ybfe{n:Nat}(o:Own)(l:List RuleR):vok o (n+1) (yfd l)=True:=rfl
theorem ybcr{n:Nat}(h:Nm->Nm)(l:List RuleR):ren h (n+1) (yfd l)=yfd l:=rfl
theorem ybfg{n:Nat}(L:Nm->Bool)(l:List RuleR):cln L (n+1) (yfd l)=true:=rfl
theorem yzz(l:Gr):one1 (yfp l)=true:=rfl
theorem yuf{n:Nat}(l:Gr):owned (n+1) (yfp l)=false:=rfl
theorem yrq{n:Nat}(l:Gr):scalar (n+1) (yfp l)=false:=rfl
theorem yyw{n:Nat}(o:Own)(l:Gr):view o (n+1) (yfp l)=yfp l:=rfl
theorem yben{n:Nat}(o:Own)(l:Gr):vok o (n+1) (yfp l)=True:=rfl
theorem ybeg{n:Nat}(h:Nm->Nm)(l:Gr):ren h (n+1) (yfp l)=yfp l:=rfl
theorem ybep{n:Nat}(L:Nm->Bool)(l:Gr):cln L (n+1) (yfp l)=true:=rfl
theorem yxf{n:Nat}(fr:List Nm)(o:Own)(l:List Int):ycr fr o (n+1) (ybg l)=ybg l:=rfl
theorem ybgx{n:Nat}(fr:List Nm)(o:Own)(l:List Int):pok fr o (n+1) (ybg l)=True:=rfl
theorem ytw{n:Nat}(fr:List Nm)(o:Own)(l:List (Int×Int)):ycr fr o (n+1) (ybh l)=ybh l:=rfl
theorem ybdf{n:Nat}(fr:List Nm)(o:Own)(l:List (Int×Int)):pok fr o (n+1) (ybh l)=True:=rfl
theorem yvh{n:Nat}(fr:List Nm)(o:Own)(l:List (List (Int×Int))):ycr fr o (n+1) (yw l)=yw l:=rfl
theorem ybdy{n:Nat}(fr:List Nm)(o:Own)(l:List (List (Int×Int))):pok fr o (n+1) (yw l)=True:=rfl
theorem yyn{n:Nat}(fr:List Nm)(o:Own)(l:List (List Int)):ycr fr o (n+1) (ycn l)=ycn l:=rfl
theorem ybjf{n:Nat}(fr:List Nm)(o:Own)(l:List (List Int)):pok fr o (n+1) (ycn l)=True:=rfl
theorem yyd{n:Nat}(fr:List Nm)(o:Own)(l:List VarR):ycr fr o (n+1) (ygk l)=ygk l:=rfl
theorem ybla{n:Nat}(fr:List Nm)(o:Own)(l:List VarR):pok fr o (n+1) (ygk l)=True:=rfl
theorem yyi{n:Nat}(fr:List Nm)(o:Own)(l:List SetR):ycr fr o (n+1) (yjc l)=yjc l:=rfl
theorem ybho{n:Nat}(fr:List Nm)(o:Own)(l:List SetR):pok fr o (n+1) (yjc l)=True:=rfl
theorem yvt{n:Nat}(fr:List Nm)(o:Own)(l:List RuleR):ycr fr o (n+1) (yfd l)=yfd l:=rfl
theorem ybel{n:Nat}(fr:List Nm)(o:Own)(l:List RuleR):pok fr o (n+1) (yfd l)=True:=rfl
theorem yxa{n:Nat}(fr:List Nm)(o:Own)(l:Gr):ycr fr o (n+1) (yfp l)=yfp l:=rfl
theorem ybfa{n:Nat}(fr:List Nm)(o:Own)(l:Gr):pok fr o (n+1) (yfp l)=True:=rfl
theorem ybap(l:List Int):SV.cells (ybg l)=[ybg l]:=rfl
theorem ytt(l:List (Int×Int)):SV.cells (ybh l)=[ybh l]:=rfl
theorem ywk(l:List (List (Int×Int))):SV.cells (yw l)=[yw l]:=rfl
theorem yxq(l:List (List Int)):SV.cells (ycn l)=[ycn l]:=rfl
theorem ybam(l:List VarR):SV.cells (ygk l)=[ygk l]:=rfl
theorem yxi(l:List SetR):SV.cells (yjc l)=[yjc l]:=rfl
theorem yug(l:List RuleR):SV.cells (yfd l)=[yfd l]:=rfl
theorem yxb(l:Gr):SV.cells (yfp l)=[yfp l]:=rfl
attribute [go_sem] ybex yxk yub ybdn ybhs ybis ybif yym yto ysx yxu ybfq ybdh ybcz
attribute [go_sem] ybag yts yrv yxg ybfb ybdc ybfm ybfc yzi yvk ybdk ybjq ybjh
attribute [go_sem] ybhf ybet yyf yvf ybeo ybgb ybfx ybln ybcx yzp yuu ybek yble ybht
attribute [go_sem] ybkt yxm yty yst yxy ybfe ybcr ybfg yzz yuf yrq yyw yben
attribute [go_sem] ybeg ybep yxf ybgx ytw ybdf yvh ybdy yyn ybjf yyd ybla yyi ybho
attribute [go_sem] yvt ybel yxa ybfa ybap ytt ywk yxq ybam yxi yug yxb
end Sh
end
section
open Go.RowKit
theorem ysc(gv:Value)(g:Gr)(w:World)(hg:GrAt w gv g) :
 Calls zF 76 #[gv] w fun e w'=>e = .returned (.bool (ydd g))/\Below w.heap.size w w':=by
 have hg0:=zA hg;obtain⟨i,p,rfl,hi,hp⟩:=hg
 clear hi hp
 cases hv:ybw g with
 | false =>
   have Hf:=zA (show ydd g=false by unfold ydd;rw[hv];rfl)
   go_enter zAY,zBI
   go_wp2_with fail
   refine(ynu _ g _ (hg0.out.below ((Below.refl _ _).alloc (zJ _) _))).mono ?_;rintro e w1 ⟨rfl,hb1⟩
   go_wp2_with fail
   go_ret
   exact⟨yx Hf.out.symm,ygh hb1⟩
 | true =>
   have hgood:=(ybr g).1 hv;have hn1:=hgood.1;have hn24:=hgood.2.1;have Hgood:=zA hgood;have Hd:=zA (yfw hgood (a:=0) (by omega))
   have Hc:=zA (show ydd g=(ybo g 0).all (fun x=>decide (0<=x))by unfold ydd;rw[hv];rfl)
   clear hgood
   go_enter zAY,zBI
   go_wp2_with fail
   refine(ynu _ g _ (hg0.out.below ((Below.refl _ _).alloc (zJ _) _))).mono ?_;rintro e w1 ⟨rfl,hb1⟩;obtain⟨q0,q1⟩:=ywf hb1;have Hb1:=zA (ygh hb1)
   clear hb1
   go_wp2_with fail
   refine(ybdz _ g 0 _ (hg0.out.below Hb1.out) Hgood.out (by omega)).mono ?_
   rintro e w2 ⟨v,rfl,hv2,hb2⟩;have Hb2:=zA (Hb1.out.trans (hb2.mono Hb1.out.size));obtain⟨A,c,rfl,hA1,hA2⟩:=ybe hv2;have Hv2:=zA hv2
   clear hb2 hv2
   obtain⟨D,hD⟩:∃D,ybo g 0=D:=⟨_,rfl⟩;rw[hD]at Hv2 Hd hA1 Hc ⊢
   clear hD
   go_wp2
   go_loopg [11] D.length (fun q t wr=>∃k:Nat,q+k=D.length/\t = .int .i64 k/\wr=w2/\Hid (∀j (hj:j<D.length),j<k->0<=D[j]))
   case atStart=>exact⟨0,by omega,rfl,rfl,zA (fun j _ hj=>absurd hj (by omega))⟩
   case round =>
    obtain⟨k,hq,rfl,rfl,hall⟩:=hrel
    by_cases hlt:k<D.length
    ·obtain⟨b,off,rfl,hb,hc,hr⟩:=ydj Hv2.out hlt
     by_cases c1:D[k]<0
     ·have Hf:=zA (show ydd g=false by
       rw[Hc.out,List.all_eq_false];exact⟨D[k],zY hlt,by simp;omega⟩)
      go_wp2
      go_ret
      exact⟨yx Hf.out.symm,Hb2.out⟩
     ·go_wp2
      go_roundg (gk-1)
      case measure=>omega
      case rel =>
       refine⟨k+1,by omega,by go_num,rfl,zA (fun j hj hjk=>?_)⟩
       by_cases e:j=k
       ·subst e;omega
       ·exact hall.out j hj (by omega)
    ·obtain rfl:k=D.length:=by omega
     have Ht:=zA (show ydd g=true by
      rw[Hc.out,zBA];intro x hx;obtain⟨j,hj,rfl⟩:=List.mem_iff_getElem.1 hx;exact decide_eq_true (hall.out j hj hj))
     go_wp2
     go_ret
     exact⟨yx Ht.out.symm,Hb2.out⟩
theorem yfb{g:Gr}(h:ydd g=true):ybw g=true:=(zZ _ _▸h).1
end
section
namespace Sh
open Ev Go.RowKit
theorem ychr{α:Type}(l:List α)(x d:α)(i:Nat):(l++[x]).getD i d=if i<l.length then l.getD i d else if i=l.length then x else d:=by
 by_cases h:i<l.length
 ·simp[zG,List.getElem?_append_left h,h]
 ·by_cases e:i=l.length
  ·subst e;simp[zG]
  ·rw[if_neg h,if_neg e,zG,List.getElem?_eq_none (by simp;omega)]
   rfl
theorem ycjl(k i:Nat)(hi:i≠k):(if i<k+1 then(-1:Int)else 0)=if i<k then -1 else 0:=by
 by_cases h:i<k
 ·rw[if_pos h,if_pos (by omega)]
 ·rw[if_neg h,if_neg (by omega)]
theorem ybcw(g:Gr)(a i:Nat)(ha:a<g.ports.length)(hi:i<g.ports.length):(start g a).getD i 0=if i=a then 0 else -1:=by
 unfold start;rw[ybcl (by simpa using ha)]
 split
 ·rfl
 ·rw[List.getD_eq_getElem?_getD,List.getElem?_replicate,if_pos hi];rfl
theorem ybei{g:Gr}(hg:ybj g){a:Nat}(ha:a<g.ports.length):Returns zF 81 [grV g,.i .i64 a] (ybg (ybo g a)):=by
 refine Returns.of (ycdr _ _ ?_);obtain⟨n,hn⟩:∃n,g.ports.length=n:=⟨_,rfl⟩;have h24:=hg.2.1;have h1:=hg.1;rw[hn]at h24 h1 ha;obtain⟨PV,hPV⟩:∃P,yw g.ports=P:=⟨_,rfl⟩;simp only[c81,ycdj,yccx,ycax,grV,yw,hn,go_sem,zL,zB,zI,zH,zM,zO,zQ,zS,↓reduceIte,reduceCtorEq];refine⟨by omega,?_⟩
 refine ycm (σ:=Nat) (fun k=>⟨[(17,.i .i64 k),(16,.i .i64 n),(5,.os (14,0) 0 n true),(2,.pt (2,0) 0 0),(1,.i .i64 a)],
  [(2,.one (some ⟨25,true,2,1,fun _=>[ybg g.ids,yw g.ports]⟩)),(14,.one (some ⟨3,false,1,n,fun i=>[.i .i64 (if i<k then -1 else 0)]⟩))]⟩) (fun k=>k<=n) (fun k=>n-k) 0 (zAG _) ?_ ?_
 ·refine ybc [] [] [] ?_;simp only[yw,hn,allQ,live,yj,ydb,zBB,go_sem,zB,↓reduceIte,reduceCtorEq];exact fun i _=>by rw[if_neg (by omega)]
 ·intro k hk
  by_cases hlt:k<n
  ·have ht:decide ((k:Int)<(n:Int))=true:=decide_eq_true (by omega)
   simp only[ybww,ycfw,ycbh,ybzs,ht,splice,and_false,go_sem,zL,zB,zI,zH,zM,zO,zQ,zS,↓reduceIte,reduceCtorEq];refine⟨by omega,by omega,ikw (by omega) (by omega),?_⟩
   refine ybd (k+1) (by omega) (by omega) ?_
   refine ybc [] [] [] ?_;simp only[go_sem,allQ,live,yj,ydb,go_sem,zB,↓reduceIte,reduceCtorEq];refine⟨by omega,fun i hi=>?_⟩
   by_cases q:i=k
   ·subst q;simp only[if_pos (Nat.lt_succ_self i)];simp only[live,yj,go_sem,↓reduceIte,reduceCtorEq]
   ·simp only[if_neg q,ycjl k i q];simp only[live,yj,go_sem,reduceCtorEq]
  ·obtain rfl:k=n:=by omega
   have ht:decide ((k:Int)<(k:Int))=false:=decide_eq_false (by omega)
   simp only[ybww,ybyx,ycba,ht,splice,and_false,go_sem,zL,zB,zI,zH,zM,zO,zQ,zS,↓reduceIte,reduceCtorEq];refine⟨⟨by omega,by omega⟩,by omega,?_⟩
   refine ycm (σ:=List Int×List Nat×Nat) (fun q=>⟨[(7,.os (128,0) q.2.2 (q.2.1.length-q.2.2) true),(5,.os (14,0) 0 k true),(2,.pt (2,0) 0 0)],
    [(2,.one (some ⟨25,true,2,1,fun _=>[ybg g.ids,yw g.ports]⟩)),(14,.one (some ⟨3,false,1,k,fun i=>[.i .i64 (q.1.getD i 0)]⟩)),(128,.one (some ⟨3,false,1,q.2.1.length,fun i=>[.i .i64 (q.2.1.getD i 0:Nat)]⟩))]⟩)
    (fun q=>q.2.2<=q.2.1.length/\BfsInv g a q.1 (q.2.1.drop q.2.2)/\q.2.1.length-q.2.2+ycb q.1<=30/\q.2.1.length<=31) (fun q=>q.2.1.length-q.2.2+ycb q.1) (start g a,[a],0) ⟨zAG _,BfsInv.start (by omega),ykm g a (by omega),by simp⟩ ?_ ?_
   ·refine ybc [(128,fun i=>(28,i))] [] [] ?_;simp only[go_sem,allQ,live,yj,go_sem,zB,↓reduceIte,reduceCtorEq];refine⟨fun i hi=>?_,fun i hi=>?_⟩
    ·rw[ybcw g a i (by omega) (by omega),if_pos hi]
     by_cases q:i=a
     ·simp only[if_pos q];simp only[live,yj,go_sem,reduceCtorEq]
     ·simp only[if_neg q];simp only[live,yj,go_sem,reduceCtorEq]
    ·obtain rfl:i=0:=by omega
     simp only[List.getD_cons_zero,live,yj,go_sem,reduceCtorEq]
   ·rintro⟨R,W,o⟩ ⟨ho,hinv,hm30,hw31⟩;have ho:o<=W.length:=ho;have hinv:BfsInv g a R (W.drop o):=hinv;have hm30:W.length-o+ycb R<=30:=hm30;have hw31:W.length<=31:=hw31;obtain⟨m,hm⟩:∃m,W.length=m:=⟨_,rfl⟩;rw[hm]at ho hm30 hw31
    by_cases hlt2:o<m
    ·have hQ : W.drop o=W[o]::W.drop (o+1):=(List.drop_eq_getElem_cons (by omega))
     obtain⟨v,hv⟩:∃v,W.getD o 0=v:=⟨_,rfl⟩;have hv':W[o]=v:=by rw[<-hv,getD_at (show o<W.length by omega)]
     rw[hv']at hQ;rw[hQ]at hinv;obtain⟨d,hd⟩:=hinv.qin v (by simp)
     have hvl:v<g.ports.length:=by rw[<-hinv.len];exact(List.getElem?_eq_some_iff.1 hd).1
     obtain⟨ls,hls⟩:∃ls,g.ports.getD v []=ls:=⟨_,rfl⟩;have hls?:g.ports[v]?=some ls:=by rw[<-hls];simp[zG,hvl]
     have hin:=hinv.pop hd ls;have hls24:ls.length<24:=by rw[<-hls];exact hg.deg_lt
     have ht2:decide (((m-o:Nat):Int)>0)=true:=decide_eq_true (by omega)
     simp only[ybvd,ybqu,ybqv,ybqj,ht2,hm,hv,yw,ybh,hls,hn,splice,go_sem,zL,zB,zI,zH,zM,zO,zQ,zS,↓reduceIte,reduceCtorEq];refine⟨⟨by omega,by omega⟩,hlt2,⟨by omega,by omega,by omega⟩,⟨by omega,by omega⟩,?_⟩
     refine ycm (σ:=Nat×List Int×List Nat×Nat) (fun q=>⟨[(43,.i .i64 q.1),(42,.i .i64 ls.length),(41,ybh ls),(8,.i .i64 v),(7,.os (128,0) q.2.2.2 (q.2.2.1.length-q.2.2.2) true),(5,.os (14,0) 0 k true),(2,.pt (2,0) 0 0)],
      [(2,.one (some ⟨25,true,2,1,fun _=>[ybg g.ids,yw g.ports]⟩)),(14,.one (some ⟨3,false,1,k,fun i=>[.i .i64 (q.2.1.getD i 0)]⟩)),(128,.one (some ⟨3,false,1,q.2.2.1.length,fun i=>[.i .i64 (q.2.2.1.getD i 0:Nat)]⟩))]⟩)
      (fun q=>q.1<=ls.length/\q.2.2.2<=q.2.2.1.length/\BfsIn g a v d ls q.1 q.2.1 (q.2.2.1.drop q.2.2.2)/\q.2.2.1.length-q.2.2.2+1+ycb q.2.1=m-o+ycb R/\q.2.2.1.length<=31) (fun q=>ls.length-q.1) (0,R,W,o+1) ⟨zAG _,by show o+1<=W.length;omega,hin,by show W.length-(o+1)+1+ycb R=_;omega,by show W.length<=31;omega⟩ ?_ ?_
     ·refine ybc [] [] [] ?_;simp only[yw,ybh,hn,hm,Nat.sub_sub,allQ,live,yj,zBB,go_sem,zB,↓reduceIte,reduceCtorEq]
     ·rintro⟨j,R',W',o'⟩ ⟨hj,ho',hin',hun',hw'⟩;have hj:j<=ls.length:=hj;have ho':o'<=W'.length:=ho';have hin':BfsIn g a v d ls j R' (W'.drop o'):=hin';have hun':W'.length-o'+1+ycb R'=m-o+ycb R:=hun';have hw':W'.length<=31:=hw';obtain⟨m',hm'⟩:∃m,W'.length=m:=⟨_,rfl⟩;rw[hm']at ho' hun' hw'
      by_cases hjl:j<ls.length
      ·have ht3:decide ((j:Int)<(ls.length:Int))=true:=decide_eq_true (by omega)
       obtain⟨l,hl⟩:∃l,ls.getD j (0,0)=l:=⟨_,rfl⟩;have hl':ls[j]=l:=by rw[<-hl,getD_at hjl]
       have hlm:l∈ls:=by rw[<-hl'];exact zY _
       obtain⟨k1,k2,k3,k4,k5⟩:=hg.link hls? hlm;obtain⟨u,hu⟩:=zU k1;have hul:u<R'.length:=by rw[hin'.len];omega
       have hRv:R'.getD v 0=(d:Int):=by have:=hin'.rv;simp[zG,this]
       have hd24:d<g.ports.length:=by
        rcases hin'.val v _ hin'.rv with e|⟨k',e,h1,h2⟩
        ·omega
        ·obtain rfl:d=k':=by omega
         exact yoh hg (by omega) h1 h2
       have hRu:R'[u]?=some (R'.getD u 0):=by rw[getD_at hul];exact zC hul
       by_cases hneg:R'.getD u 0<0
       ·have ht4:decide (R'.getD u 0<0)=true:=decide_eq_true hneg;simp only[ybbm,ybbw,ybce,ybco,ybbb,ybck,ybh,hl,hu,ht3,ht4,hm',hRv,splice,and_false,go_sem,zL,zB,zI,zH,zM,zO,zQ,zS,↓reduceIte,reduceCtorEq];refine⟨⟨by omega,by omega⟩,⟨by omega,by omega⟩,by omega,⟨by omega,by omega⟩,by omega,ikw (by omega) (by omega),⟨by omega,by omega⟩,by omega,by decide,⟨by omega,by omega,by omega⟩,ikw (by omega) (by omega),?_⟩
        have hRm:R'[u]?=some (-1):=by
         rcases hin'.val u _ hRu with e|⟨k',e,_⟩
         ·rw[hRu,e]
         ·omega
        have hdis:=hin'.discover hls? hjl (u:=u) (by rw[hl'];exact hu) hRm
        have hunf:=yph (R:=R') (u:=u) (x:=(d:Int)+1) hRm (by omega)
        have hlen:(W'.drop o'++[u]).length=m'-o'+1:=by rw[zAS,zBC,hm'];rfl
        refine ybd (j+1,R'.set u ((d:Int)+1),W'.drop o'++[u],0) ⟨by show j+1<=_;omega,zAG _,hdis,by show(W'.drop o'++[u]).length-0+1+ycb (R'.set u ((d:Int)+1))=_;omega,by show(W'.drop o'++[u]).length<=31;omega⟩ (by show ls.length-(j+1)<ls.length-j;omega) ?_
        refine ybc [(128,fun i=>(66,i))] [] [] ?_;simp only[yw,ybh,hn,hlen,allQ,live,yj,ydb,go_sem,zB,↓reduceIte,reduceCtorEq];refine⟨⟨by omega,Sim.refl _⟩,fun i hi=>?_,fun i hi=>?_⟩
        ·rw[ybcl hul]
         by_cases q:i=u
         ·simp only[if_pos q];simp only[live,yj,go_sem,reduceCtorEq]
         ·simp only[if_neg q];simp only[live,yj,go_sem,reduceCtorEq]
        ·rw[ychr,zBC,hm']
         by_cases q:i<m'-o'
         ·have e:(W'.drop o').getD i 0=W'.getD (o'+i) 0:=by simp[zG,List.getElem?_drop]
          simp only[if_pos q,e];simp only[live,yj,go_sem,reduceCtorEq]
         ·obtain rfl:i=m'-o':=by omega
          simp only[if_neg q,Nat.sub_self,Nat.zero_mul,↓reduceIte];simp only[live,yj,go_sem,reduceCtorEq]
       ·have ht4:decide (R'.getD u 0<0)=false:=decide_eq_false hneg;simp only[ybbm,ybbw,ybce,ybco,ybbb,ybck,ybh,hl,hu,ht3,ht4,hm',hRv,splice,and_false,go_sem,zL,zB,zI,zH,zM,zO,zQ,zS,↓reduceIte,reduceCtorEq];refine⟨⟨by omega,by omega⟩,⟨by omega,by omega⟩,by omega,ikw (by omega) (by omega),?_⟩
        obtain⟨y,hy⟩:=zU (show 0<=R'.getD u 0 by omega)
        have hsk:=hin'.skip hjl (j:=y) (by rw[hl',hu,zK,hRu,hy])
        refine ybd (j+1,R',W',o') ⟨by show j+1<=_;omega,by show o'<=W'.length;omega,hsk,by show W'.length-o'+1+ycb R'=_;omega,by show W'.length<=31;omega⟩ (by show ls.length-(j+1)<ls.length-j;omega) ?_
        refine ybc [] [] [] ?_;simp only[yw,ybh,hn,hm',allQ,live,yj,ydb,go_sem,zB,↓reduceIte,reduceCtorEq];omega
      ·obtain rfl:j=ls.length:=by omega
       have ht3:decide ((ls.length:Int)<(ls.length:Int))=false:=decide_eq_false (by omega)
       simp only[ybbm,ybbw,ybce,ybco,ybbb,ybck,ht3,go_sem,zL,zB,zI,zH,zM,zO,zQ,zS,↓reduceIte,reduceCtorEq];refine ybd (R',W',o') ⟨by show o'<=W'.length;omega,hin'.finish hls?,by show W'.length-o'+ycb R'<=30;omega,by show W'.length<=31;omega⟩ (by show W'.length-o'+ycb R'<m-o+ycb R;omega) ?_
       refine ybc [] [] [] ?_;simp only[yw,ybh,hn,hm',allQ,live,yj,go_sem,zB,↓reduceIte,reduceCtorEq]
    ·obtain rfl:o=m:=by omega
     have ht2:decide (((o-o:Nat):Int)>0)=false:=decide_eq_false (by omega)
     rw[List.drop_eq_nil_of_le (by omega)]at hinv
     have hdist:=hinv.isDist.unique (ydc hg (by omega))
     subst hdist;have hlen:=hinv.len;simp only[ybvd,ybre,ht2,hm,yw,ybh,hn,splice,go_sem,zL,zB,zI,zH,zM,zO,zQ,zS,↓reduceIte,reduceCtorEq];have e:(ybo g a).length=k:=by omega
     unfold ybg;rw[e];exact Sim.refl _
theorem yvm{g:Gr}(hI:GrI g):Returns zF 76 [grV g] (.b (ydd g)):=by
 refine ymf ⟨_,_,zAY,rfl⟩ (fun _=>.b) (fun _=>.simple rfl) fun G m us hG hr φ M w us' hRl hs hv=>?_;obtain⟨u,rfl,h1⟩:=rvl1 hr;obtain⟨u',rfl,h2⟩:=yef hv;exact ysc u' g w (yyk hG h1 h2 hRl hs hI)
end Sh
end
section
open Go.RowKit
theorem yis(g:Gr)(G:List Int)(v:Nat):(ycu g G v).length=G.length:=by simp[ycu]
set_option maxHeartbeats 2000000 in
theorem yku(gv cv Gv:Value)(g:Gr)(c:Conf)(G:List Int)(w:World)(hg:GrAt w gv g)(hc:ybid w cv c)(hG:yhq w Gv G)(hgood:ybj g) :
 Calls zF 41 #[gv,cv,Gv] w fun e w'=>e = .returned (.bool (ylo g.ports.length (ycu g G) c))/\Below w.heap.size w w':=by
 have hn24:=hgood.2.1;have hid:=hgood.2.2.1;have Hid':=zA hid
 clear hgood
 obtain⟨i,p,rfl,hi,hp⟩:=hg;obtain⟨A,c0,rfl,hA1,hA2⟩:=ybe hi;obtain⟨A2,c2,rfl,hB1,hB2⟩:=ybe hp;obtain⟨A3,c3,rfl,hC1,hC2⟩:=ybe hc;obtain⟨A4,c4,rfl,hD1,hD2⟩:=ybe hG;have Hp:=zA hp;have Hc:=zA hc;have HG:=zA hG
 clear hi hp hc hG
 by_cases n1:c.length=g.ids.length
 ·have n1':((c.length:Int)!=(g.ids.length:Int))=false:=by simp[n1]
  have Hn:=zA (n1.trans hid);have hcn:c.length<=24:=by omega
  clear n1 hid
  go_enter zAZ,zBJ
  go_wp2
  obtain⟨W1,hW1⟩:∃W,W=w.alloc (.cells #[.slice A g.ids.length c0,.slice A2 g.ports.length c2] 25):=⟨_,rfl⟩;have hbox:W1.cell? ⟨w.heap.size,1,none⟩=some (.slice A2 g.ports.length c2):=by subst hW1;simp
  have HbW:=zA (show Below w.heap.size w W1 by subst hW1;exact(Below.refl _ _).alloc (zJ _) _)
  rw[<-hW1]
  clear hW1
  go_loopg [21] c.length (fun q t wr=>∃v n:Nat,q+v=c.length/\t = .int .i64 v/\wr=W1.drewN n/\Hid (∀(u:Nat) s,u<v->c[u]?=some s->yja (ycu g G u) s))
  case atStart=>exact⟨0,0,by omega,rfl,rfl,zA (fun u s hu=>absurd hu (by omega))⟩
  case round =>
   obtain⟨v,n,hq,rfl,rfl,hok⟩:=hrel
   by_cases hlt:v<c.length
   ·obtain⟨b3,off3,sv,rfl,hb3,hcs,hs⟩:=ydi (Hc.out.below (Stable.sl Stable.int) HbW.out) (zC hlt);obtain⟨A5,c5,rfl,hE1,hE2⟩:=ybe hs;obtain⟨s,hse⟩:∃s,c[v]=s:=⟨_,rfl⟩;have Hs?:=zA (show c[v]?=some s by rw[zC hlt,hse])
    rw[hse]at hs hcs hE1;have Hbad:=zA (show ¬yja (ycu g G v) s->ylo g.ports.length (ycu g G) c=false from fun h=>ygq (fun hc=>h (hc.2 v s Hs?.out)))
    have Hs:=zA hs
    clear hs hse
    by_cases c1:s.length=G.length
    ·have c1':((s.length:Int)!=(G.length:Int))=false:=by simp[c1]
     have Hsl:=zA c1
     clear c1
     have hvp:v<g.ports.length:=by rw[<-Hn.out];exact hlt
     go_wp2
     obtain⟨go,rfl⟩:∃go,go=gk:=⟨_,rfl⟩
     go_loopg [33] s.length (fun q t wr=>∃x n:Nat,q+x=s.length/\t = .int .i64 x/\wr=W1.drewN n/\Hid (∀(j:Nat) b z,j<x->(ycu g G v)[j]?=some b->s[j]?=some z->b.1<=z/\z<=b.2))
     case atStart=>exact⟨0,n,by omega,rfl,rfl,zA (fun j b z hj=>absurd hj (by omega))⟩
     case round =>
      obtain⟨x,n,hqx,rfl,rfl,hst⟩:=hrel
      by_cases hxl:x<s.length
      ·have hxG:x<G.length:=by rw[<-Hsl.out];exact hxl
       obtain⟨b5,o5,rfl,hb5,hc5,hr5⟩:=ydj (Hs.out) hxl;obtain⟨b6,o6,rfl,hb6,hc6,hr6⟩:=ydj (HG.out.below Stable.int HbW.out) hxG;obtain⟨b7,o7,lv,rfl,hb7,hc7,hl7⟩:=ydi (Hp.out.below (Stable.sl Stable.link) HbW.out) (zC hvp);obtain⟨A8,c8,rfl,hF1,hF2⟩:=ybe hl7;obtain⟨ds,hds⟩:∃ds,g.ports[v]=ds:=⟨_,rfl⟩;have hdeg:yber g v=ds.length:=by simp[yber,zG,zC hvp,hds]
       rw[hds]at hc7 hF1;obtain⟨y,hy⟩:∃y,s[x]=y:=⟨_,rfl⟩;obtain⟨h,hh⟩:∃h,G[x]=h:=⟨_,rfl⟩;have Hy?:=zA (show s[x]?=some y by rw[zC hxl,hy])
       have hb?:(ycu g G v)[x]?=some (if h = -1 then(-1,(ds.length:Int)-1)else(0,h)):=by
        simp[ycu,hxG,hh,hdeg]
       rw[hy]at hc5 hr5;rw[hh]at hc6 hr6;obtain⟨hr5a,hr5b⟩:=hr5;obtain⟨hr6a,hr6b⟩:=hr6
       clear hl7 hds hdeg hy hh
       by_cases c2:h = -1
       ·have c2':(h == -1)=true:=by simp[c2]
        rw[if_pos c2]at hb?;have Hb?:=zA hb?
        clear hb? c2
        by_cases c3:y < -1
        ·have Hf:=zA (Hbad.out (fun h=>by have:=h.2 x _ y Hb?.out Hy?.out;simp only at this;omega))
         go_wp2
         go_quiet (fail)
         go_wp2
         go_quiet (fail)
         go_wp2
         go_ret
         exact⟨yx Hf.out.symm,below_drewN HbW.out _⟩
        ·by_cases c4:(ds.length:Int)-1<y
         ·have Hf:=zA (Hbad.out (fun h=>by have:=h.2 x _ y Hb?.out Hy?.out;simp only at this;omega))
          go_wp2
          go_quiet (fail)
          go_wp2
          go_quiet (fail)
          go_wp2
          go_ret
          exact⟨yx Hf.out.symm,below_drewN HbW.out _⟩
         ·have c4d:decide ((ds.length:Int)-1<y)=false:=by simp;omega
          go_wp2
          go_quiet (fail)
          go_wp2
          go_quiet (fail)
          go_wp2
          go_roundg (gk-1)
          case measure=>omega
          case rel =>
           refine⟨x+1,_,by omega,by go_num,rfl,zA (fun j b z hj hb hz=>?_)⟩
           by_cases hjx:j<x
           ·exact hst.out j b z hjx hb hz
           ·obtain rfl:j=x:=by omega
            rw[Hb?.out]at hb;rw[Hy?.out]at hz;cases hb
            cases hz
            simp only;omega
       ·have c2':(h == -1)=false:=by simp[c2]
        rw[if_neg c2]at hb?;have Hb?:=zA hb?
        clear hb? c2
        by_cases c3:y<0
        ·have Hf:=zA (Hbad.out (fun h=>by have:=h.2 x _ y Hb?.out Hy?.out;simp only at this;omega))
         go_wp2
         go_quiet (fail)
         go_wp2
         go_ret
         exact⟨yx Hf.out.symm,below_drewN HbW.out _⟩
        ·by_cases c4:h<y
         ·have Hf:=zA (Hbad.out (fun h=>by have:=h.2 x _ y Hb?.out Hy?.out;simp only at this;omega))
          go_wp2
          go_quiet (fail)
          go_wp2
          go_ret
          exact⟨yx Hf.out.symm,below_drewN HbW.out _⟩
         ·have c4d:decide (h<y)=false:=by simp;omega
          go_wp2
          go_quiet (fail)
          go_wp2
          go_roundg (gk-1)
          case measure=>omega
          case rel =>
           refine⟨x+1,_,by omega,by go_num,rfl,zA (fun j b z hj hb hz=>?_)⟩
           by_cases hjx:j<x
           ·exact hst.out j b z hjx hb hz
           ·obtain rfl:j=x:=by omega
            rw[Hb?.out]at hb;rw[Hy?.out]at hz;cases hb
            cases hz
            simp only;omega
      ·obtain rfl:x=s.length:=by omega
       go_wp2
       go_roundg (go-1)
       case measure=>omega
       case rel =>
        refine⟨v+1,_,by omega,by go_num,rfl,zA (fun u s' hu hs'=>?_)⟩
        by_cases huv:u<v
        ·exact hok.out u s' huv hs'
        ·obtain rfl:u=v:=by omega
         rw[Hs?.out]at hs';cases hs'
         refine⟨by rw[yis,Hsl.out],fun j b z hb hz=>hst.out j b z (List.getElem?_eq_some_iff.1 hz).1 hb hz⟩
    ·have c1':((s.length:Int)!=(G.length:Int))=true:=by simp;omega
     have Hf:=zA (Hbad.out (fun h=>c1 (by rw[h.1,yis])))
     clear c1
     go_wp2
     go_ret
     exact⟨yx Hf.out.symm,below_drewN HbW.out _⟩
   ·obtain rfl:v=c.length:=by omega
    have Ht:=zA (yqn (n:=g.ports.length) (bs:=ycu g G) (c:=c) ⟨Hn.out,fun v s hs=>hok.out v s (List.getElem?_eq_some_iff.1 hs).1 hs⟩)
    go_wp2
    go_ret
    exact⟨yx Ht.out.symm,below_drewN HbW.out _⟩
 ·have n1':((c.length:Int)!=(g.ids.length:Int))=true:=by simp;omega
  have Hf:=zA (ygq (n:=g.ports.length) (bs:=ycu g G) (c:=c) (fun h=>n1 (h.1.trans hid.symm)))
  clear n1 hid
  go_enter zAZ,zBJ
  go_wp2
  go_ret
  exact⟨yx Hf.out.symm,(Below.refl _ _).alloc (zJ _) _⟩
end
section
namespace Sh
open Ev Go.RowKit
def clmV(kind:Int)(fair silent:Bool)(rounds moves:Int):List SV:=[.i .i64 kind,.b fair,.b silent,.i .i64 rounds,.i .i64 moves]
theorem ybpp{g:Gr}(hg:ybj g){c:Conf}(hR:ypp c){G:List Int}(hG:∀x∈G,I64 x):Returns zF 41 [grV g,ycn c,ybg G] (.b (ylo g.ports.length (ycu g G) c)):=by
 refine ymf ⟨_,_,zAZ,rfl⟩ (fun _=>.b) (fun _=>.simple rfl) fun H m us hH hr φ M w us' hRl hs hv=>?_
 obtain⟨u,us2,rfl,h1,h2⟩:∃u us2,us=u::us2/\RV H om0 (grV g) u/\RVL H om0 [ycn c,ybg G] us2:=by
  cases hr with|cons x y=>exact⟨_,_,rfl,x,y⟩
 obtain⟨u2,u3,rfl,h3,h4⟩:=rvl2 h2
 obtain⟨u',us3,rfl,h5,h6⟩:∃u' us3,us'=u'::us3/\VR φ u u'/\VRL φ [u2,u3] us3:=by
  cases hv with|cons x y=>exact⟨_,_,rfl,x,y⟩
 obtain⟨u2',u3',rfl,h7,h8⟩:=ykz h6;exact yku u' u2' u3' g c G w (yyk hH h1 h5 hRl hs (yccc hg)) (ybhq hH h3 h7 hRl hs hR) (ints_at hH h4 h8 hRl hs hG) hg
end Sh
end
section
open Go.RowKit
theorem yqx(R:List Int)(x:Int)(ls:List (Int×Int))(i:Nat)(hi:i<ls.length):yiq R x (ls.take (i+1))=(yiq R x (ls.take i)||decide (R[ls[i].1.toNat]?=some x)):=by
 unfold yiq;rw[take_snoc ls i hi,zBE];simp
def layers(g:Gr)(a D:Nat):List Int:=(zV (D-1)).foldl (fun R d=>stepD g R (d+1)) (start g a)
theorem yxc(g:Gr)(a:Nat){D:Nat}(hD:1<=D):layers g a (D+1)=stepD g (layers g a D) D:=by
 obtain⟨k,rfl⟩:∃k,D=k+1:=⟨D-1,by omega⟩
 unfold layers;rw[Nat.add_sub_cancel,zBF,zAW];rfl
def yoq(g:Gr)(R:List Int)(D v:Nat):List Int:=(zV v).foldl (ymv g D) R
theorem yvn(g:Gr)(R:List Int)(D v:Nat):yoq g R D (v+1)=ymv g D (yoq g R D v) v:=by
 unfold yoq;rw[zBF,zAW];rfl
theorem yol(R:List Int)(k:Nat)(x:Int):(R.map (Value.int .i64)).set k (.int .i64 x)=(R.set k x).map (Value.int .i64):=by rw[List.map_set]
theorem yye(g:Gr)(a:Nat):((zAB g.ports.length (-1:Int)).map (Value.int .i64)).set a (.int .i64 0)=(start g a).map (Value.int .i64):=by rw[yol];rfl
set_option maxHeartbeats 4000000 in
theorem yhj(gv:Value)(g:Gr)(v:Int)(w:World)(hg:GrAt w gv g)(hv64:I64 v) :
 Calls zF 112 #[gv,.int .i64 v] w (ybkg (yml g v) w):=by
 have hg0:=zA hg;obtain⟨i,p,rfl,hi,hp⟩:=hg;obtain⟨A2,c2,rfl,hB1,hB2⟩:=ybe hp;have Hp:=zA hp
 clear hi hp
 cases hc:ybw g with
 | false =>
   have Hf:=zA (show yml g v=[]from yik (by simp[hc]))
   go_enter zAT,zAR
   go_wp2_with fail
   refine(ycz _ g _ (hg0.out.below ((Below.refl _ _).alloc (zJ _) _))).mono ?_;rintro e w1 ⟨rfl,hb1⟩
   go_wp2_with fail
   go_ret
   exact⟨_,rfl,by rw[Hf.out];exact SlAt.nil _,ygh hb1⟩
 | true =>
   have hgood:=(ybr g).1 hc;have hn1:=hgood.1;have hn24:=hgood.2.1;have Hgood:=zA hgood
   clear hgood
   obtain⟨hv1,hv2⟩:=hv64
   by_cases c2:0<=v/\v<g.ports.length
   ·obtain⟨c2a,c2b⟩ := c2;obtain⟨a,rfl⟩:=zU c2a;have Hf:=zA (show yml g a=ybo g a from ypn hc (by omega) c2b)
    have ha:a<g.ports.length:=by omega
    go_enter zAT,zAR
    go_wp2_with fail
    refine(ycz _ g _ (hg0.out.below ((Below.refl _ _).alloc (zJ _) _))).mono ?_;rintro e w1 ⟨rfl,hb1⟩;obtain⟨q0,q1⟩:=ywf hb1;have Hb1:=zA hb1
    clear hb1
    go_wp2_with fail
    refine(In_t _ _ _ _ (by omega) (by omega)).mono ?_
    rintro e w1' ⟨rfl,rfl⟩
    go_wp2_with fail
    obtain⟨i0,hi0,hz0,hz1,hz2⟩:=info_parts yru;have Hi0:=zA (show _/\_/\_/\_ from⟨hi0,hz0,hz1,hz2⟩)
    clear hi0 hz0 hz1 hz2
    obtain⟨W1,hW1⟩:∃W,W=w.alloc (.cells #[i,.slice A2 g.ports.length c2] 25):=⟨_,rfl⟩;have HB:=zA (show ∀wr,Below (w.heap.size+1) W1 wr->wr.cell? ⟨w.heap.size,0,none⟩=some i/\wr.cell? ⟨w.heap.size,1,none⟩=some (.slice A2 g.ports.length c2)/\Below w.heap.size w wr/\w.heap.size<wr.heap.size by subst hW1;exact fun wr h=>box2 h)
    have Hb1':=zA (show Below (w.heap.size+1) W1 w1 by subst hW1;simpa using Hb1.out)
    clear hW1 Hb1
    go_loopg [6,7] g.ports.length (fun q t6 t wr=>∃k:Nat,q+k=g.ports.length/\t = .int .i64 k/\Hid (Below (w.heap.size+1) W1 wr)/\Hid (Owns wr (w.heap.size+1) 3 1 t6 k ((zAB k (-1:Int)).map (Value.int .i64))))
    case atStart=>exact⟨0,by omega,rfl,Hb1',zA (Owns.nil _ _ _ _)⟩
    case round =>
     clear q0 q1 Hb1'
     obtain⟨k,hq,rfl,hbel,hown⟩:=hrel;have hsz:=(HB.out _ hbel.out).2.2.2
     by_cases hlt:k<g.ports.length
     ·go_wp2_with (at_builtin;refine yfx _ rfl _ _ 22 rfl (w.heap.size+1) 3 i0 (.int .i64 0) 1 8 Tryz.underlying22 Hi0.out.1 Hi0.out.2.1 Hi0.out.2.2.1 Hi0.out.2.2.2 rfl (by decide) u6 k ((zAB k (-1:Int)).map (Value.int .i64)) (by rfl) (hown.out.alloc _) _ 1 1 [.int .i64 (-1)] (by rfl) rfl (ybcc rfl) (by simp[Value.oneCell']) (by simp only[maxLen];omega) (by omega) (by simp;omega) ?_;intro v' w' hown' hgr hob)
      have Hown:=zA hown';have Hgr:=zA hgr
      clear hown' hgr hob
      go_wp2
      go_roundg (gk-1)
      case measure=>omega
      case rel =>
       refine⟨k+1,by omega,by go_num,zA ((hbel.out.alloc (by omega) _).grown Hgr.out (by simp;omega) (fun x hx=>(hown.out.lt hx).1)),zA ?_⟩
       have:=Hown.out
       rwa [<-List.map_singleton (f:=Value.int .i64),<-List.map_append,<-List.replicate_succ']at this
     ·obtain rfl:k=g.ports.length:=by omega
      obtain⟨gO,oO,cO,rfl,hO1,hO2,hO3,hO4,hO5⟩:=hown.out.form (by omega)
      unfold maxLen at hO4;have hca:=hO5 a (.int .i64 (-1)) (by simp[ha])
      have hfa:=hown.out.frozen (oO+a)
      clear hO5
      go_wp2
      go_loopg [8] (g.ports.length-1) (fun q t wr=>∃D:Nat,1<=D/\q+D=g.ports.length/\t = .int .i64 D/\Hid (Below (w.heap.size+1) W1 wr)/\Hid (Owns wr (w.heap.size+1) 3 1 (.slice (some ⟨gO,oO,none⟩) g.ports.length cO) g.ports.length ((layers g a D).map (Value.int .i64))))
      case atStart =>
       refine⟨1,zJ _,by omega,rfl,zA (hbel.out.setCell (by simp;omega) _),zA ?_⟩
       have:=hown.out.store1 ha (.int .i64 0);rw[yye]at this;exact this
      case round =>
       clear hbel hown hca hfa hsz hO2
       obtain⟨D,hD1,hq,rfl,hbel,hown⟩:=hrel
       by_cases hlt:D<g.ports.length
       ·go_wp2
        obtain⟨go,rfl⟩:∃go,go=gk:=⟨_,rfl⟩
        go_loopg [9] g.ports.length (fun q t wr=>∃v:Nat,q+v=g.ports.length/\t = .int .i64 v/\Hid (Below (w.heap.size+1) W1 wr)/\Hid (Owns wr (w.heap.size+1) 3 1 (.slice (some ⟨gO,oO,none⟩) g.ports.length cO) g.ports.length ((yoq g (layers g a D) D v).map (Value.int .i64))))
        case atStart=>exact⟨0,by omega,rfl,hbel,hown⟩
        case round =>
         clear hbel hown
         obtain⟨v,hqv,rfl,hbel,hown⟩:=hrel
         by_cases hvlt:v<g.ports.length
         ·obtain⟨R,hR⟩:∃R,yoq g (layers g a D) D v=R:=⟨_,rfl⟩;have Hst:=zA (yvn g (layers g a D) D v);rw[hR]at hown Hst
          clear hR
          have Hlen:=zA (show R.length=g.ports.length by have:=hown.out.1;simpa using this)
          obtain⟨b2,off2,lv,rfl,hb2,hclw,hls⟩:=ydi Hp.out (zC hvlt);obtain⟨A3,c3,rfl,hl1,hl2⟩:=ybe hls;obtain⟨ls,hle⟩:∃ls,g.ports[v]=ls:=⟨_,rfl⟩;have Hlp:=zA (show g.ports[v]?=some ls by rw[zC hvlt,hle])
          rw[hle]at hls hclw hl1;have Hls:=zA hls
          have Hst2:=zA (show ymv g D R v=if decide (R.getD v 0<0)&&yiq R ((D:Int)-1) ls then R.set v D else R by
           unfold ymv;rw[show g.ports.getD v []=ls by simp[zG,Hlp.out]])
          clear hle hls
          have hRv:v<R.length:=by rw[Hlen.out];exact hvlt
          obtain⟨xv,hxv⟩:∃x,R[v]=x:=⟨_,rfl⟩;have Hgd:=zA (show R.getD v 0=xv by simp[zG,hRv,hxv])
          clear hxv
          go_wp2
          obtain⟨gv,rfl⟩:∃gv,gv=gk:=⟨_,rfl⟩
          go_loopg [10] ls.length (fun q t wr=>∃i:Nat,q+i=ls.length/\t = .int .i64 i/\Hid (Below (w.heap.size+1) W1 wr)/\∃R' x,R'[v]?=some x/\Hid (Owns wr (w.heap.size+1) 3 1 (.slice (some ⟨gO,oO,none⟩) g.ports.length cO) g.ports.length (R'.map (Value.int .i64)))/\Hid ((R'=R/\x=xv/\yiq R ((D:Int)-1) (ls.take i)=false)\/(R'=ymv g D R v/\0<=x)))
          case atStart=>exact⟨0,by omega,rfl,hbel,R,xv,by rw[zC hRv];have:=Hgd.out;simp[zG,hRv]at this;rw[this],hown,zA (.inl ⟨rfl,rfl,by simp[yiq]⟩)⟩
          case round =>
           clear hbel hown
           obtain⟨i,hqi,rfl,hbel,R',x,hx,hown,hdis⟩:=hrel;obtain⟨p0,p1,hbw,hsz⟩:=HB.out _ hbel.out;have hcl:=ybm hbw _ _ hclw;have Hlen':=zA (show R'.length=g.ports.length by have:=hown.out.1;simpa using this)
           obtain⟨_,_,_,e5,_,_,_,_,hO5⟩:=hown.out.form (by omega)
           cases e5
           have hcv:=hO5 v (.int .i64 x) (by simp[hx])
           have hfv:=hown.out.frozen (oO+v);have Hx:=zA hx;have HO5:=zA hO5;have Hbw:=zA hbw
           clear hx hO5 hbw
           by_cases hil:i<ls.length
           ·obtain⟨A4,c4,e4,_,_,hE⟩:=Hls.out.below Stable.link Hbw.out;cases e4
            obtain⟨b3,off3,rfl,hb3,hE⟩:=hE (by omega)
            obtain⟨⟨l1,wt⟩,hle⟩:∃l,ls[i]=l:=⟨_,rfl⟩;have hl?:ls[i]?=some (l1,wt):=by rw[zC hil,hle]
            obtain⟨hx1,hx2,⟨hr1,hr2⟩,⟨hr3,hr4⟩⟩:=hE i _ hl?;obtain⟨k1,k2,k3,k4,k5⟩:=Hgood.out.link Hlp.out (zAJ hl?);simp only at k1 k2 k3 k4 k5 hx1 hx2 hr1 hr2 hr3 hr4;obtain⟨u,rfl⟩:=zU k1;have Hl?:=zA hl?;have Hsn:=zA (yqx R ((D:Int)-1) ls i hil);rw[hle]at Hsn;have HE:=zA hE
            clear hE hl? hle k1 k3
            by_cases c2:x<0
            ·have Hin:=zA (show R'=R/\x=xv/\yiq R ((D:Int)-1) (ls.take i)=false by
              rcases hdis.out with h|h
              ·exact h
              ·omega)
             have hul:u<R'.length:=by rw[Hlen'.out];omega
             obtain⟨y,hy⟩:∃y,R'[u]?=some y:=⟨_,zC hul⟩;have hcu:=HO5.out u (.int .i64 y) (by simp[hy])
             have Hy:=zA hy
             clear hy
             by_cases c3:y=(D:Int)-1
             ·have c3':(y==(D:Int)-1)=true:=by simp[c3]
              have Hset:=zA (show ymv g D R v=R'.set v D by
               obtain⟨e1,e2,_⟩:=Hin.out;rw[Hst2.out,Hgd.out,if_pos,e1];rw[zZ];refine⟨decide_eq_true (by omega),?_⟩
               unfold yiq;rw[List.any_eq_true];refine⟨_,zAJ Hl?.out,decide_eq_true ?_⟩;simp only[zK];rw[<-e1,Hy.out,c3])
              clear c3
              go_wp2
              go_roundg (gk-1)
              case measure=>omega
              case rel =>
               refine⟨i+1,by omega,by go_num,zA (hbel.out.setCell (by simp;omega) _),R'.set v D,D,by rw[List.getElem?_set,if_pos rfl,if_pos (by rw[Hlen'.out];exact hvlt)],zA ?_,zA (.inr ⟨Hset.out.symm,by omega⟩)⟩
               rw[<-yol];exact hown.out.store1 hvlt _
             ·have c3':(y==(D:Int)-1)=false:=by simp[c3]
              have Hno:=zA (show yiq R ((D:Int)-1) (ls.take (i+1))=false by
               obtain⟨e1,e2,e3⟩:=Hin.out;rw[Hsn.out,e3,Bool.false_or,decide_eq_false_iff_not];simp only[zK];rw[<-e1,Hy.out]
               simpa using c3)
              clear c3
              go_wp2
              go_roundg (gk-1)
              case measure=>omega
              case rel=>exact⟨i+1,by omega,by go_num,hbel,R',x,Hx.out,hown,zA (.inl ⟨Hin.out.1,Hin.out.2.1,Hno.out⟩)⟩
            ·have Hend:=zA (show R'=ymv g D R v by
              rcases hdis.out with⟨e1,e2,_⟩|⟨e1,_⟩
              ·rw[Hst2.out,Hgd.out,if_neg,e1];rw[zZ];intro h;have:=of_decide_eq_true h.1;omega
              ·exact e1)
             go_wp2
             go_roundg (gv-1)
             case measure=>omega
             case rel=>exact⟨v+1,by omega,by go_num,hbel,zA (by rw[Hst.out,<-Hend.out];exact hown.out)⟩
           ·obtain rfl:i=ls.length:=by omega
            have Hend:=zA (show R'=ymv g D R v by
             rcases hdis.out with⟨e1,e2,e3⟩|⟨e1,_⟩
             ·rw[zAC]at e3;rw[Hst2.out,e3,Bool.and_false,if_neg (by simp),e1]
             ·exact e1)
            go_wp2
            go_roundg (gv-1)
            case measure=>omega
            case rel=>exact⟨v+1,by omega,by go_num,hbel,zA (by rw[Hst.out,<-Hend.out];exact hown.out)⟩
         ·obtain rfl:v=g.ports.length:=by omega
          go_wp2
          go_roundg (go-1)
          case measure=>omega
          case rel=>exact⟨D+1,by omega,by omega,by go_num,hbel,zA (by rw[yxc g a hD1];exact hown.out)⟩
       ·obtain rfl:D=g.ports.length:=by omega
        go_wp2
        go_ret
        refine⟨_,rfl,?_,(HB.out _ hbel.out).2.2.1⟩;rw[Hf.out];exact hown.out.ints (fun x hx=>by have:=(ydc Hgood.out ha).bound Hgood.out ha x hx;unfold I64;omega)
   ·have Hf:=zA (show yml g v=[]from yik (by omega))
    have c3:v<0\/(g.ports.length:Int)-1<v:=by omega
    clear c2
    go_enter zAT,zAR
    go_wp2_with fail
    refine(ycz _ g _ (hg0.out.below ((Below.refl _ _).alloc (zJ _) _))).mono ?_;rintro e w1 ⟨rfl,hb1⟩;obtain⟨q0,q1⟩:=ywf hb1;have Hb1:=zA (ygh hb1)
    clear hb1
    go_wp2_with fail
    refine(In_f _ _ _ _ (by omega)).mono ?_
    rintro e w1' ⟨rfl,rfl⟩
    go_wp2_with fail
    go_ret
    exact⟨_,rfl,by rw[Hf.out];exact SlAt.nil _,Hb1.out⟩
end
section
open Go.RowKit
theorem yhr(dv:Value)(D:List Int)(w:World)(hd:yhq w dv D) :
 Calls zF 111 #[dv] w fun e w'=>e = .returned (.int .i64 (ycq D))/\w=w':=by
 obtain⟨A,c,rfl,hA1,hA2⟩:=ybe hd;have Hd:=zA hd
 clear hd
 go_enter Tryz.func111,Tryz.ntmps111
 go_wp2
 go_loopg [3,4] D.length (fun q m t wr=>∃k:Nat,q+k=D.length/\t = .int .i64 k/\wr=w/\m = .int .i64 (ybp (D.take k))/\Hid ((D.take k).all (fun x=>decide (0<=x))=true))
 case atStart=>exact⟨0,by omega,rfl,rfl,by simp[ybp],zA (by simp)⟩
 case round =>
  obtain⟨k,hq,rfl,rfl,rfl,hall⟩:=hrel
  by_cases hlt:k<D.length
  ·obtain⟨b,off,rfl,hb,hc,hr⟩:=ydj Hd.out hlt
   by_cases c1:D[k]<0
   ·have Hf:=zA (show ycq D = -1 by
     unfold ycq;rw[if_neg];rw[zBA];intro h;have:=of_decide_eq_true (h _ (zY hlt));omega)
    go_wp2
    go_ret
    exact⟨ykt Hf.out.symm,rfl⟩
   ·have Hs:=zA (yir D k hlt)
    have Ha:=zA (show(D.take (k+1)).all (fun x=>decide (0<=x))=true by
     rw[take_snoc D k hlt,List.all_append,hall.out];simp;omega)
    go_wp2
    all_goals
     go_roundg (gk-1)
     case measure=>omega
     case rel=>exact⟨k+1,by omega,by go_num,rfl,by rw[Hs.out];try (congr 1;omega),Ha⟩
  ·obtain rfl:k=D.length:=by omega
   have Hf:=zA (show ycq D=ybp D by
    have:=hall.out;rw[zAC]at this;exact if_pos this)
   go_wp2
   go_ret
   exact⟨ykt (by rw[Hf.out,zAC]),rfl⟩
theorem ymx(gv:Value)(g:Gr)(w:World)(hg:GrAt w gv g) :
 Calls zF 77 #[gv] w fun e w'=>e = .returned (.bool (ydd g))/\Below w.heap.size w w':=by
 have hg0:=zA hg;obtain⟨i,p,rfl,hi,hp⟩:=hg
 clear hi hp
 have Hc:=zA (ybeh g)
 go_enter zBM,Tryz.ntmps77
 go_wp2_with fail
 refine(yhj _ g 0 _ (hg0.out.below ((Below.refl _ _).alloc (zJ _) _)) ⟨by omega,by omega⟩).mono ?_
 rintro e w1 ⟨v,rfl,hv,hb1⟩;have Hv:=zA hv;have Hb1:=zA (ygh hb1)
 clear hv hb1
 go_wp2_with fail
 refine(yhr _ _ _ Hv.out).mono ?_;rintro e w2 ⟨rfl,rfl⟩
 go_wp2_with fail
 go_ret
 exact⟨yx Hc.out,Hb1.out⟩
theorem yjk(gv:Value)(g:Gr)(v:Int)(w:World)(hg:GrAt w gv g)(hv64:I64 v) :
 Calls zF 82 #[gv,.int .i64 v] w fun e w'=>e = .returned (.int .i64 (eccP g v))/\Below w.heap.size w w':=by
 have hg0:=zA hg;obtain⟨i,p,rfl,hi,hp⟩:=hg
 clear hi hp
 have Hc:=zA (ybgl g v)
 go_enter zBN,Tryz.ntmps82
 go_wp2_with fail
 refine(yhj _ g v _ (hg0.out.below ((Below.refl _ _).alloc (zJ _) _)) hv64).mono ?_;rintro e w1 ⟨v,rfl,hv,hb1⟩;have Hv:=zA hv;have Hb1:=zA (ygh hb1)
 clear hv hb1
 go_wp2_with fail
 refine(yhr _ _ _ Hv.out).mono ?_;rintro e w2 ⟨rfl,rfl⟩
 go_wp2_with fail
 go_ret
 exact⟨ykt Hc.out,Hb1.out⟩
end
section
namespace Sh
open Ev Go.RowKit
theorem ytm{g:Gr}(hI:GrI g):Returns zF 77 [grV g] (.b (ydd g)):=by
 refine ymf ⟨_,_,zBM,rfl⟩ (fun _=>.b) (fun _=>.simple rfl) fun G m us hG hr φ M w us' hRl hs hv=>?_;obtain⟨u,rfl,h1⟩:=rvl1 hr;obtain⟨u',rfl,h2⟩:=yef hv;exact ymx u' g w (yyk hG h1 h2 hRl hs hI)
theorem ybow{g:Gr}(hI:GrI g){v:Int}(hv64:I64 v):Returns zF 82 [grV g,.i .i64 v] (.i .i64 (eccP g v)):=by
 refine ymf ⟨_,_,zBN,rfl⟩ (fun _=>.i) (fun _=>.simple rfl) fun G m us hG hr φ M w us' hRl hs hv=>?_;obtain⟨u,v',rfl,h1,h2⟩:=rvl2 hr;obtain⟨u',v'',rfl,h3,h4⟩:=ykz hv;cases h2.int_inv
 have e:=h4.eq_simple rfl;subst e;exact yjk u' g v w (yyk hG h1 h3 hRl hs hI) hv64
theorem ybem(nm:ByteArray)(hi pn pi:Int):Returns zF 85 [.a (.string nm),.i .i64 hi,.i .i64 pn,.i .i64 pi] (.ag (varC ⟨nm,1,0,hi,pn,pi⟩)):=by
 refine Returns.of (ybzv _ _ ?_);simp only[c85,yced,ycdh,varC,go_sem,zB,zI,zH,zM,↓reduceIte,reduceCtorEq];exact Sim.refl _
end Sh
end
section
namespace Sh
open Go Ev
def yre:List Nat:=[0,1,1,2,1,2,2,3,1,2,2,3,2,3,3,4,1,2,2,3,2,3,3,4,2,3,3,4,3,4,4,5,1,2,2,3,2,3,3,4,2,3,3,4,3,4,4,5,2,3,3,4,3,4,4,5,3,4,4,5,4,5,5,6,1,2,2,3,2,3,3,4,2,3,3,4,3,4,4,5,2,3,3,4,3,4,4,5,3,4,4,5,4,5,5,6,2,3,3,4,3,4,4,5,3,4,4,5,4,5,5,6,3,4,4,5,4,5,5,6,4,5,5,6,5,6,6,7,1,2,2,3,2,3,3,4,2,3,3,4,3,4,4,5,2,3,3,4,3,4,4,5,3,4,4,5,4,5,5,6,2,3,3,4,3,4,4,5,3,4,4,5,4,5,5,6,3,4,4,5,4,5,5,6,4,5,5,6,5,6,6,7,2,3,3,4,3,4,4,5,3,4,4,5,4,5,5,6,3,4,4,5,4,5,5,6,4,5,5,6,5,6,6,7,3,4,4,5,4,5,5,6,4,5,5,6,5,6,6,7,4,5,5,6,5,6,6,7,5,6,6,7,6,7,7,8]
def ycet:LO:=[o3 (.mv (ci' 0)) 2 0]
def ycam:LO:=[mv' 0 3 0,o3 (.bin .shr (.tmp 3) (.const (.int .u64 24))) 4 1,o3 (.stri yre (.tmp 4)) 5 3,mv' 0 6 0,o3 (.bin .shr (.tmp 6) (.const (.int .u64 16))) 7 8,o3 (.bin .and (.tmp 7) (.const (.int .u32 255))) 8 24,o3 (.stri yre (.tmp 8)) 9 56,bn' .add 5 9 10 127,mv' 0 11 0,o3 (.bin .shr (.tmp 11) (.const (.int .u64 8))) 12 256,o3 (.bin .and (.tmp 12) (.const (.int .u32 255))) 13 768,o3 (.stri yre (.tmp 13)) 14 1792,bn' .add 10 14 15 4095,mv' 0 16 0,o3 (.bin .and (.tmp 16) (.const (.int .u32 255))) 17 8192,o3 (.stri yre (.tmp 17)) 18 24576,bn' .add 15 18 19 65535,o3 (.conv .i64 (.tmp 19)) 20 131071,mv' 20 2 262143]
def c45:SC:=(.seq (.reg false ycet) (.seq (.reg true ycam) .ret))
theorem ybyj:Fn 45 c45 [.t 2]:=fn_0 Tryz.func45 (by kernel_rfl) (by kernel_rfl)
end Sh
end
section
namespace Sh
open Go Ev
end Sh
end
section
namespace Sh
open Go Ev
end Sh
end
section
namespace Sh
open Go Ev
end Sh
end
section
def Ex.head:Ex->Tm
 |.leaf op arg=>(op,arg)
 |.un op _=>(op,0)
 |.agg op _=>(op,0)
 |.bin op _ _=>(op,0)
 |.ite _ _ _=>(43,0)
namespace Sh
open Go Ev
end Sh
end
section
namespace Sh
open Go Ev
end Sh
end
section
namespace Sh
open Go Ev
end Sh
end
section
def ybwg(f:Nat->Bool):Nat->Nat
 |0=>0
 |n+1=>if f n then ybwg f n|||2^n else ybwg f n
def difB(a b:Nat):Nat:=a ^^^ (a&&&b)
theorem ygp(a b i:Nat):(difB a b).testBit i=(a.testBit i && !(b.testBit i)):=by
 unfold difB;rw[Nat.testBit_xor,zAF];cases a.testBit i<;>cases b.testBit i<;>rfl
theorem ymt(a:Nat):a=0↔∀i,a.testBit i=false:=by
 constructor
 ·rintro rfl i;simp
 ·intro h;exact zAK fun i=>by rw[h i];simp
theorem ybas{a b n:Nat}(h:a<2^n):difB a b<2^n:=by
 refine Nat.lt_pow_two_of_testBit _ fun i hi=>?_;rw[ygp,zAH (zAU h (zAL (by omega) hi))]
 rfl
structure Cnt where
 steps:Nat
 moves:Nat
 rounds:Nat
 begun:Nat
 pend:Nat
def yfl(s:Nat):Nat->Nat
 |0=>0
 |n+1=>yfl s n+(s.testBit n).toNat
def popP(s:Nat):Nat:=yfl s 32
def yft(e:Nat):Cnt:=⟨0,0,0,0,e⟩
def addP(k:Cnt)(chosen after:Nat):Cnt :=
 let p:=difB k.pend chosen&&&after
 ⟨k.steps+1,k.moves+popP chosen,if p=0 then k.rounds+1 else k.rounds,k.rounds+1,if p=0 then after else p⟩
def Cnt.ok(k:Cnt):Prop:=k.rounds<=k.begun/\k.begun<=k.rounds+1/\k.begun<=k.steps/\k.steps<=k.moves/\k.moves<=24*k.steps/\k.pend<2^24
theorem yjw(s:Nat):∀n,yfl s n<=n
 |0=>zJ _
 | n+1=>by
   have:=yjw s n;unfold yfl;cases s.testBit n<;>simp[Bool.toNat]<;>omega
structure Sys where
 n:Nat
 en:Conf->Nat
 mv:Conf->Nat->Conf
def Sys.run(S:Sys)(res:Nat->Nat->Nat):List Nat->Conf->Cnt->List (Conf×Cnt)
 |[],_,_=>[]
 | w::ws,c,k=>if S.en c=0 then[]else(let s:=res (S.en c) w
   let d:=S.mv c s
   (d,addP k s (S.en d))::S.run res ws d (addP k s (S.en d)))
def Sys.runs(S:Sys)(res:Nat->Nat->Nat)(ws:List Nat)(c:Conf):List (Conf×Cnt):=(c,yft (S.en c))::S.run res ws c (yft (S.en c))
def subB(a b:Nat):Prop:=∀i,a.testBit i=true->b.testBit i=true
def ybnp(res:Nat->Nat->Nat):Prop:=∀e w,e≠0->res e w≠0/\subB (res e w) e
theorem Sys.run_all{S:Sys}{res:Nat->Nat->Nat}(hr:ybnp res){J:Conf->Cnt->Prop}(hstep:∀c k s,J c k->s≠0->subB s (S.en c)->J (S.mv c s) (addP k s (S.en (S.mv c s)))) :
 ∀(ws:List Nat) (c:Conf) (k:Cnt),J c k->∀p∈S.run res ws c k,J p.1 p.2
 |[],_,_,_,p,hp=>by cases hp
 | w :: ws,c,k,hJ,p,hp=>by
   unfold Sys.run at hp;split at hp
   ·cases hp
   ·rename_i h0
    obtain⟨r1,r2⟩:=hr _ w h0;have hJ':=hstep c k _ hJ r1 r2;rcases List.mem_cons.1 hp with e|e
    ·rw[e];exact hJ'
    ·exact Sys.run_all hr hstep ws _ _ hJ' p e
theorem Sys.runs_all{S:Sys}{res:Nat->Nat->Nat}(hr:ybnp res){J:Conf->Cnt->Prop}(hstep:∀c k s,J c k->s≠0->subB s (S.en c)->J (S.mv c s) (addP k s (S.en (S.mv c s)))){ws:List Nat}{c:Conf}(h:J c (yft (S.en c))):∀p∈S.runs res ws c,J p.1 p.2:=fun p hp=>by
 rcases List.mem_cons.1 hp with e|e
 ·rw[e];exact h
 ·exact Sys.run_all hr hstep ws _ _ h p e
structure ByRounds(S:Sys)(V:Conf->Prop)(P:Nat->Nat->List Int->Prop):Prop where
 valid:∀c s,V c->s≠0->subB s (S.en c)->V (S.mv c s)
 stay:∀c s v,V c->v<S.n->s.testBit v=false->(S.mv c s).getD v []=c.getD v []
 move:∀c s v r,V c->v<S.n->s.testBit v=true->subB s (S.en c)->(∀u,u<S.n->P r u (c.getD u []))->P (r+1) v ((S.mv c s).getD v [])
 rest:∀c v r,V c->v<S.n->(S.en c).testBit v=false->(∀u,u<S.n->P r u (c.getD u []))->P (r+1) v (c.getD v [])
 less:∀r v s,P (r+1) v s->P r v s
structure RInv(S:Sys)(V:Conf->Prop)(P:Nat->Nat->List Int->Prop)(c:Conf)(k:Cnt):Prop where
 valid:V c
 all:∀v,v<S.n->P k.rounds v (c.getD v [])
 done:∀v,v<S.n->k.pend.testBit v=false->P (k.rounds+1) v (c.getD v [])
 begun:k.begun<=k.rounds+1
theorem ByRounds.start{S:Sys}{V:Conf->Prop}{P:Nat->Nat->List Int->Prop}(h:ByRounds S V P){c:Conf}(hv:V c)(h0:∀v,v<S.n->P 0 v (c.getD v [])):RInv S V P c (yft (S.en c)) :=
 ⟨hv,h0,fun v hn hb=>h.rest c v 0 hv hn hb h0,by simp[yft]⟩
theorem ByRounds.step{S:Sys}{V:Conf->Prop}{P:Nat->Nat->List Int->Prop}(h:ByRounds S V P)(c:Conf)(k:Cnt)(s:Nat)(hi:RInv S V P c k)(h0:s≠0)(hs:subB s (S.en c)):RInv S V P (S.mv c s) (addP k s (S.en (S.mv c s))):=by
 obtain⟨i1,i2,i3,i4⟩:=hi;have hv:=h.valid c s i1 h0 hs
 have hall:∀v,v<S.n->P k.rounds v ((S.mv c s).getD v []):=fun v hn=>by
  cases hb:s.testBit v with
  |true=>exact h.less _ _ _ (h.move c s v _ i1 hn hb hs i2)
  |false=>rw[h.stay c s v i1 hn hb];exact i2 v hn
 have hnext:∀v,v<S.n->(difB k.pend s&&&S.en (S.mv c s)).testBit v=false->P (k.rounds+1) v ((S.mv c s).getD v []):=fun v hn hb=>by
  rw[zAF,ygp]at hb;cases hb1:s.testBit v with
  |true=>exact h.move c s v _ i1 hn hb1 hs i2
  | false =>
    cases hb2:k.pend.testBit v with
    |false=>rw[h.stay c s v i1 hn hb1];exact i3 v hn hb2
    | true =>
      rw[hb1,hb2]at hb;exact h.rest _ v _ hv hn (by simpa using hb) hall
 unfold addP;simp only
 by_cases hp:difB k.pend s&&&S.en (S.mv c s)=0
 ·simp only[if_pos hp];have hall':∀v,v<S.n->P (k.rounds+1) v ((S.mv c s).getD v []):=fun v hn=>hnext v hn (by rw[hp];simp)
  exact⟨hv,hall',fun v hn hb=>h.rest _ v _ hv hn hb hall',by show k.rounds+1<=_;simp⟩
 ·simp only[if_neg hp];exact⟨hv,hall,hnext,zJ _⟩
theorem ByRounds.runs{S:Sys}{V:Conf->Prop}{P:Nat->Nat->List Int->Prop}(h:ByRounds S V P){res:Nat->Nat->Nat}(hr:ybnp res){ws:List Nat}{c:Conf}(hv:V c)(h0:∀v,v<S.n->P 0 v (c.getD v [])):∀p∈S.runs res ws c,RInv S V P p.1 p.2 :=
 Sys.runs_all hr h.step (h.start hv h0)
end
section
structure RuleT where
 name:ByteArray
 guard:Ex
 sets:List (Int×Ex)
structure ProgT where
 name:ByteArray
 vars:List VarR
 rules:List RuleT
instance:Inhabited Ex:=⟨.leaf 0 0⟩
instance:Inhabited RuleT:=⟨⟨.empty,default,[]⟩⟩
def RuleT.raw(r:RuleT):RuleR:=⟨r.name,r.guard.ser,r.sets.map fun s=>⟨s.1,s.2.ser⟩⟩
def ProgT.raw(p:ProgT):ProgR:=⟨p.name,p.vars,p.rules.map RuleT.raw⟩
def RuleT.ok(nv:Nat)(r:RuleT):Bool:=r.guard.ok nv false&&decide (r.guard.ser.length<=1000)&&decide (r.sets.length<=100)&&r.sets.all fun s=>decide (0<=s.1/\s.1<nv)&&s.2.ok nv false&&decide (s.2.ser.length<=1000)
def VarR.ok(x:VarR):Bool:=decide (x.kind=1\/x.kind=2\/x.kind=3)&&decide (0<=x.lo/\x.lo<=4096)&&decide (-4096<=x.hi/\x.hi<=4096)&&decide (0<=x.perNode/\x.perNode<=255)&&decide (0<=x.perID/\x.perID<=255)
def ProgT.ok(p:ProgT):Bool:=decide (1<=p.vars.length/\p.vars.length<=6)&&p.vars.all VarR.ok&&decide (p.rules.length<=12)&&p.rules.all (RuleT.ok p.vars.length)
def ycaw(g:Gr)(c:Conf)(v:Nat)(r:RuleT):Bool:=ysg g c v r.guard (-1)!=0
def ybyy(p:ProgT)(g:Gr)(c:Conf)(v:Nat):Int:=match p.rules.findIdx? (ycaw g c v)with|some i=>i|none=>-1
def yrd(g:Gr)(v:Nat)(x:VarR):Int×Int :=
 if x.kind=1 then(x.lo,x.hi+x.perNode*(g.ids.length:Int)+x.perID*maxI g.ids)else if x.kind=2 then(0,1)else if x.kind=3 then(-1,((g.ports.getD v []).length:Int)-1)else(0,-1)
def ybxr(kind:Int)(b:Int×Int)(x:Int):Int:=if x>=b.1/\x<=b.2 then x else if kind=3 then -1 else if x<b.1 then b.1 else b.2
def ycik(p:ProgT)(g:Gr)(c:Conf)(v:Nat)(s0:List Int)(sets:List (Int×Ex)):List Int :=
 sets.foldl (fun s a=>s.set a.1.toNat (ybxr (p.vars.getD a.1.toNat default).kind (yrd g v (p.vars.getD a.1.toNat default)) (ysg g c v a.2 (-1)))) s0
def yciv(p:ProgT)(g:Gr)(c:Conf)(v:Nat)(r:Nat):List Int:=ycik p g c v (c.getD v []) (p.rules.getD r default).sets
def ybbd(p:ProgT)(g:Gr)(c:Conf):Nat:=ybwg (fun v=>decide (ybyy p g c v>=0)) g.ids.length
def ychc(p:ProgT)(g:Gr)(c:Conf)(s:Nat):Conf:=c.zipIdx.map fun q=>if s.testBit q.2 then yciv p g c q.2 (ybyy p g c q.2).toNat else q.1
def ybud(p:ProgT)(g:Gr):Sys:=⟨g.ids.length,ybbd p g,ychc p g⟩
def ybzo(p:ProgT)(g:Gr)(c:Conf):Bool:=ylo g.ids.length (fun v=>p.vars.map (yrd g v)) c
end
section
namespace Sh
open Go Ev
end Sh
end
section
namespace Sh
open Go Ev
end Sh
end
section
namespace Sh
open Go Ev
end Sh
end
section
theorem yig{a:Nat}(h:a<2^32):IntKind.wrap .u32 (a:Int)=a:=by
 unfold IntKind.wrap;simp[IntKind.bits,IntKind.signed];omega
theorem u32_and{a b:Nat}(ha:a<2^32)(hb:b<2^32):IntKind.wrap .u32 (((zD (IntKind.bits .u32) (a:Int))&&&zD (IntKind.bits .u32) (b:Int)).toNat:Int)=((a&&&b:Nat):Int):=by
 show IntKind.wrap .u32 (((zD 32 (a:Int))&&&zD 32 (b:Int)).toNat:Int)=_;rw[zN,zN,BitVec.toNat_and,zW,zW,zAA ha,zAA hb];exact yig (zX Nat.and_le_left ha)
theorem u32_or{a b:Nat}(ha:a<2^32)(hb:b<2^32):IntKind.wrap .u32 (((zD (IntKind.bits .u32) (a:Int))|||zD (IntKind.bits .u32) (b:Int)).toNat:Int)=((a|||b:Nat):Int):=by
 show IntKind.wrap .u32 (((zD 32 (a:Int))|||zD 32 (b:Int)).toNat:Int)=_;rw[zN,zN,BitVec.toNat_or,zW,zW,zAA ha,zAA hb];exact yig (Nat.or_lt_two_pow ha hb)
theorem u32_andNot{a b:Nat}(ha:a<2^32)(hb:b<2^32):IntKind.wrap .u32 (((zD (IntKind.bits .u32) (a:Int)) &&& ~~~zD (IntKind.bits .u32) (b:Int)).toNat:Int)=((difB a b:Nat):Int):=by
 show IntKind.wrap .u32 (((zD 32 (a:Int)) &&& ~~~zD 32 (b:Int)).toNat:Int)=_
 have e:((zD 32 (a:Int)) &&& ~~~zD 32 (b:Int)).toNat=difB a b:=by
  rw[zN,zN];refine zAK fun i=>?_;rw[ygp,BitVec.testBit_toNat,BitVec.getLsbD_and,BitVec.getLsbD_not,zAM,zAM]
  by_cases hi:i<32
  ·simp[hi]
  ·rw[zAH (zAU ha (zAL (by omega) (by omega)))]
   simp
 rw[e];exact yig (ybas ha)
theorem ynq{v:Nat}(hv:v<32):IntKind.wrap .u32 (1*2^(v:Int).toNat)=((2^v:Nat):Int):=by
 have h:2^v<2^32:=zAN (by omega) hv
 have:=yig h;rw[zK,Int.one_mul];rw[<-this]
 norm_cast
theorem ybko{a v:Nat}:(a:Int).fdiv (2^(v:Int).toNat)=((a>>>v:Nat):Int):=by
 rw[zK,zT];rw[Int.fdiv_eq_ediv_of_nonneg _ (Int.pow_nonneg (by omega))]
 simp
theorem ybto(a v:Nat):((a>>>v)&&&1=1)↔a.testBit v=true:=by
 rw[Nat.testBit,bne_iff_ne];rw[Nat.and_comm 1 (a>>>v)];rw[Nat.and_one_is_mod];omega
theorem yboy{s v:Nat}(hs:s<2^32):IntKind.wrap .u32 (((zD (IntKind.bits .u32) ((s:Int).fdiv (2^v)))&&&zD (IntKind.bits .u32) 1).toNat:Int)=(((s>>>v)&&&1:Nat):Int):=by
 have h:=ybko (a:=s) (v:=v);rw[zK]at h;rw[h];have h2:s>>>v<2^32:=by rw[zT];exact zX (zBG _ _) hs
 exact u32_and (a:=s>>>v) (b:=1) h2 (by decide)
theorem ybke{s v:Nat}:((((s>>>v)&&&1:Nat):Int)=1)↔s.testBit v=true:=by
 rw[<-ybto s v];omega
end
section
namespace Sh
open Go Ev
end Sh
end
section
namespace Sh
open Go Ev
def ycjd(p:ProgT)(g:Gr):Bool:=p.vars.all fun x=>decide (x.kind=1)==false||(decide ((yrd g 0 x).1<=(yrd g 0 x).2)&&decide ((yrd g 0 x).2-(yrd g 0 x).1+1<=4096))
def ycio(Q1 Q2:(Nat->Option ABlk)->Value->Prop)(p:ProgR):List SV:=[.a (.string p.name),.ex Q1 (ygk p.vars),.ex Q2 (yfd p.rules)]
end Sh
end
section
namespace Sh
open Go Ev Go.RowKit
structure Checked(Q1 Q2:(Nat->Option ABlk)->Value->Prop)(p:ProgT)(g:Gr):Prop where
 hg:ybj g
 hp:p.ok=true
 hf:ycjd p g=true
 hV:Returns zF 130 [.ag (ycio Q1 Q2 p.raw)] (.b true)
theorem Checked.gv{Q1 Q2:(Nat->Option ABlk)->Value->Prop}{p:ProgT}{g:Gr}(h:Checked Q1 Q2 p g):Returns zF 64 [grV g] (.b true):=by
 have e:=yqt (yccc h.hg);rw[(ybr g).2 h.hg]at e;exact e
section
variable {Q1 Q2:(Nat->Option ABlk)->Value->Prop}{p:ProgT}{g:Gr}
end
end Sh
end
section
theorem ykf(s a:Nat):∀b,yfl s (a+b)=yfl s a+yfl (s>>>a) b
 |0=>rfl
 | b+1=>by
   show yfl s (a+b)+(s.testBit (a+b)).toNat=_;rw[ykf s a b];show _=yfl s a+(yfl (s>>>a) b+((s>>>a).testBit b).toNat);rw[Nat.testBit_shiftRight];omega
theorem yln(s:Nat):∀b,b<=8->yfl (s&&&255) b=yfl s b
 |0,_=>rfl
 | b+1,h=>by
   show yfl _ b+_=yfl s b+_;rw[yln s b (by omega),zAF,show(255:Nat)=2^8-1 from rfl,Nat.testBit_two_pow_sub_one]
   simp[show b<8 by omega]
theorem ybeb(s:Nat):popP s=yfl (s>>>24&&&255) 8+yfl (s>>>16&&&255) 8+yfl (s>>>8&&&255) 8+yfl (s&&&255) 8:=by
 simp only[yln _ 8 (zJ _)];have h1:=ykf s 8 24;have h2:=ykf (s>>>8) 8 16;have h3:=ykf (s>>>8>>>8) 8 8;simp only[<-Nat.shiftRight_add,zI]at h1 h2 h3;unfold popP;omega
namespace Sh
open Ev Go.RowKit
theorem yrx:∀k,k<256->yre.getD k 0=yfl k 8:=by decide
theorem ybvl:yre.length=256:=by decide
theorem ybvz(a v:Nat):(a:Int).fdiv (2^v)=((a>>>v:Nat):Int):=by
 have h:=ybko (a:=a) (v:=v)
 rwa [zK]at h
theorem ybqs{a:Nat}(ha:a<2^32):IntKind.wrap .u32 (((zD (IntKind.bits .u32) (a:Int))&&&zD (IntKind.bits .u32) 255).toNat:Int)=((a&&&255:Nat):Int):=u32_and (b:=255) ha (by decide)
theorem yccf{a n:Nat}(h:a<2^32):a>>>n<2^32:=by rw[zT];exact zX (zBG _ _) h
theorem ybno{s:Nat}(hs:s<2^32):Returns zF 45 [.i .u32 s] (.i .i64 (popP s)):=by
 refine Returns.of (ybyj _ _ ?_);simp only[c45,ycet,ycam,clash,go_sem,zL,zB,zI,↓reduceIte,reduceCtorEq];have f1:=ybqs hs;have f2:=fun n=>ybqs (yccf (n:=n) hs);simp only[IntKind.bits]at f1 f2;simp only[ybvz,f1,f2,zK,ybvl];have hp:=ybeb s;have l1:s>>>24<256:=by rw[zT];omega
 have b1:∀x:Nat,x&&&255<256:=fun x=>zX Nat.and_le_right (by omega)
 rw[yln (s>>>24) 8 (zJ _)]at hp;rw[yrx _ l1,yrx _ (b1 (s>>>16)),yrx _ (b1 (s>>>8)),yrx _ (b1 s)];have q1:=yjw (s>>>24) 8;have q2:=yjw (s>>>16&&&255) 8;have q3:=yjw (s>>>8&&&255) 8;have q4:=yjw (s&&&255) 8;have w1:=b1 (s>>>16);have w2:=b1 (s>>>8);have w3:=b1 s;have u8k:∀x:Int,0<=x->x<=255->inK .u8 x:=fun x h1 h2=>⟨by simpa[IntKind.min,IntKind.signed]using h1,by simpa[IntKind.max,IntKind.bits,IntKind.signed]using h2⟩
 refine⟨⟨by omega,by decide⟩,⟨by omega,by omega⟩,⟨by omega,by decide⟩,by omega,u8k _ (by omega) (by omega),⟨by omega,by decide⟩,by omega,u8k _ (by omega) (by omega),by omega,u8k _ (by omega) (by omega),?_⟩
 rw[wrap_in (ikw (by omega) (by omega)),hp]
 exact Sim.refl _
def cntV(k:Cnt):List SV:=[.i .i64 k.steps,.i .i64 k.moves,.i .i64 k.rounds,.i .i64 k.begun,.i .u32 k.pend]
def usV(l:List Nat):SV:=.sl 1 l.length (fun k=>[.i .u32 ((l.getD k 0:Nat):Int)])
end Sh
end
section
namespace Sh
open Ev Go.RowKit
theorem u32k{a:Nat}(h:a<2^32):inK .u32 (a:Int):=⟨by simp[IntKind.min,IntKind.signed],by simp[IntKind.max,IntKind.bits,IntKind.signed];omega⟩
theorem ybsf{g:Gr}(hg:ybj g):Returns zF 79 [grV g] (.i .u32 (2^g.ids.length-1:Nat)):=by
 refine Returns.of (ycek _ _ ?_);have h3:=hg.2.2.1;have h4:=hg.2.1;simp only[c79,ybya,ybxq,grV,ybg,go_sem,zB,zI,zH,zM,↓reduceIte,reduceCtorEq];have h5:=ynq (v:=g.ids.length) (by omega)
 rw[zK]at h5;have h6:2^g.ids.length<2^32:=zAN (by omega) (by omega)
 have h7:1<=2^g.ids.length:=Nat.one_le_two_pow;have h8:(((2^g.ids.length:Nat):Int))-1=((2^g.ids.length-1:Nat):Int):=by omega
 rw[h5,h8];refine⟨⟨by omega,by show _<((32:Nat):Int);omega⟩,u32k (by omega),Sim.refl _⟩
end Sh
end
section
namespace Sh
open Go Ev
end Sh
end
section
namespace Sh
open Ev Go.RowKit
instance:Inhabited Cnt:=⟨⟨0,0,0,0,0⟩⟩
structure DaemonOk(kind:Int)(net:List Nat)(res:Nat->Nat->Nat):Prop where
 resolve:∀(e w:Nat),e<2^24->e<2^net.length->e≠0->w<2^32->Returns zF 0 [usV net,.i .i64 kind,.i .u32 e,.i .u32 w] (.i .u32 (res e w))
 permits:∀(e w:Nat),e<2^24->e<2^net.length->e≠0->w<2^32->Returns zF 0 [usV net,.i .i64 kind,.i .u32 e,.i .u32 (res e w)] (.b true)
 zero:∀(w:Nat),w<2^32->∃x:Nat,Returns zF 0 [usV net,.i .i64 kind,.i .u32 0,.i .u32 w] (.i .u32 x)
 sub:∀(e w:Nat),e≠0->e<2^24->res e w≠0/\subB (res e w) e
end Sh
end
section
namespace Sh
end Sh
end
section
namespace Sh
open Ev Go.RowKit
theorem gmr{α:Type}(f:Nat->α)(n k:Nat)(d:α)(h:k<n):((zV n).map f).getD k d=f k:=by simp[zG,h]
def mapR{α:Type}(n:Nat)(f:Nat->α):List α:=(zV n).map f
theorem gmR{α:Type}(f:Nat->α)(n k:Nat)(d:α)(h:k<n):(mapR n f).getD k d=f k:=gmr f n k d h
theorem ynf{α:Type}(n:Nat)(f:Nat->α):(mapR n f).length=n:=by simp[mapR]
section
variable {Q1 Q2:(Nat->Option ABlk)->Value->Prop}{p:ProgT}{g:Gr}
end
end Sh
end
section
namespace Sh
open Ev Go.RowKit
section
variable {Q1 Q2:(Nat->Option ABlk)->Value->Prop}{p:ProgT}{g:Gr}
def yfs(l:List Conf):SV:=.sl 1 l.length (fun i=>[ycn (l.getD i [])])
def ykc(l:List Cnt):SV:=.sl 5 l.length (fun i=>cntV (l.getD i default))
end
end Sh
end
section
def yzq(v m:Int):Int:=if m<1 then 0 else v%m
def atP(l:List Int)(i:Nat):Int:=l.getD i 0
namespace Sh
open Ev Go.RowKit
end Sh
end
section
namespace Sh
open Ev Go.RowKit
section
variable {p:ProgT}{g:Gr}
end
end Sh
end
section
namespace Sh
open Ev Go.RowKit
def blV(l:List Bool):SV:=.sl 1 l.length (fun k=>[.b (l.getD k false)])
def ybpr(l:List Bool)(k:Nat):Bool:=(l.take k).any id
structure HeldOk(legit:List Bool)(ks:List Cnt)(rounds moves:Int)(ended:Bool):Prop where
 len:legit.length=ks.length
 pos:0<legit.length
 stays:∀i,i<legit.length->ybpr legit i=true->legit.getD i false=true
 rounds:∀i,i<legit.length->ybpr legit (i+1)=false->((ks.getD i default).begun:Int)<=rounds
 moves:∀i,i<legit.length->ybpr legit (i+1)=false->0<=moves->((ks.getD i default).moves:Int)<=moves
 ends:ybpr legit legit.length=true\/ended=false
end Sh
end
section
namespace Sh
open Ev Go.RowKit
end Sh
end
section
namespace Sh
open Go Ev
end Sh
end
section
namespace Sh
open Ev Go.RowKit
theorem ybdm{g:Gr}(hI:GrI g):Returns zF 65 [grV g] (.b (ybw g)):=by
 refine ymf ⟨_,_,Tryz.func65,rfl⟩ (fun _=>.b) (fun _=>.simple rfl) fun G m us hG hr φ M w us' hRl hs hv=>?_;obtain⟨u,rfl,h1⟩:=rvl1 hr;obtain⟨u',rfl,h2⟩:=yef hv;exact ycz u' g w (yyk hG h1 h2 hRl hs hI)
theorem yqx{R:List Int}{x:Int}{ls:List (Int×Int)}{i:Nat}(hi:i<ls.length):yiq R x (ls.take (i+1))=(yiq R x (ls.take i)||decide (R[(ls.getD i (0,0)).1.toNat]?=some x)):=by
 unfold yiq;rw[List.take_succ_eq_append_getElem hi,zBE,getD_at hi];simp
end Sh
end
section
structure Tgt(S:Sys)(V:Conf->Prop)(T:Conf->Nat->List Int):Prop where
 valid:∀c s,V c->s≠0->subB s (S.en c)->V (S.mv c s)
 stay:∀c s v,V c->v<S.n->s.testBit v=false->(S.mv c s).getD v []=c.getD v []
 move:∀c s v,V c->v<S.n->s.testBit v=true->subB s (S.en c)->(S.mv c s).getD v []=T c v
 en:∀c v,V c->v<S.n->((S.en c).testBit v=false↔c.getD v []=T c v)
theorem Tgt.rounds{S:Sys}{V:Conf->Prop}{T:Conf->Nat->List Int}(h:Tgt S V T){P:Nat->Nat->List Int->Prop}(hT:∀c v r,V c->v<S.n->(∀u,u<S.n->P r u (c.getD u []))->P (r+1) v (T c v))(hl:∀r v s,P (r+1) v s->P r v s):ByRounds S V P where
 valid:=h.valid
 stay:=h.stay
 move:=fun c s v r hv hn hb hs hall=>by rw[h.move c s v hv hn hb hs];exact hT c v r hv hn hall
 rest:=fun c v r hv hn hb hall=>by rw[(h.en c v hv hn).1 hb];exact hT c v r hv hn hall
 less:=hl
theorem Tgt.silent{S:Sys}{V:Conf->Prop}{T:Conf->Nat->List Int}(h:Tgt S V T){P:Nat->Nat->List Int->Prop}(hT:∀c v r,V c->v<S.n->(∀u,u<S.n->P r u (c.getD u []))->P (r+1) v (T c v)){c:Conf}(hv:V c)(h0:∀v,v<S.n->P 0 v (c.getD v []))(he:S.en c=0):∀r v,v<S.n->P r v (c.getD v [])
 |0,v,hn=>h0 v hn
 | r+1,v,hn=>by
   rw[(h.en c v hv hn).1 (by rw[he];simp)]
   exact hT c v r hv hn (Tgt.silent h hT hv h0 he r)
theorem Sys.run_last{S:Sys}{res:Nat->Nat->Nat}:∀(ws:List Nat) (c:Conf) (k:Cnt) (i:Nat),i+1<(S.run res ws c k).length->∀p,(S.run res ws c k)[i]?=some p->S.en p.1≠0
 |[],c,k,i,h,p,hp=>by simp[Sys.run]at h
 | w :: ws,c,k,i,h,p,hp=>by
   unfold Sys.run at h hp;split at h
   ·simp at h
   ·rename_i h0
    rw[if_neg h0]at hp;cases i with
    | zero =>
      simp only[zAE]at hp;cases hp
      simp only[zBD]at h;cases ws with
      |nil=>simp[Sys.run]at h
      | cons w' ws =>
        unfold Sys.run at h;split at h
        ·simp at h
        ·assumption
    |succ i=>exact Sys.run_last ws _ _ i (by simpa using h) p (by simpa using hp)
theorem Sys.runs_last{S:Sys}{res:Nat->Nat->Nat}{ws:List Nat}{c:Conf}{i:Nat}(h:i+1<(S.runs res ws c).length){p:Conf×Cnt}(hp:(S.runs res ws c)[i]?=some p):S.en p.1≠0:=by
 unfold Sys.runs at h hp;cases i with
 | zero =>
   simp only[zAE]at hp;cases hp
   cases ws with
   |nil=>simp[Sys.run]at h
   | cons w ws =>
     unfold Sys.run at h;split at h
     ·simp at h
     ·assumption
 |succ i=>exact Sys.run_last ws _ _ i (by simpa using h) p (by simpa using hp)
end
section
open Go.RowKit
end
section
def ydg(g:Gr):Nat:=(g.ports.map List.length).sum
def addL(back:Bool)(l:List (Int×Int))(x:Int×Int):List (Int×Int):=if back then x::l else l++[x]
theorem ykn{back:Bool}{l:List (Int×Int)}{x y:Int×Int}:y∈addL back l x↔y=x\/y∈l:=by
 unfold addL;cases back<;>simp[or_comm]
def ygw(back:Bool)(g:Gr)(a b:Nat)(w:Int):Gr:=⟨g.ids,(g.ports.set a (addL back (g.ports.getD a []) (b,w))).set b (addL back (g.ports.getD b []) (a,w))⟩
theorem yii(back:Bool)(g:Gr){a b:Nat}(w:Int)(ha:a<g.ports.length)(hb:b<g.ports.length)(v:Nat) :
 (ygw back g a b w).ports.getD v []=if v=b then addL back (g.ports.getD b []) (a,w)else if v=a then addL back (g.ports.getD a []) (b,w)else g.ports.getD v []:=by
 unfold ygw;simp only[zG]
 by_cases h1:v=b
 ·subst h1;rw[if_pos rfl,zAI (by simpa using hb)]
  rfl
 ·rw[if_neg h1,zAO (fun q=>h1 q.symm)]
  by_cases h2:v=a
  ·subst h2;rw[if_pos rfl,zAI ha];rfl
  ·rw[if_neg h2,zAO (fun q=>h2 q.symm)]
end
section
def Tre(g:Gr)(m:Nat):Prop:=∀v,0<v->v<m->∃u,u<v/\adj g u v
theorem Tre.walk{g:Gr}{m:Nat}(h:Tre g m):∀v,v<m->∃k,Walk g 0 k v:=by
 intro v
 induction v using Nat.strongRecOn with
 | _ v ih =>
   intro hv
   by_cases h0:v=0
   ·subst h0;exact⟨0,rfl⟩
   ·obtain⟨u,hu,ha⟩:=h v (by omega) hv
    obtain⟨k,hk⟩:=ih u hu (by omega)
    exact⟨k+1,u,hk,ha⟩
theorem Tre.conn{g:Gr}(hg:ybj g)(h:Tre g g.ports.length):ydd g=true:=by
 unfold ydd;rw[(ybr g).2 hg,Bool.true_and,yxn hg (a:=0) (by have:=hg.1;omega)]
 exact h.walk
theorem ygo{g:Gr}{u v:Nat}:adj g u v↔∃l,l∈g.ports.getD u []/\l.1=(v:Int):=by
 constructor
 ·rintro⟨ls,h,l,hl,e⟩;exact⟨l,by simpa[zG,h]using hl,e⟩
 ·rintro⟨l,hl,e⟩;cases h:g.ports[u]? with
  |none=>simp[zG,h]at hl
  |some ls=>exact⟨ls,h,l,by simpa[zG,h]using hl,e⟩
theorem yxv{back:Bool}{g:Gr}{a b:Nat}{w:Int}(ha:a<g.ports.length)(hb:b<g.ports.length){u v:Nat}(h:adj g u v):adj (ygw back g a b w) u v:=by
 obtain⟨l,hl,e⟩:=ygo.1 h;refine ygo.2 ⟨l,?_,e⟩;rw[yii back g w ha hb u];split
 ·rename_i q;subst q;exact ykn.2 (.inr hl)
 ·split
  ·rename_i q;subst q;exact ykn.2 (.inr hl)
  ·exact hl
theorem yzc{back:Bool}{g:Gr}{a b:Nat}{w:Int}(ha:a<g.ports.length)(hb:b<g.ports.length)(hab:a≠b):adj (ygw back g a b w) a b:=by
 refine ygo.2 ⟨((b:Int),w),?_,rfl⟩;rw[yii back g w ha hb a,if_neg hab,if_pos rfl];exact ykn.2 (.inl rfl)
theorem Tre.add{back:Bool}{g:Gr}{a b:Nat}{w:Int}(ha:a<g.ports.length)(hb:b<g.ports.length){m:Nat}(h:Tre g m):Tre (ygw back g a b w) m:=fun v h0 hv=>by
 obtain⟨u,hu,hadj⟩:=h v h0 hv;exact⟨u,hu,yxv ha hb hadj⟩
def bare(ids:List Int):Gr:=⟨ids,zAB ids.length []⟩
end
section
abbrev ybje:Ex:=.leaf 4 0
abbrev eVar(k:Int):Ex:=.leaf 5 k
abbrev eQ(k:Int):Ex:=.leaf 12 k
def endP(c:Conf)(k:Nat)(l:Int×Int):Int:=(c.getD l.1.toNat []).getD k 0
section
variable {nm nd np nt nl:ByteArray}{g:Gr}{c:Conf}{v:Nat}
end
end
section
section
variable {g:Gr}{a v:Nat}
theorem yez(hg:ybj g)(hc:ydd g=true)(ha:a<g.ports.length)(hv:v<g.ports.length):∃k:Nat,(ybo g a).getD v 0=k/\Walk g a k v/\(∀j,j<k->¬Walk g a j v)/\k<g.ports.length:=by
 have h0:0<g.ports.length:=by omega
 have hall:(ybo g a).all (fun x=>decide (0<=x))=true:=ysv hg h0 ha ((zZ _ _▸hc).2);have hl:=yfw hg ha;have hvl:v<(ybo g a).length:=by rw[hl];exact hv
 have e:(ybo g a).getD v 0=(ybo g a)[v]:=by simp[zG,hvl]
 have hpos:0<=(ybo g a)[v]:=by simpa using List.all_eq_true.1 hall _ (zY hvl)
 rcases(ydc hg ha).2 v _ (zC hvl)with⟨h,_⟩|⟨k,h1,h2,h3⟩
 ·omega
 ·exact⟨k,by rw[e,h1],h2,h3,yoh hg ha h2 h3⟩
theorem ybwk{k:Nat}(hg:ybj g)(hc:ydd g=true)(ha:a<g.ports.length)(hv:v<g.ports.length)(h1:Walk g a k v)(h2:∀j,j<k->¬Walk g a j v):(ybo g a).getD v 0=k:=by
 obtain⟨j,e,h3,h4,_⟩:=yez hg hc ha hv;rcases Nat.lt_trichotomy j k with h|h|h
 ·exact absurd h3 (h2 j h)
 ·rw[e,h]
 ·exact absurd h1 (h4 k h)
theorem ybka(hg:ybj g)(hc:ydd g=true)(ha:a<g.ports.length):(ybo g a).getD a 0=0:=ybwk hg hc ha ha (k:=0) rfl fun j hj=>by omega
theorem ybgp(hg:ybj g)(hc:ydd g=true)(ha:a<g.ports.length)(hv:v<g.ports.length):0<=(ybo g a).getD v 0/\(ybo g a).getD v 0<g.ports.length:=by
 obtain⟨k,e,_,_,h⟩:=yez hg hc ha hv;omega
theorem ybof(hg:ybj g)(hc:ydd g=true)(ha:a<g.ports.length)(hv:v<g.ports.length)(hne:v≠a):1<=(ybo g a).getD v 0:=by
 obtain⟨k,e,h1,_,_⟩:=yez hg hc ha hv;cases k with
 |zero=>exact absurd h1 hne
 |succ k=>omega
theorem ybpg(hg:ybj g)(hc:ydd g=true)(ha:a<g.ports.length){u:Nat}(h:adj g u v):(ybo g a).getD v 0<=(ybo g a).getD u 0+1:=by
 obtain⟨hu,hv⟩:=hg.adj_lt h;obtain⟨k,e,h1,_,_⟩:=yez hg hc ha hu;obtain⟨j,e',_,h3,_⟩:=yez hg hc ha hv;rw[e,e'];rcases zBK (k+1) j with q|q
 ·exact absurd ⟨u,h1,h⟩ (h3 (k+1) q)
 ·omega
theorem ywb(hg:ybj g)(hc:ydd g=true)(ha:a<g.ports.length)(hv:v<g.ports.length)(hne:v≠a):∃u,adj g v u/\(ybo g a).getD u 0=(ybo g a).getD v 0-1:=by
 obtain⟨k,e,h1,h2,_⟩:=yez hg hc ha hv;cases k with
 |zero=>exact absurd h1 hne
 | succ k =>
   obtain⟨u,h3,h4⟩:=h1;refine⟨u,hg.adj_symm h4,?_⟩;have h5:=ybpg hg hc ha h4;obtain⟨hu,_⟩:=hg.adj_lt h4;obtain⟨j,e',_,h6,_⟩:=yez hg hc ha hu;rw[e,e']at h5;rcases zBK k j with q|q
   ·exact absurd h3 (h6 k q)
   ·rw[e,e'];omega
theorem ycp{l:Int×Int}(hg:ybj g)(hv:v<g.ports.length)(hl:l∈g.ports.getD v []):0<=l.1/\l.1.toNat<g.ports.length/\adj g v l.1.toNat/\1<=l.2/\l.2<=15:=by
 have e:g.ports[v]?=some (g.ports.getD v []):=by simp[zG,hv]
 have h:=hg.link e hl;exact⟨h.1,by omega,⟨_,e,l,hl,by omega⟩,h.2.2.2.1,h.2.2.2.2⟩
theorem ylj{u:Nat}(h:adj g v u):∃l∈g.ports.getD v [],l.1.toNat=u:=by
 obtain⟨l,hl,e⟩:=ygo.1 h;exact⟨l,hl,by rw[e];simp⟩
end
section
variable {nm nd np nt nl:ByteArray}{g:Gr}
end
end
section
def ybs(g:Gr):Bool:=ydd g&&decide (ydg g/2+1=g.ports.length)
theorem ybll{α:Type}[DecidableEq α]:∀{l1 l2:List α},l1.Nodup->(∀x∈l1,x∈l2)->l2.length<=l1.length->∀x∈l2,x∈l1
 | [],l2,_,_,h,x,hx=>by
   have:l2=[]:=List.eq_nil_of_length_eq_zero (by simpa using h)
   rw[this]at hx;exact absurd hx List.not_mem_nil
 | a :: t,l2,hn,hs,h,x,hx=>by
   have hn:=List.nodup_cons.1 hn
   by_cases q:x=a
   ·rw[q];exact zAV
   ·refine zAP _ (ybll (l2:=l2.erase a) hn.2 (fun y hy=>?_) ?_ x ((zAQ q).2 hx))
    ·refine(zAQ fun e=>hn.1 (by rw[<-e];exact hy)).2 (hs y (zAP _ hy))
    ·rw[zAD (hs a zAV)];simp only[zBD]at h;omega
structure TreeM(g:Gr):Prop where
 up:∀a v u,a<g.ports.length->adj g v u->(ybo g a).getD u 0=(ybo g a).getD v 0-1\/(ybo g a).getD u 0=(ybo g a).getD v 0+1
 one:∀a v u w,a<g.ports.length->adj g v u->adj g v w->(ybo g a).getD u 0=(ybo g a).getD v 0-1->(ybo g a).getD w 0=(ybo g a).getD v 0-1->u=w
theorem ycay{g:Gr}(hg:ybj g)(hc:ydd g=true)(ht:ydg g<=2*(g.ports.length-1)):TreeM g:=by
 have key:∀a,a<g.ports.length->∃up:Nat->Nat,∀v u,adj g v u->(v≠a/\u=up v/\(ybo g a).getD u 0=(ybo g a).getD v 0-1)\/(ybo g a).getD u 0=(ybo g a).getD v 0+1:=fun a ha=>by
  have ex:∀v,v<g.ports.length->v≠a->∃u,adj g v u/\(ybo g a).getD u 0=(ybo g a).getD v 0-1:=fun v hv hne=>ywb hg hc ha hv hne
  obtain⟨up,hup⟩:∃up:Nat->Nat,∀v,v<g.ports.length->v≠a->adj g v (up v)/\(ybo g a).getD (up v) 0=(ybo g a).getD v 0-1:=by
   refine⟨fun v=>if h:v<g.ports.length/\v≠a then zBP (ex v h.1 h.2)else 0,fun v hv hne=>?_⟩
   simp only[dif_pos (show v<g.ports.length/\v≠a from⟨hv,hne⟩)]
   exact zBO (ex v hv hne)
  let U:List (Nat×Nat):=((zV g.ports.length).erase a).map fun v=>(v,up v)
  let P:List (Nat×Nat):=(zV g.ports.length).flatMap fun v=>(g.ports.getD v []).map fun l=>(v,l.1.toNat)
  have hnd:((zV g.ports.length).erase a).Nodup:=List.nodup_range.erase a
  have mU:∀x y,(x,y)∈U↔x<g.ports.length/\x≠a/\y=up x:=fun x y=>by
   show(x,y)∈((zV g.ports.length).erase a).map (fun v=>(v,up v))↔_;rw[List.mem_map];constructor
   ·rintro⟨v,hv,e⟩;cases e
    have hv:=(List.nodup_range.mem_erase_iff).1 hv;exact⟨List.mem_range.1 hv.2,hv.1,rfl⟩
   ·rintro⟨h1,h2,rfl⟩;exact⟨x,(List.nodup_range.mem_erase_iff).2 ⟨h2,List.mem_range.2 h1⟩,rfl⟩
  have mP:∀x y,(x,y)∈P↔x<g.ports.length/\adj g x y:=fun x y=>by
   show(x,y)∈zBL _ _↔_;rw[List.mem_flatMap];constructor
   ·rintro⟨v,hv,h⟩;obtain⟨l,hl,e⟩:=List.mem_map.1 h;cases e
    have hv:=List.mem_range.1 hv;exact⟨hv,(ycp hg hv hl).2.2.1⟩
   ·rintro⟨h1,h2⟩;obtain⟨l,hl,e⟩:=ylj h2;exact⟨x,List.mem_range.2 h1,List.mem_map.2 ⟨l,hl,by rw[e]⟩⟩
  have dU:∀x y,(x,y)∈U->(ybo g a).getD y 0=(ybo g a).getD x 0-1:=fun x y h=>by
   obtain⟨h1,h2,rfl⟩:=(mU x y).1 h;exact(hup x h1 h2).2
  have nU:U.Nodup:=by
   show(((zV g.ports.length).erase a).map (fun v=>(v,up v))).Nodup;rw[List.Nodup,zAX];exact hnd.imp fun h e=>h (congrArg Prod.fst e)
  have nD:(U.map fun p=>(p.2,p.1)).Nodup:=by
   rw[List.Nodup,zAX];exact nU.imp fun h e=>h (by simp only[Prod.mk.injEq]at e;exact Prod.ext e.2 e.1)
  have nUD:(U++U.map fun p=>(p.2,p.1)).Nodup:=by
   rw[List.nodup_append];refine⟨nU,nD,?_⟩;rintro⟨x,y⟩ h1 ⟨x',y'⟩ h2 e;cases e
   obtain⟨⟨p,q⟩,h3,e⟩:=List.mem_map.1 h2;cases e
   have a1:=dU _ _ h1;have a2:=dU _ _ h3;simp only at a1 a2;omega
  have lU:U.length=g.ports.length-1:=by
   show(List.map _ _).length=_;rw[zBH,zAD (List.mem_range.2 ha),List.length_range]
  have lP:P.length=ydg g:=by
   show(zBL _ _).length=_;rw[List.length_flatMap];unfold ydg;congr 1;refine List.ext_getElem (by simp) fun i h1 h2=>?_
   have hi:i<g.ports.length:=by simpa using h2
   simp[zG,hi]
  have hall:=ybll nUD (l2:=P) (fun p hp=>by
   obtain⟨x,y⟩:=p;rcases List.mem_append.1 hp with h|h
   ·obtain⟨h1,h2,rfl⟩:=(mU x y).1 h;exact(mP _ _).2 ⟨h1,(hup x h1 h2).1⟩
   ·obtain⟨⟨p,q⟩,h3,e⟩:=List.mem_map.1 h;cases e
    obtain⟨h1,h2,e⟩:=(mU _ _).1 h3;simp only at e ⊢;subst e;have h4:=(hup p h1 h2).1;exact(mP _ _).2 ⟨(hg.adj_lt h4).2,hg.adj_symm h4⟩) (by have lD:(U.map fun p=>(p.2,p.1)).length=U.length:=zBH _;rw[zAS,lD,lU,lP];omega)
  refine⟨up,fun v u h=>?_⟩;have h1:=hall (v,u) ((mP v u).2 ⟨(hg.adj_lt h).1,h⟩);rcases List.mem_append.1 h1 with h|h
  ·left
   obtain⟨_,h2,h3⟩:=(mU v u).1 h;exact⟨h2,h3,dU _ _ h⟩
  ·right
   obtain⟨⟨p,q⟩,h3,e⟩:=List.mem_map.1 h;cases e
   have:=dU _ _ h3;simp only at this ⊢;omega
 constructor
 ·intro a v u ha h;obtain⟨up,hup⟩:=key a ha;rcases hup v u h with⟨_,_,h3⟩|h3
  ·exact .inl h3
  ·exact .inr h3
 ·intro a v u w ha h1 h2 e1 e2;obtain⟨up,hup⟩:=key a ha;rcases hup v u h1 with⟨_,h3,_⟩|h3
  ·rcases hup v w h2 with⟨_,h4,_⟩|h4
   ·rw[h3,h4]
   ·omega
  ·omega
end
end Go.Proofs.YtiejahgklcjhkaaGreat
