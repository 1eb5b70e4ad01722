/- Joined. -/
import Derived.Test.YtiejahgklcjhkaaPkZ10
set_option linter.unusedSimpArgs false
set_option linter.unusedVariables false
set_option maxRecDepth 8000
open Go.Lib renaming hid→zA
open List renaming getElem?_eq_getElem→zB,getD→zD,range→zG,mem_cons_of_mem→zI,mem_cons_self→zO,getElem_mem→zQ,take_length→zU,take_succ_eq_append_getElem→zV,replicate→zW,foldl_append→zX,length_erase_of_mem→zY,getElem?_cons_zero→zZ,getElem?_set_self→zAC,mem_of_getElem?→zAE,getElem?_set_ne→zAI,mem_erase_of_ne→zAJ,length_append→zAK,pairwise_map→zAN,all_eq_true→zAO,length_drop→zAR,length_cons→zAT,not_mem_nil→zAU,countP_cons→zAV,any_append→zAW,range_succ→zAX,length_map→zAZ,countP_nil→zBA,flatMap→zBC
open Nat renaming reduceEqDiff→zC,le_refl→zF,reduceAdd→zJ,reduceLT→zN,reduceLeDiff→zT,zero_le→zAA,testBit_lt_two_pow→zAB,pow_le_pow_right→zAF,pow_lt_pow_right→zAH,lt_of_lt_of_le→zAL,lt_succ_self→zAQ,mod_eq_of_lt→zAS,testBit_and→zAY,lt_or_ge→zBB
open BitVec renaming ofInt→zH,ofInt_natCast→zM,getLsbD_ofNat→zAG,toNat_ofNat→zAM
open Int renaming eq_ofNat_of_zero_le→zK,toNat_natCast→zL,le_refl→zAD,natCast_zero→zAP,lt_or_le→zBD
open Bool renaming and_eq_true→zS
open Classical renaming choose_spec→zBE,choose→zBF
open Go
namespace Go.Proofs.Ytiejahgklcjhkaa
section
namespace Sh
open Go Ev
def varC(x:VarR):List SV:=[.a (.string x.name),.i .i64 x.kind,.i .i64 x.lo,.i .i64 x.hi,.i .i64 x.perNode,.i .i64 x.perID]
def yfq(l:List VarR):SV:=.sl 6 l.length (fun k=>varC (l.getD k default))
def yil(l:List SetR):SV:=.sl 2 l.length (fun k=>[.i .i64 (l.getD k default).var,ybc (l.getD k default).val])
def yev(l:List RuleR):SV:=.sl 3 l.length (fun k=>[.a (.string (l.getD k default).name),ybc (l.getD k default).guard,yil (l.getD k default).sets])
def yfm(g:Gr):SV:=.sl 1 g.ports.length (fun v=>[ybf (ybms g v)])
theorem ybcw(l:List Int):one1 (ybf l)=true:=rfl
theorem yvt{n:Nat}(l:List Int):owned (n+1) (ybf l)=false:=rfl
theorem yvi{n:Nat}(l:List Int):scalar (n+1) (ybf l)=false:=rfl
theorem ybbc{n:Nat}(o:Own)(l:List Int):view o (n+1) (ybf l)=ybf l:=rfl
theorem ybif{n:Nat}(o:Own)(l:List Int):vok o (n+1) (ybf l)=True:=rfl
theorem ybev{n:Nat}(h:Nm->Nm)(l:List Int):ren h (n+1) (ybf l)=ybf l:=rfl
theorem ybeo{n:Nat}(L:Nm->Bool)(l:List Int):cln L (n+1) (ybf l)=true:=rfl
theorem yya(l:List (Int×Int)):one1 (ybc l)=true:=rfl
theorem yuc{n:Nat}(l:List (Int×Int)):owned (n+1) (ybc l)=false:=rfl
theorem yra{n:Nat}(l:List (Int×Int)):scalar (n+1) (ybc l)=false:=rfl
theorem ywb{n:Nat}(o:Own)(l:List (Int×Int)):view o (n+1) (ybc l)=ybc l:=rfl
theorem ybcm{n:Nat}(o:Own)(l:List (Int×Int)):vok o (n+1) (ybc l)=True:=rfl
theorem ybar{n:Nat}(h:Nm->Nm)(l:List (Int×Int)):ren h (n+1) (ybc l)=ybc l:=rfl
theorem ybcv{n:Nat}(L:Nm->Bool)(l:List (Int×Int)):cln L (n+1) (ybc l)=true:=rfl
theorem yxe(l:List (List (Int×Int))):one1 (yu l)=true:=rfl
theorem yuf{n:Nat}(l:List (List (Int×Int))):owned (n+1) (yu l)=false:=rfl
theorem yrh{n:Nat}(l:List (List (Int×Int))):scalar (n+1) (yu l)=false:=rfl
theorem ywp{n:Nat}(o:Own)(l:List (List (Int×Int))):view o (n+1) (yu l)=yu l:=rfl
theorem ybcx{n:Nat}(o:Own)(l:List (List (Int×Int))):vok o (n+1) (yu l)=True:=rfl
theorem ybbj{n:Nat}(h:Nm->Nm)(l:List (List (Int×Int))):ren h (n+1) (yu l)=yu l:=rfl
theorem ybdn{n:Nat}(L:Nm->Bool)(l:List (List (Int×Int))):cln L (n+1) (yu l)=true:=rfl
theorem ybdf(l:List (List Int)):one1 (ycb l)=true:=rfl
theorem yxq{n:Nat}(l:List (List Int)):owned (n+1) (ycb l)=false:=rfl
theorem yvj{n:Nat}(l:List (List Int)):scalar (n+1) (ycb l)=false:=rfl
theorem ybdi{n:Nat}(o:Own)(l:List (List Int)):view o (n+1) (ycb l)=ycb l:=rfl
theorem ybhe{n:Nat}(o:Own)(l:List (List Int)):vok o (n+1) (ycb l)=True:=rfl
theorem ybej{n:Nat}(h:Nm->Nm)(l:List (List Int)):ren h (n+1) (ycb l)=ycb l:=rfl
theorem ybfs{n:Nat}(L:Nm->Bool)(l:List (List Int)):cln L (n+1) (ycb l)=true:=rfl
theorem ybdj(l:List VarR):one1 (yfq l)=true:=rfl
theorem yxv{n:Nat}(l:List VarR):owned (n+1) (yfq l)=false:=rfl
theorem ytp{n:Nat}(l:List VarR):scalar (n+1) (yfq l)=false:=rfl
theorem ybcz{n:Nat}(o:Own)(l:List VarR):view o (n+1) (yfq l)=yfq l:=rfl
theorem ybgz{n:Nat}(o:Own)(l:List VarR):vok o (n+1) (yfq l)=True:=rfl
theorem ybhv{n:Nat}(h:Nm->Nm)(l:List VarR):ren h (n+1) (yfq l)=yfq l:=rfl
theorem ybhx{n:Nat}(L:Nm->Bool)(l:List VarR):cln L (n+1) (yfq l)=true:=rfl
theorem ybcr(l:List SetR):one1 (yil l)=true:=rfl
theorem yyw{n:Nat}(l:List SetR):owned (n+1) (yil l)=false:=rfl
theorem yuw{n:Nat}(l:List SetR):scalar (n+1) (yil l)=false:=rfl
theorem ybcp{n:Nat}(o:Own)(l:List SetR):view o (n+1) (yil l)=yil l:=rfl
theorem ybet{n:Nat}(o:Own)(l:List SetR):vok o (n+1) (yil l)=True:=rfl
theorem ybhq{n:Nat}(h:Nm->Nm)(l:List SetR):ren h (n+1) (yil l)=yil l:=rfl
theorem ybds{n:Nat}(L:Nm->Bool)(l:List SetR):cln L (n+1) (yil l)=true:=rfl
theorem yvp(l:List RuleR):one1 (yev l)=true:=rfl
theorem ytq{n:Nat}(l:List RuleR):owned (n+1) (yev l)=false:=rfl
theorem yrc{n:Nat}(l:List RuleR):scalar (n+1) (yev l)=false:=rfl
theorem yyf{n:Nat}(o:Own)(l:List RuleR):view o (n+1) (yev l)=yev l:=rfl
theorem ybbd{n:Nat}(o:Own)(l:List RuleR):vok o (n+1) (yev l)=True:=rfl
theorem ybbo{n:Nat}(h:Nm->Nm)(l:List RuleR):ren h (n+1) (yev l)=yev l:=rfl
theorem ybbs{n:Nat}(L:Nm->Bool)(l:List RuleR):cln L (n+1) (yev l)=true:=rfl
theorem yxr(l:Gr):one1 (yfm l)=true:=rfl
theorem yvm{n:Nat}(l:Gr):owned (n+1) (yfm l)=false:=rfl
theorem yru{n:Nat}(l:Gr):scalar (n+1) (yfm l)=false:=rfl
theorem ywj{n:Nat}(o:Own)(l:Gr):view o (n+1) (yfm l)=yfm l:=rfl
theorem ybch{n:Nat}(o:Own)(l:Gr):vok o (n+1) (yfm l)=True:=rfl
theorem ybcq{n:Nat}(h:Nm->Nm)(l:Gr):ren h (n+1) (yfm l)=yfm l:=rfl
theorem ybbu{n:Nat}(L:Nm->Bool)(l:Gr):cln L (n+1) (yfm l)=true:=rfl
theorem yyp{n:Nat}(fr:List Nm)(o:Own)(l:List Int):ycl fr o (n+1) (ybf l)=ybf l:=rfl
theorem ybeq{n:Nat}(fr:List Nm)(o:Own)(l:List Int):pok fr o (n+1) (ybf l)=True:=rfl
theorem yub{n:Nat}(fr:List Nm)(o:Own)(l:List (Int×Int)):ycl fr o (n+1) (ybc l)=ybc l:=rfl
theorem ybdd{n:Nat}(fr:List Nm)(o:Own)(l:List (Int×Int)):pok fr o (n+1) (ybc l)=True:=rfl
theorem ytd{n:Nat}(fr:List Nm)(o:Own)(l:List (List (Int×Int))):ycl fr o (n+1) (yu l)=yu l:=rfl
theorem ybdm{n:Nat}(fr:List Nm)(o:Own)(l:List (List (Int×Int))):pok fr o (n+1) (yu l)=True:=rfl
theorem yvs{n:Nat}(fr:List Nm)(o:Own)(l:List (List Int)):ycl fr o (n+1) (ycb l)=ycb l:=rfl
theorem ybhi{n:Nat}(fr:List Nm)(o:Own)(l:List (List Int)):pok fr o (n+1) (ycb l)=True:=rfl
theorem yyq{n:Nat}(fr:List Nm)(o:Own)(l:List VarR):ycl fr o (n+1) (yfq l)=yfq l:=rfl
theorem ybfq{n:Nat}(fr:List Nm)(o:Own)(l:List VarR):pok fr o (n+1) (yfq l)=True:=rfl
theorem yxu{n:Nat}(fr:List Nm)(o:Own)(l:List SetR):ycl fr o (n+1) (yil l)=yil l:=rfl
theorem ybfp{n:Nat}(fr:List Nm)(o:Own)(l:List SetR):pok fr o (n+1) (yil l)=True:=rfl
theorem ytg{n:Nat}(fr:List Nm)(o:Own)(l:List RuleR):ycl fr o (n+1) (yev l)=yev l:=rfl
theorem ybcd{n:Nat}(fr:List Nm)(o:Own)(l:List RuleR):pok fr o (n+1) (yev l)=True:=rfl
theorem ysv{n:Nat}(fr:List Nm)(o:Own)(l:Gr):ycl fr o (n+1) (yfm l)=yfm l:=rfl
theorem ybaz{n:Nat}(fr:List Nm)(o:Own)(l:Gr):pok fr o (n+1) (yfm l)=True:=rfl
theorem yyg(l:List Int):SV.cells (ybf l)=[ybf l]:=rfl
theorem ysd(l:List (Int×Int)):SV.cells (ybc l)=[ybc l]:=rfl
theorem yul(l:List (List (Int×Int))):SV.cells (yu l)=[yu l]:=rfl
theorem ywr(l:List (List Int)):SV.cells (ycb l)=[ycb l]:=rfl
theorem yyi(l:List VarR):SV.cells (yfq l)=[yfq l]:=rfl
theorem yxc(l:List SetR):SV.cells (yil l)=[yil l]:=rfl
theorem yte(l:List RuleR):SV.cells (yev l)=[yev l]:=rfl
theorem yus(l:Gr):SV.cells (yfm l)=[yfm l]:=rfl
attribute [go_sem] ybcw yvt yvi ybbc ybif ybev ybeo yya yuc yra ywb ybcm ybar ybcv
attribute [go_sem] yxe yuf yrh ywp ybcx ybbj ybdn ybdf yxq yvj ybdi ybhe ybej
attribute [go_sem] ybfs ybdj yxv ytp ybcz ybgz ybhv ybhx ybcr yyw yuw ybcp ybet ybhq
attribute [go_sem] ybds yvp ytq yrc yyf ybbd ybbo ybbs yxr yvm yru ywj ybch
attribute [go_sem] ybcq ybbu yyp ybeq yub ybdd ytd ybdm yvs ybhi yyq ybfq yxu ybfp
attribute [go_sem] ytg ybcd ysv ybaz yyg ysd yul ywr yyi yxc yte yus
end Sh
end
section
open Go.RowKit
theorem yqx(gv:Value)(g:Gr)(w:World)(hg:GrAt w gv g) :
 Calls Try.prog 31 #[gv] w fun e w'=>e = .returned (.bool (ycu g))/\Below w.heap.size w w':=by
 have hg0:=zA hg;obtain⟨i,p,rfl,hi,hp⟩:=hg
 clear hi hp
 cases hv:ybt g with
 | false =>
   have Hf:=zA (show ycu g=false by unfold ycu;rw[hv];rfl)
   go_enter Try.func31,Try.ntmps31
   go_wp2_with fail
   refine(ynt _ g _ (hg0.out.below ((Below.refl _ _).alloc (zF _) _))).mono ?_;rintro e w1 ⟨rfl,hb1⟩
   go_wp2_with fail
   go_ret
   exact⟨yw Hf.out.symm,yfv hb1⟩
 | true =>
   have hgood:=(ybn g).1 hv;have hn1:=hgood.1;have hn24:=hgood.2.1;have Hgood:=zA hgood;have Hd:=zA (yfk hgood (a:=0) (by omega))
   have Hc:=zA (show ycu g=(ybj g 0).all (fun x=>decide (0<=x))by unfold ycu;rw[hv];rfl)
   clear hgood
   go_enter Try.func31,Try.ntmps31
   go_wp2_with fail
   refine(ynt _ g _ (hg0.out.below ((Below.refl _ _).alloc (zF _) _))).mono ?_;rintro e w1 ⟨rfl,hb1⟩;obtain⟨q0,q1⟩:=ysl hb1;have Hb1:=zA (yfv hb1)
   clear hb1
   go_wp2_with fail
   refine(ybca _ g 0 _ (hg0.out.below Hb1.out) Hgood.out (by omega)).mono ?_
   rintro e w2 ⟨v,rfl,hv2,hb2⟩;have Hb2:=zA (Hb1.out.trans (hb2.mono Hb1.out.size));obtain⟨A,c,rfl,hA1,hA2⟩:=ybb hv2;have Hv2:=zA hv2
   clear hb2 hv2
   obtain⟨D,hD⟩:∃D,ybj g 0=D:=⟨_,rfl⟩;rw[hD]at Hv2 Hd hA1 Hc ⊢
   clear hD
   go_wp2
   go_loopg [11] D.length (fun q t wr=>∃k:Nat,q+k=D.length/\t = .int .i64 k/\wr=w2/\Hid (∀j (hj:j<D.length),j<k->0<=D[j]))
   case atStart=>exact⟨0,by omega,rfl,rfl,zA (fun j _ hj=>absurd hj (by omega))⟩
   case round =>
    obtain⟨k,hq,rfl,rfl,hall⟩:=hrel
    by_cases hlt:k<D.length
    ·obtain⟨b,off,rfl,hb,hc,hr⟩:=ydd Hv2.out hlt
     by_cases c1:D[k]<0
     ·have Hf:=zA (show ycu g=false by
       rw[Hc.out,List.all_eq_false];exact⟨D[k],zQ hlt,by simp;omega⟩)
      go_wp2
      go_ret
      exact⟨yw Hf.out.symm,Hb2.out⟩
     ·go_wp2
      go_roundg (gk-1)
      case measure=>omega
      case rel =>
       refine⟨k+1,by omega,by go_num,rfl,zA (fun j hj hjk=>?_)⟩
       by_cases e:j=k
       ·subst e;omega
       ·exact hall.out j hj (by omega)
    ·obtain rfl:k=D.length:=by omega
     have Ht:=zA (show ycu g=true by
      rw[Hc.out,zAO];intro x hx;obtain⟨j,hj,rfl⟩:=List.mem_iff_getElem.1 hx;exact decide_eq_true (hall.out j hj hj))
     go_wp2
     go_ret
     exact⟨yw Ht.out.symm,Hb2.out⟩
theorem ydw{g:Gr}(h:ycu g=true):ybt g=true:=(zS _ _▸h).1
end
section
namespace Sh
open Ev Go.RowKit
theorem ycbf{α:Type}(l:List α)(x d:α)(i:Nat):(l++[x]).getD i d=if i<l.length then l.getD i d else if i=l.length then x else d:=by
 by_cases h:i<l.length
 ·simp[zD,List.getElem?_append_left h,h]
 ·by_cases e:i=l.length
  ·subst e;simp[zD]
  ·rw[if_neg h,if_neg e,zD,List.getElem?_eq_none (by simp;omega)]
   rfl
theorem ycbz(k i:Nat)(hi:i≠k):(if i<k+1 then(-1:Int)else 0)=if i<k then -1 else 0:=by
 by_cases h:i<k
 ·rw[if_pos h,if_pos (by omega)]
 ·rw[if_neg h,if_neg (by omega)]
theorem ybbr(g:Gr)(a i:Nat)(ha:a<g.ports.length)(hi:i<g.ports.length):(start g a).getD i 0=if i=a then 0 else -1:=by
 unfold start;rw[ybao (by simpa using ha)]
 split
 ·rfl
 ·rw[List.getD_eq_getElem?_getD,List.getElem?_replicate,if_pos hi];rfl
theorem ybas{g:Gr}(hg:ybh g){a:Nat}(ha:a<g.ports.length):Returns Try.prog 43 [grV g,.i .i64 a] (ybf (ybj g a)):=by
 refine Returns.of (ybyp _ _ ?_);obtain⟨n,hn⟩:∃n,g.ports.length=n:=⟨_,rfl⟩;have h24:=hg.2.1;have h1:=hg.1;rw[hn]at h24 h1 ha;obtain⟨PV,hPV⟩:∃P,yu g.ports=P:=⟨_,rfl⟩;simp only[c43,ybye,ybyy,ybvx,grV,yu,hn,go_sem,zC,zJ,zN,↓reduceIte,reduceCtorEq];refine⟨by omega,?_⟩
 refine ycp (σ:=Nat) (fun k=>⟨[(17,.i .i64 k),(16,.i .i64 n),(5,.os (14,0) 0 n true),(2,.pt (2,0) 0 0),(1,.i .i64 a)],
  [(2,.one (some ⟨25,true,2,1,fun _=>[ybf g.ids,yu g.ports]⟩)),(14,.one (some ⟨3,false,1,n,fun i=>[.i .i64 (if i<k then -1 else 0)]⟩))]⟩) (fun k=>k<=n) (fun k=>n-k) 0 (zAA _) ?_ ?_
 ·refine yba [] [] [] ?_;simp only[yu,hn,allQ,live,yh,ydt,zAP,go_sem,zC,↓reduceIte,reduceCtorEq];exact fun i _=>by rw[if_neg (by omega)]
 ·intro k hk
  by_cases hlt:k<n
  ·have ht:decide ((k:Int)<(n:Int))=true:=decide_eq_true (by omega)
   simp only[ybqp,ybux,ybut,ybwx,ht,splice,and_false,go_sem,zC,zJ,↓reduceIte,reduceCtorEq];refine⟨by omega,by omega,ikw (by omega) (by omega),?_⟩
   refine ybd (k+1) (by omega) (by omega) ?_
   refine yba [] [] [] ?_;simp only[go_sem,allQ,live,yh,ydt,go_sem,zC,↓reduceIte,reduceCtorEq];refine⟨by omega,fun i hi=>?_⟩
   by_cases q:i=k
   ·subst q;simp only[if_pos (zAQ i)];simp only[live,yh,go_sem,↓reduceIte,reduceCtorEq]
   ·simp only[if_neg q,ycbz k i q];simp only[live,yh,go_sem,reduceCtorEq]
  ·obtain rfl:k=n:=by omega
   have ht:decide ((k:Int)<(k:Int))=false:=decide_eq_false (by omega)
   simp only[ybqp,ybzy,ybwr,ht,splice,and_false,go_sem,zC,zJ,zN,↓reduceIte,reduceCtorEq];refine⟨⟨by omega,by omega⟩,by omega,?_⟩
   refine ycp (σ:=List Int×List Nat×Nat) (fun q=>⟨[(7,.os (128,0) q.2.2 (q.2.1.length-q.2.2) true),(5,.os (14,0) 0 k true),(2,.pt (2,0) 0 0)],
    [(2,.one (some ⟨25,true,2,1,fun _=>[ybf g.ids,yu g.ports]⟩)),(14,.one (some ⟨3,false,1,k,fun i=>[.i .i64 (q.1.getD i 0)]⟩)),(128,.one (some ⟨3,false,1,q.2.1.length,fun i=>[.i .i64 (q.2.1.getD i 0:Nat)]⟩))]⟩)
    (fun q=>q.2.2<=q.2.1.length/\BfsInv g a q.1 (q.2.1.drop q.2.2)/\q.2.1.length-q.2.2+ybw q.1<=30/\q.2.1.length<=31) (fun q=>q.2.1.length-q.2.2+ybw q.1) (start g a,[a],0) ⟨zAA _,BfsInv.start (by omega),yji g a (by omega),by simp⟩ ?_ ?_
   ·refine yba [(128,fun i=>(28,i))] [] [] ?_;simp only[go_sem,allQ,live,yh,go_sem,zC,↓reduceIte,reduceCtorEq];refine⟨fun i hi=>?_,fun i hi=>?_⟩
    ·rw[ybbr g a i (by omega) (by omega),if_pos hi]
     by_cases q:i=a
     ·simp only[if_pos q];simp only[live,yh,go_sem,reduceCtorEq]
     ·simp only[if_neg q];simp only[live,yh,go_sem,reduceCtorEq]
    ·obtain rfl:i=0:=by omega
     simp only[List.getD_cons_zero,live,yh,go_sem,reduceCtorEq]
   ·rintro⟨R,W,o⟩ ⟨ho,hinv,hm30,hw31⟩;have ho:o<=W.length:=ho;have hinv:BfsInv g a R (W.drop o):=hinv;have hm30:W.length-o+ybw R<=30:=hm30;have hw31:W.length<=31:=hw31;obtain⟨m,hm⟩:∃m,W.length=m:=⟨_,rfl⟩;rw[hm]at ho hm30 hw31
    by_cases hlt2:o<m
    ·have hQ : W.drop o=W[o]::W.drop (o+1):=(List.drop_eq_getElem_cons (by omega))
     obtain⟨v,hv⟩:∃v,W.getD o 0=v:=⟨_,rfl⟩;have hv':W[o]=v:=by rw[<-hv,getD_at (show o<W.length by omega)]
     rw[hv']at hQ;rw[hQ]at hinv;obtain⟨d,hd⟩:=hinv.qin v (by simp)
     have hvl:v<g.ports.length:=by rw[<-hinv.len];exact(List.getElem?_eq_some_iff.1 hd).1
     obtain⟨ls,hls⟩:∃ls,g.ports.getD v []=ls:=⟨_,rfl⟩;have hls?:g.ports[v]?=some ls:=by rw[<-hls];simp[zD,hvl]
     have hin:=hinv.pop hd ls;have hls24:ls.length<24:=by rw[<-hls];exact hg.deg_lt
     have ht2:decide (((m-o:Nat):Int)>0)=true:=decide_eq_true (by omega)
     simp only[ybob,ybnd,ybnb,ybmq,ht2,hm,hv,yu,ybc,hls,hn,go_sem,Int.reduceToNat,zC,zJ,↓reduceIte,reduceCtorEq];refine⟨⟨by omega,by omega⟩,hlt2,⟨by omega,by omega,by omega⟩,⟨by omega,by omega⟩,?_⟩
     refine ycp (σ:=Nat×List Int×List Nat×Nat) (fun q=>⟨[(43,.i .i64 q.1),(42,.i .i64 ls.length),(41,ybc ls),(8,.i .i64 v),(7,.os (128,0) q.2.2.2 (q.2.2.1.length-q.2.2.2) true),(5,.os (14,0) 0 k true),(2,.pt (2,0) 0 0)],
      [(2,.one (some ⟨25,true,2,1,fun _=>[ybf g.ids,yu g.ports]⟩)),(14,.one (some ⟨3,false,1,k,fun i=>[.i .i64 (q.2.1.getD i 0)]⟩)),(128,.one (some ⟨3,false,1,q.2.2.1.length,fun i=>[.i .i64 (q.2.2.1.getD i 0:Nat)]⟩))]⟩)
      (fun q=>q.1<=ls.length/\q.2.2.2<=q.2.2.1.length/\BfsIn g a v d ls q.1 q.2.1 (q.2.2.1.drop q.2.2.2)/\q.2.2.1.length-q.2.2.2+1+ybw q.2.1=m-o+ybw R/\q.2.2.1.length<=31) (fun q=>ls.length-q.1) (0,R,W,o+1) ⟨zAA _,by show o+1<=W.length;omega,hin,by show W.length-(o+1)+1+ybw R=_;omega,by show W.length<=31;omega⟩ ?_ ?_
     ·refine yba [] [] [] ?_;simp only[yu,ybc,hn,hm,Nat.sub_sub,allQ,live,yh,zAP,go_sem,zC,↓reduceIte,reduceCtorEq]
     ·rintro⟨j,R',W',o'⟩ ⟨hj,ho',hin',hun',hw'⟩;have hj:j<=ls.length:=hj;have ho':o'<=W'.length:=ho';have hin':BfsIn g a v d ls j R' (W'.drop o'):=hin';have hun':W'.length-o'+1+ybw R'=m-o+ybw R:=hun';have hw':W'.length<=31:=hw';obtain⟨m',hm'⟩:∃m,W'.length=m:=⟨_,rfl⟩;rw[hm']at ho' hun' hw'
      by_cases hjl:j<ls.length
      ·have ht3:decide ((j:Int)<(ls.length:Int))=true:=decide_eq_true (by omega)
       obtain⟨l,hl⟩:∃l,ls.getD j (0,0)=l:=⟨_,rfl⟩;have hl':ls[j]=l:=by rw[<-hl,getD_at hjl]
       have hlm:l∈ls:=by rw[<-hl'];exact zQ _
       obtain⟨k1,k2,k3,k4,k5⟩:=hg.link hls? hlm;obtain⟨u,hu⟩:=zK k1;have hul:u<R'.length:=by rw[hin'.len];omega
       have hRv:R'.getD v 0=(d:Int):=by have:=hin'.rv;simp[zD,this]
       have hd24:d<g.ports.length:=by
        rcases hin'.val v _ hin'.rv with e|⟨k',e,h1,h2⟩
        ·omega
        ·obtain rfl:d=k':=by omega
         exact yoh hg (by omega) h1 h2
       have hRu:R'[u]?=some (R'.getD u 0):=by rw[getD_at hul];exact zB hul
       by_cases hneg:R'.getD u 0<0
       ·have ht4:decide (R'.getD u 0<0)=true:=decide_eq_true hneg;simp only[yzf,yzc,ybam,yzr,yzs,yzi,ybc,hl,hu,ht3,ht4,hm',hRv,splice,and_false,go_sem,zC,zJ,zT,zN,↓reduceIte,reduceCtorEq];refine⟨⟨by omega,by omega⟩,⟨by omega,by omega⟩,by omega,⟨by omega,by omega⟩,by omega,ikw (by omega) (by omega),⟨by omega,by omega⟩,by omega,by decide,⟨by omega,by omega,by omega⟩,ikw (by omega) (by omega),?_⟩
        have hRm:R'[u]?=some (-1):=by
         rcases hin'.val u _ hRu with e|⟨k',e,_⟩
         ·rw[hRu,e]
         ·omega
        have hdis:=hin'.discover hls? hjl (u:=u) (by rw[hl'];exact hu) hRm
        have hunf:=yoa (R:=R') (u:=u) (x:=(d:Int)+1) hRm (by omega)
        have hlen:(W'.drop o'++[u]).length=m'-o'+1:=by rw[zAK,zAR,hm'];rfl
        refine ybd (j+1,R'.set u ((d:Int)+1),W'.drop o'++[u],0) ⟨by show j+1<=_;omega,zAA _,hdis,by show(W'.drop o'++[u]).length-0+1+ybw (R'.set u ((d:Int)+1))=_;omega,by show(W'.drop o'++[u]).length<=31;omega⟩ (by show ls.length-(j+1)<ls.length-j;omega) ?_
        refine yba [(128,fun i=>(66,i))] [] [] ?_;simp only[yu,ybc,hn,hlen,allQ,live,yh,ydt,go_sem,zC,↓reduceIte,reduceCtorEq];refine⟨⟨by omega,Sim.refl _⟩,fun i hi=>?_,fun i hi=>?_⟩
        ·rw[ybao hul]
         by_cases q:i=u
         ·simp only[if_pos q];simp only[live,yh,go_sem,reduceCtorEq]
         ·simp only[if_neg q];simp only[live,yh,go_sem,reduceCtorEq]
        ·rw[ycbf,zAR,hm']
         by_cases q:i<m'-o'
         ·have e:(W'.drop o').getD i 0=W'.getD (o'+i) 0:=by simp[zD,List.getElem?_drop]
          simp only[if_pos q,e];simp only[live,yh,go_sem,reduceCtorEq]
         ·obtain rfl:i=m'-o':=by omega
          simp only[if_neg q,Nat.sub_self,Nat.zero_mul,↓reduceIte];simp only[live,yh,go_sem,reduceCtorEq]
       ·have ht4:decide (R'.getD u 0<0)=false:=decide_eq_false hneg;simp only[yzf,yzc,ybam,yzr,yzs,yzi,ybc,hl,hu,ht3,ht4,hm',splice,go_sem,zC,zJ,zT,zN,↓reduceIte,reduceCtorEq];refine⟨⟨by omega,by omega⟩,⟨by omega,by omega⟩,by omega,ikw (by omega) (by omega),?_⟩
        obtain⟨y,hy⟩:=zK (show 0<=R'.getD u 0 by omega)
        have hsk:=hin'.skip hjl (j:=y) (by rw[hl',hu,zL,hRu,hy])
        refine ybd (j+1,R',W',o') ⟨by show j+1<=_;omega,by show o'<=W'.length;omega,hsk,by show W'.length-o'+1+ybw R'=_;omega,by show W'.length<=31;omega⟩ (by show ls.length-(j+1)<ls.length-j;omega) ?_
        refine yba [] [] [] ?_;simp only[yu,ybc,hn,hm',allQ,live,yh,ydt,go_sem,zC,↓reduceIte,reduceCtorEq];omega
      ·obtain rfl:j=ls.length:=by omega
       have ht3:decide ((ls.length:Int)<(ls.length:Int))=false:=decide_eq_false (by omega)
       simp only[yzf,yzc,ybam,yzr,yzs,yzi,ht3,go_sem,zC,↓reduceIte];refine ybd (R',W',o') ⟨by show o'<=W'.length;omega,hin'.finish hls?,by show W'.length-o'+ybw R'<=30;omega,by show W'.length<=31;omega⟩ (by show W'.length-o'+ybw R'<m-o+ybw R;omega) ?_
       refine yba [] [] [] ?_;simp only[yu,ybc,hn,hm',allQ,live,yh,go_sem,zC,↓reduceIte,reduceCtorEq]
    ·obtain rfl:o=m:=by omega
     have ht2:decide (((o-o:Nat):Int)>0)=false:=decide_eq_false (by omega)
     rw[List.drop_eq_nil_of_le (by omega)]at hinv
     have hdist:=hinv.isDist.unique (ycs hg (by omega))
     subst hdist;have hlen:=hinv.len;simp only[ybob,ybne,ht2,hm,yu,ybc,hn,go_sem,zC,zJ,↓reduceIte,reduceCtorEq];have e:(ybj g a).length=k:=by omega
     unfold ybf;rw[e];exact Sim.refl _
theorem ytt{g:Gr}(hI:GrI g):Returns Try.prog 31 [grV g] (.b (ycu g)):=by
 refine yla ⟨_,_,Try.func31,rfl⟩ (fun _=>.b) (fun _=>.simple rfl) fun G m us hG hr φ M w us' hRl hs hv=>?_;obtain⟨u,rfl,h1⟩:=rvl1 hr;obtain⟨u',rfl,h2⟩:=yed hv;exact yqx u' g w (yvq hG h1 h2 hRl hs hI)
end Sh
end
section
open Go.RowKit
theorem yhz(g:Gr)(G:List Int)(v:Nat):(ydb g G v).length=G.length:=by simp[ydb]
set_option maxHeartbeats 2000000 in
theorem ykl(gv cv Gv:Value)(g:Gr)(c:Conf)(G:List Int)(w:World)(hg:GrAt w gv g)(hc:yben w cv c)(hG:yhb w Gv G)(hgood:ybh g) :
 Calls Try.prog 35 #[gv,cv,Gv] w fun e w'=>e = .returned (.bool (ylp g.ports.length (ydb g G) c))/\Below w.heap.size w w':=by
 have hn24:=hgood.2.1;have hid:=hgood.2.2.1;have Hid':=zA hid
 clear hgood
 obtain⟨i,p,rfl,hi,hp⟩:=hg;obtain⟨A,c0,rfl,hA1,hA2⟩:=ybb hi;obtain⟨A2,c2,rfl,hB1,hB2⟩:=ybb hp;obtain⟨A3,c3,rfl,hC1,hC2⟩:=ybb hc;obtain⟨A4,c4,rfl,hD1,hD2⟩:=ybb hG;have Hp:=zA hp;have Hc:=zA hc;have HG:=zA hG
 clear hi hp hc hG
 by_cases n1:c.length=g.ids.length
 ·have n1':((c.length:Int)!=(g.ids.length:Int))=false:=by simp[n1]
  have Hn:=zA (n1.trans hid);have hcn:c.length<=24:=by omega
  clear n1 hid
  go_enter Try.func35,Try.ntmps35
  go_wp2
  obtain⟨W1,hW1⟩:∃W,W=w.alloc (.cells #[.slice A g.ids.length c0,.slice A2 g.ports.length c2] 25):=⟨_,rfl⟩;have hbox:W1.cell? ⟨w.heap.size,1,none⟩=some (.slice A2 g.ports.length c2):=by subst hW1;simp
  have HbW:=zA (show Below w.heap.size w W1 by subst hW1;exact(Below.refl _ _).alloc (zF _) _)
  rw[<-hW1]
  clear hW1
  go_loopg [21] c.length (fun q t wr=>∃v n:Nat,q+v=c.length/\t = .int .i64 v/\wr=W1.drewN n/\Hid (∀(u:Nat) s,u<v->c[u]?=some s->yih (ydb g G u) s))
  case atStart=>exact⟨0,0,by omega,rfl,rfl,zA (fun u s hu=>absurd hu (by omega))⟩
  case round =>
   obtain⟨v,n,hq,rfl,rfl,hok⟩:=hrel
   by_cases hlt:v<c.length
   ·obtain⟨b3,off3,sv,rfl,hb3,hcs,hs⟩:=ydf (Hc.out.below (Stable.sl Stable.int) HbW.out) (zB hlt);obtain⟨A5,c5,rfl,hE1,hE2⟩:=ybb hs;obtain⟨s,hse⟩:∃s,c[v]=s:=⟨_,rfl⟩;have Hs?:=zA (show c[v]?=some s by rw[zB hlt,hse])
    rw[hse]at hs hcs hE1;have Hbad:=zA (show ¬yih (ydb g G v) s->ylp g.ports.length (ydb g G) c=false from fun h=>yge (fun hc=>h (hc.2 v s Hs?.out)))
    have Hs:=zA hs
    clear hs hse
    by_cases c1:s.length=G.length
    ·have c1':((s.length:Int)!=(G.length:Int))=false:=by simp[c1]
     have Hsl:=zA c1
     clear c1
     have hvp:v<g.ports.length:=by rw[<-Hn.out];exact hlt
     go_wp2
     obtain⟨go,rfl⟩:∃go,go=gk:=⟨_,rfl⟩
     go_loopg [33] s.length (fun q t wr=>∃x n:Nat,q+x=s.length/\t = .int .i64 x/\wr=W1.drewN n/\Hid (∀(j:Nat) b z,j<x->(ydb g G v)[j]?=some b->s[j]?=some z->b.1<=z/\z<=b.2))
     case atStart=>exact⟨0,n,by omega,rfl,rfl,zA (fun j b z hj=>absurd hj (by omega))⟩
     case round =>
      obtain⟨x,n,hqx,rfl,rfl,hst⟩:=hrel
      by_cases hxl:x<s.length
      ·have hxG:x<G.length:=by rw[<-Hsl.out];exact hxl
       obtain⟨b5,o5,rfl,hb5,hc5,hr5⟩:=ydd (Hs.out) hxl;obtain⟨b6,o6,rfl,hb6,hc6,hr6⟩:=ydd (HG.out.below Stable.int HbW.out) hxG;obtain⟨b7,o7,lv,rfl,hb7,hc7,hl7⟩:=ydf (Hp.out.below (Stable.sl Stable.link) HbW.out) (zB hvp);obtain⟨A8,c8,rfl,hF1,hF2⟩:=ybb hl7;obtain⟨ds,hds⟩:∃ds,g.ports[v]=ds:=⟨_,rfl⟩;have hdeg:ybcl g v=ds.length:=by simp[ybcl,zD,zB hvp,hds]
       rw[hds]at hc7 hF1;obtain⟨y,hy⟩:∃y,s[x]=y:=⟨_,rfl⟩;obtain⟨h,hh⟩:∃h,G[x]=h:=⟨_,rfl⟩;have Hy?:=zA (show s[x]?=some y by rw[zB hxl,hy])
       have hb?:(ydb g G v)[x]?=some (if h = -1 then(-1,(ds.length:Int)-1)else(0,h)):=by
        simp[ydb,hxG,hh,hdeg]
       rw[hy]at hc5 hr5;rw[hh]at hc6 hr6;obtain⟨hr5a,hr5b⟩:=hr5;obtain⟨hr6a,hr6b⟩:=hr6
       clear hl7 hds hdeg hy hh
       by_cases c2:h = -1
       ·have c2':(h == -1)=true:=by simp[c2]
        rw[if_pos c2]at hb?;have Hb?:=zA hb?
        clear hb? c2
        by_cases c3:y < -1
        ·have Hf:=zA (Hbad.out (fun h=>by have:=h.2 x _ y Hb?.out Hy?.out;simp only at this;omega))
         go_wp2
         go_quiet (fail)
         go_wp2
         go_quiet (fail)
         go_wp2
         go_ret
         exact⟨yw Hf.out.symm,below_drewN HbW.out _⟩
        ·by_cases c4:(ds.length:Int)-1<y
         ·have Hf:=zA (Hbad.out (fun h=>by have:=h.2 x _ y Hb?.out Hy?.out;simp only at this;omega))
          go_wp2
          go_quiet (fail)
          go_wp2
          go_quiet (fail)
          go_wp2
          go_ret
          exact⟨yw Hf.out.symm,below_drewN HbW.out _⟩
         ·have c4d:decide ((ds.length:Int)-1<y)=false:=by simp;omega
          go_wp2
          go_quiet (fail)
          go_wp2
          go_quiet (fail)
          go_wp2
          go_roundg (gk-1)
          case measure=>omega
          case rel =>
           refine⟨x+1,_,by omega,by go_num,rfl,zA (fun j b z hj hb hz=>?_)⟩
           by_cases hjx:j<x
           ·exact hst.out j b z hjx hb hz
           ·obtain rfl:j=x:=by omega
            rw[Hb?.out]at hb;rw[Hy?.out]at hz;cases hb
            cases hz
            simp only;omega
       ·have c2':(h == -1)=false:=by simp[c2]
        rw[if_neg c2]at hb?;have Hb?:=zA hb?
        clear hb? c2
        by_cases c3:y<0
        ·have Hf:=zA (Hbad.out (fun h=>by have:=h.2 x _ y Hb?.out Hy?.out;simp only at this;omega))
         go_wp2
         go_quiet (fail)
         go_wp2
         go_ret
         exact⟨yw Hf.out.symm,below_drewN HbW.out _⟩
        ·by_cases c4:h<y
         ·have Hf:=zA (Hbad.out (fun h=>by have:=h.2 x _ y Hb?.out Hy?.out;simp only at this;omega))
          go_wp2
          go_quiet (fail)
          go_wp2
          go_ret
          exact⟨yw Hf.out.symm,below_drewN HbW.out _⟩
         ·have c4d:decide (h<y)=false:=by simp;omega
          go_wp2
          go_quiet (fail)
          go_wp2
          go_roundg (gk-1)
          case measure=>omega
          case rel =>
           refine⟨x+1,_,by omega,by go_num,rfl,zA (fun j b z hj hb hz=>?_)⟩
           by_cases hjx:j<x
           ·exact hst.out j b z hjx hb hz
           ·obtain rfl:j=x:=by omega
            rw[Hb?.out]at hb;rw[Hy?.out]at hz;cases hb
            cases hz
            simp only;omega
      ·obtain rfl:x=s.length:=by omega
       go_wp2
       go_roundg (go-1)
       case measure=>omega
       case rel =>
        refine⟨v+1,_,by omega,by go_num,rfl,zA (fun u s' hu hs'=>?_)⟩
        by_cases huv:u<v
        ·exact hok.out u s' huv hs'
        ·obtain rfl:u=v:=by omega
         rw[Hs?.out]at hs';cases hs'
         refine⟨by rw[yhz,Hsl.out],fun j b z hb hz=>hst.out j b z (List.getElem?_eq_some_iff.1 hz).1 hb hz⟩
    ·have c1':((s.length:Int)!=(G.length:Int))=true:=by simp;omega
     have Hf:=zA (Hbad.out (fun h=>c1 (by rw[h.1,yhz])))
     clear c1
     go_wp2
     go_ret
     exact⟨yw Hf.out.symm,below_drewN HbW.out _⟩
   ·obtain rfl:v=c.length:=by omega
    have Ht:=zA (yqc (n:=g.ports.length) (bs:=ydb g G) (c:=c) ⟨Hn.out,fun v s hs=>hok.out v s (List.getElem?_eq_some_iff.1 hs).1 hs⟩)
    go_wp2
    go_ret
    exact⟨yw Ht.out.symm,below_drewN HbW.out _⟩
 ·have n1':((c.length:Int)!=(g.ids.length:Int))=true:=by simp;omega
  have Hf:=zA (yge (n:=g.ports.length) (bs:=ydb g G) (c:=c) (fun h=>n1 (h.1.trans hid.symm)))
  clear n1 hid
  go_enter Try.func35,Try.ntmps35
  go_wp2
  go_ret
  exact⟨yw Hf.out.symm,(Below.refl _ _).alloc (zF _) _⟩
end
section
namespace Sh
open Ev Go.RowKit
def clmV(kind:Int)(fair silent:Bool)(rounds moves:Int):List SV:=[.i .i64 kind,.b fair,.b silent,.i .i64 rounds,.i .i64 moves]
theorem ybjn{g:Gr}(hg:ybh g){c:Conf}(hR:yox c){G:List Int}(hG:∀x∈G,I64 x):Returns Try.prog 35 [grV g,ycb c,ybf G] (.b (ylp g.ports.length (ydb g G) c)):=by
 refine yla ⟨_,_,Try.func35,rfl⟩ (fun _=>.b) (fun _=>.simple rfl) fun H m us hH hr φ M w us' hRl hs hv=>?_
 obtain⟨u,us2,rfl,h1,h2⟩:∃u us2,us=u::us2/\RV H om0 (grV g) u/\RVL H om0 [ycb c,ybf G] us2:=by
  cases hr with|cons x y=>exact⟨_,_,rfl,x,y⟩
 obtain⟨u2,u3,rfl,h3,h4⟩:=rvl2 h2
 obtain⟨u',us3,rfl,h5,h6⟩:∃u' us3,us'=u'::us3/\VR φ u u'/\VRL φ [u2,u3] us3:=by
  cases hv with|cons x y=>exact⟨_,_,rfl,x,y⟩
 obtain⟨u2',u3',rfl,h7,h8⟩:=ykf h6;exact ykl u' u2' u3' g c G w (yvq hH h1 h5 hRl hs (ybzf hg)) (ybil hH h3 h7 hRl hs hR) (ints_at hH h4 h8 hRl hs hG) hg
end Sh
end
section
open Go.RowKit
theorem ypx(R:List Int)(x:Int)(ls:List (Int×Int))(i:Nat)(hi:i<ls.length):yhy R x (ls.take (i+1))=(yhy R x (ls.take i)||decide (R[ls[i].1.toNat]?=some x)):=by
 unfold yhy;rw[take_snoc ls i hi,zAW];simp
def layers(g:Gr)(a D:Nat):List Int:=(zG (D-1)).foldl (fun R d=>stepD g R (d+1)) (start g a)
theorem yxk(g:Gr)(a:Nat){D:Nat}(hD:1<=D):layers g a (D+1)=stepD g (layers g a D) D:=by
 obtain⟨k,rfl⟩:∃k,D=k+1:=⟨D-1,by omega⟩
 unfold layers;rw[Nat.add_sub_cancel,zAX,zX];rfl
def ymy(g:Gr)(R:List Int)(D v:Nat):List Int:=(zG v).foldl (yln g D) R
theorem yud(g:Gr)(R:List Int)(D v:Nat):ymy g R D (v+1)=yln g D (ymy g R D v) v:=by
 unfold ymy;rw[zAX,zX];rfl
theorem ymt(R:List Int)(k:Nat)(x:Int):(R.map (Value.int .i64)).set k (.int .i64 x)=(R.set k x).map (Value.int .i64):=by rw[List.map_set]
theorem ywk(g:Gr)(a:Nat):((zW g.ports.length (-1:Int)).map (Value.int .i64)).set a (.int .i64 0)=(start g a).map (Value.int .i64):=by rw[ymt];rfl
set_option maxHeartbeats 4000000 in
theorem ygv(gv:Value)(g:Gr)(v:Int)(w:World)(hg:GrAt w gv g)(hv64:I64 v) :
 Calls Try.prog 51 #[gv,.int .i64 v] w (ybhz (ykz g v) w):=by
 have hg0:=zA hg;obtain⟨i,p,rfl,hi,hp⟩:=hg;obtain⟨A2,c2,rfl,hB1,hB2⟩:=ybb hp;have Hp:=zA hp
 clear hi hp
 cases hc:ybt g with
 | false =>
   have Hf:=zA (show ykz g v=[]from yhm (by simp[hc]))
   go_enter Try.func51,Try.ntmps51
   go_wp2_with fail
   refine(ycx _ g _ (hg0.out.below ((Below.refl _ _).alloc (zF _) _))).mono ?_;rintro e w1 ⟨rfl,hb1⟩
   go_wp2_with fail
   go_ret
   exact⟨_,rfl,by rw[Hf.out];exact SlAt.nil _,yfv hb1⟩
 | true =>
   have hgood:=(ybn g).1 hc;have hn1:=hgood.1;have hn24:=hgood.2.1;have Hgood:=zA hgood
   clear hgood
   obtain⟨hv1,hv2⟩:=hv64
   by_cases c2:0<=v/\v<g.ports.length
   ·obtain⟨c2a,c2b⟩ := c2;obtain⟨a,rfl⟩:=zK c2a;have Hf:=zA (show ykz g a=ybj g a from ynl hc (by omega) c2b)
    have ha:a<g.ports.length:=by omega
    go_enter Try.func51,Try.ntmps51
    go_wp2_with fail
    refine(ycx _ g _ (hg0.out.below ((Below.refl _ _).alloc (zF _) _))).mono ?_;rintro e w1 ⟨rfl,hb1⟩;obtain⟨q0,q1⟩:=ysl hb1;have Hb1:=zA hb1
    clear hb1
    go_wp2_with fail
    refine(In_t _ _ _ _ (by omega) (by omega)).mono ?_
    rintro e w1' ⟨rfl,rfl⟩
    go_wp2_with fail
    obtain⟨i0,hi0,hz0,hz1,hz2⟩:=info_parts yrb;have Hi0:=zA (show _/\_/\_/\_ from⟨hi0,hz0,hz1,hz2⟩)
    clear hi0 hz0 hz1 hz2
    obtain⟨W1,hW1⟩:∃W,W=w.alloc (.cells #[i,.slice A2 g.ports.length c2] 25):=⟨_,rfl⟩;have HB:=zA (show ∀wr,Below (w.heap.size+1) W1 wr->wr.cell? ⟨w.heap.size,0,none⟩=some i/\wr.cell? ⟨w.heap.size,1,none⟩=some (.slice A2 g.ports.length c2)/\Below w.heap.size w wr/\w.heap.size<wr.heap.size by subst hW1;exact fun wr h=>box2 h)
    have Hb1':=zA (show Below (w.heap.size+1) W1 w1 by subst hW1;simpa using Hb1.out)
    clear hW1 Hb1
    go_loopg [6,7] g.ports.length (fun q t6 t wr=>∃k:Nat,q+k=g.ports.length/\t = .int .i64 k/\Hid (Below (w.heap.size+1) W1 wr)/\Hid (Owns wr (w.heap.size+1) 3 1 t6 k ((zW k (-1:Int)).map (Value.int .i64))))
    case atStart=>exact⟨0,by omega,rfl,Hb1',zA (Owns.nil _ _ _ _)⟩
    case round =>
     clear q0 q1 Hb1'
     obtain⟨k,hq,rfl,hbel,hown⟩:=hrel;have hsz:=(HB.out _ hbel.out).2.2.2
     by_cases hlt:k<g.ports.length
     ·go_wp2_with (at_builtin;refine yfh _ rfl _ _ 22 rfl (w.heap.size+1) 3 i0 (.int .i64 0) 1 8 Try.underlying22 Hi0.out.1 Hi0.out.2.1 Hi0.out.2.2.1 Hi0.out.2.2.2 rfl (by decide) u6 k ((zW k (-1:Int)).map (Value.int .i64)) (by rfl) (hown.out.alloc _) _ 1 1 [.int .i64 (-1)] (by rfl) rfl (yzl rfl) (by simp[Value.oneCell']) (by simp only[maxLen];omega) (by omega) (by simp;omega) ?_;intro v' w' hown' hgr hob)
      have Hown:=zA hown';have Hgr:=zA hgr
      clear hown' hgr hob
      go_wp2
      go_roundg (gk-1)
      case measure=>omega
      case rel =>
       refine⟨k+1,by omega,by go_num,zA ((hbel.out.alloc (by omega) _).grown Hgr.out (by simp;omega) (fun x hx=>(hown.out.lt hx).1)),zA ?_⟩
       have:=Hown.out
       rwa [<-List.map_singleton (f:=Value.int .i64),<-List.map_append,<-List.replicate_succ']at this
     ·obtain rfl:k=g.ports.length:=by omega
      obtain⟨gO,oO,cO,rfl,hO1,hO2,hO3,hO4,hO5⟩:=hown.out.form (by omega)
      unfold maxLen at hO4;have hca:=hO5 a (.int .i64 (-1)) (by simp[ha])
      have hfa:=hown.out.frozen (oO+a)
      clear hO5
      go_wp2
      go_loopg [8] (g.ports.length-1) (fun q t wr=>∃D:Nat,1<=D/\q+D=g.ports.length/\t = .int .i64 D/\Hid (Below (w.heap.size+1) W1 wr)/\Hid (Owns wr (w.heap.size+1) 3 1 (.slice (some ⟨gO,oO,none⟩) g.ports.length cO) g.ports.length ((layers g a D).map (Value.int .i64))))
      case atStart =>
       refine⟨1,zF _,by omega,rfl,zA (hbel.out.setCell (by simp;omega) _),zA ?_⟩
       have:=hown.out.store1 ha (.int .i64 0);rw[ywk]at this;exact this
      case round =>
       clear hbel hown hca hfa hsz hO2
       obtain⟨D,hD1,hq,rfl,hbel,hown⟩:=hrel
       by_cases hlt:D<g.ports.length
       ·go_wp2
        obtain⟨go,rfl⟩:∃go,go=gk:=⟨_,rfl⟩
        go_loopg [9] g.ports.length (fun q t wr=>∃v:Nat,q+v=g.ports.length/\t = .int .i64 v/\Hid (Below (w.heap.size+1) W1 wr)/\Hid (Owns wr (w.heap.size+1) 3 1 (.slice (some ⟨gO,oO,none⟩) g.ports.length cO) g.ports.length ((ymy g (layers g a D) D v).map (Value.int .i64))))
        case atStart=>exact⟨0,by omega,rfl,hbel,hown⟩
        case round =>
         clear hbel hown
         obtain⟨v,hqv,rfl,hbel,hown⟩:=hrel
         by_cases hvlt:v<g.ports.length
         ·obtain⟨R,hR⟩:∃R,ymy g (layers g a D) D v=R:=⟨_,rfl⟩;have Hst:=zA (yud g (layers g a D) D v);rw[hR]at hown Hst
          clear hR
          have Hlen:=zA (show R.length=g.ports.length by have:=hown.out.1;simpa using this)
          obtain⟨b2,off2,lv,rfl,hb2,hclw,hls⟩:=ydf Hp.out (zB hvlt);obtain⟨A3,c3,rfl,hl1,hl2⟩:=ybb hls;obtain⟨ls,hle⟩:∃ls,g.ports[v]=ls:=⟨_,rfl⟩;have Hlp:=zA (show g.ports[v]?=some ls by rw[zB hvlt,hle])
          rw[hle]at hls hclw hl1;have Hls:=zA hls
          have Hst2:=zA (show yln g D R v=if decide (R.getD v 0<0)&&yhy R ((D:Int)-1) ls then R.set v D else R by
           unfold yln;rw[show g.ports.getD v []=ls by simp[zD,Hlp.out]])
          clear hle hls
          have hRv:v<R.length:=by rw[Hlen.out];exact hvlt
          obtain⟨xv,hxv⟩:∃x,R[v]=x:=⟨_,rfl⟩;have Hgd:=zA (show R.getD v 0=xv by simp[zD,hRv,hxv])
          clear hxv
          go_wp2
          obtain⟨gv,rfl⟩:∃gv,gv=gk:=⟨_,rfl⟩
          go_loopg [10] ls.length (fun q t wr=>∃i:Nat,q+i=ls.length/\t = .int .i64 i/\Hid (Below (w.heap.size+1) W1 wr)/\∃R' x,R'[v]?=some x/\Hid (Owns wr (w.heap.size+1) 3 1 (.slice (some ⟨gO,oO,none⟩) g.ports.length cO) g.ports.length (R'.map (Value.int .i64)))/\Hid ((R'=R/\x=xv/\yhy R ((D:Int)-1) (ls.take i)=false)\/(R'=yln g D R v/\0<=x)))
          case atStart=>exact⟨0,by omega,rfl,hbel,R,xv,by rw[zB hRv];have:=Hgd.out;simp[zD,hRv]at this;rw[this],hown,zA (.inl ⟨rfl,rfl,by simp[yhy]⟩)⟩
          case round =>
           clear hbel hown
           obtain⟨i,hqi,rfl,hbel,R',x,hx,hown,hdis⟩:=hrel;obtain⟨p0,p1,hbw,hsz⟩:=HB.out _ hbel.out;have hcl:=ybi hbw _ _ hclw;have Hlen':=zA (show R'.length=g.ports.length by have:=hown.out.1;simpa using this)
           obtain⟨_,_,_,e5,_,_,_,_,hO5⟩:=hown.out.form (by omega)
           cases e5
           have hcv:=hO5 v (.int .i64 x) (by simp[hx])
           have hfv:=hown.out.frozen (oO+v);have Hx:=zA hx;have HO5:=zA hO5;have Hbw:=zA hbw
           clear hx hO5 hbw
           by_cases hil:i<ls.length
           ·obtain⟨A4,c4,e4,_,_,hE⟩:=Hls.out.below Stable.link Hbw.out;cases e4
            obtain⟨b3,off3,rfl,hb3,hE⟩:=hE (by omega)
            obtain⟨⟨l1,wt⟩,hle⟩:∃l,ls[i]=l:=⟨_,rfl⟩;have hl?:ls[i]?=some (l1,wt):=by rw[zB hil,hle]
            obtain⟨hx1,hx2,⟨hr1,hr2⟩,⟨hr3,hr4⟩⟩:=hE i _ hl?;obtain⟨k1,k2,k3,k4,k5⟩:=Hgood.out.link Hlp.out (zAE hl?);simp only at k1 k2 k3 k4 k5 hx1 hx2 hr1 hr2 hr3 hr4;obtain⟨u,rfl⟩:=zK k1;have Hl?:=zA hl?;have Hsn:=zA (ypx R ((D:Int)-1) ls i hil);rw[hle]at Hsn;have HE:=zA hE
            clear hE hl? hle k1 k3
            by_cases c2:x<0
            ·have Hin:=zA (show R'=R/\x=xv/\yhy R ((D:Int)-1) (ls.take i)=false by
              rcases hdis.out with h|h
              ·exact h
              ·omega)
             have hul:u<R'.length:=by rw[Hlen'.out];omega
             obtain⟨y,hy⟩:∃y,R'[u]?=some y:=⟨_,zB hul⟩;have hcu:=HO5.out u (.int .i64 y) (by simp[hy])
             have Hy:=zA hy
             clear hy
             by_cases c3:y=(D:Int)-1
             ·have c3':(y==(D:Int)-1)=true:=by simp[c3]
              have Hset:=zA (show yln g D R v=R'.set v D by
               obtain⟨e1,e2,_⟩:=Hin.out;rw[Hst2.out,Hgd.out,if_pos,e1];rw[zS];refine⟨decide_eq_true (by omega),?_⟩
               unfold yhy;rw[List.any_eq_true];refine⟨_,zAE Hl?.out,decide_eq_true ?_⟩;simp only[zL];rw[<-e1,Hy.out,c3])
              clear c3
              go_wp2
              go_roundg (gk-1)
              case measure=>omega
              case rel =>
               refine⟨i+1,by omega,by go_num,zA (hbel.out.setCell (by simp;omega) _),R'.set v D,D,by rw[List.getElem?_set,if_pos rfl,if_pos (by rw[Hlen'.out];exact hvlt)],zA ?_,zA (.inr ⟨Hset.out.symm,by omega⟩)⟩
               rw[<-ymt];exact hown.out.store1 hvlt _
             ·have c3':(y==(D:Int)-1)=false:=by simp[c3]
              have Hno:=zA (show yhy R ((D:Int)-1) (ls.take (i+1))=false by
               obtain⟨e1,e2,e3⟩:=Hin.out;rw[Hsn.out,e3,Bool.false_or,decide_eq_false_iff_not];simp only[zL];rw[<-e1,Hy.out]
               simpa using c3)
              clear c3
              go_wp2
              go_roundg (gk-1)
              case measure=>omega
              case rel=>exact⟨i+1,by omega,by go_num,hbel,R',x,Hx.out,hown,zA (.inl ⟨Hin.out.1,Hin.out.2.1,Hno.out⟩)⟩
            ·have Hend:=zA (show R'=yln g D R v by
              rcases hdis.out with⟨e1,e2,_⟩|⟨e1,_⟩
              ·rw[Hst2.out,Hgd.out,if_neg,e1];rw[zS];intro h;have:=of_decide_eq_true h.1;omega
              ·exact e1)
             go_wp2
             go_roundg (gv-1)
             case measure=>omega
             case rel=>exact⟨v+1,by omega,by go_num,hbel,zA (by rw[Hst.out,<-Hend.out];exact hown.out)⟩
           ·obtain rfl:i=ls.length:=by omega
            have Hend:=zA (show R'=yln g D R v by
             rcases hdis.out with⟨e1,e2,e3⟩|⟨e1,_⟩
             ·rw[zU]at e3;rw[Hst2.out,e3,Bool.and_false,if_neg (by simp),e1]
             ·exact e1)
            go_wp2
            go_roundg (gv-1)
            case measure=>omega
            case rel=>exact⟨v+1,by omega,by go_num,hbel,zA (by rw[Hst.out,<-Hend.out];exact hown.out)⟩
         ·obtain rfl:v=g.ports.length:=by omega
          go_wp2
          go_roundg (go-1)
          case measure=>omega
          case rel=>exact⟨D+1,by omega,by omega,by go_num,hbel,zA (by rw[yxk g a hD1];exact hown.out)⟩
       ·obtain rfl:D=g.ports.length:=by omega
        go_wp2
        go_ret
        refine⟨_,rfl,?_,(HB.out _ hbel.out).2.2.1⟩;rw[Hf.out];exact hown.out.ints (fun x hx=>by have:=(ycs Hgood.out ha).bound Hgood.out ha x hx;unfold I64;omega)
   ·have Hf:=zA (show ykz g v=[]from yhm (by omega))
    have c3:v<0\/(g.ports.length:Int)-1<v:=by omega
    clear c2
    go_enter Try.func51,Try.ntmps51
    go_wp2_with fail
    refine(ycx _ g _ (hg0.out.below ((Below.refl _ _).alloc (zF _) _))).mono ?_;rintro e w1 ⟨rfl,hb1⟩;obtain⟨q0,q1⟩:=ysl hb1;have Hb1:=zA (yfv hb1)
    clear hb1
    go_wp2_with fail
    refine(In_f _ _ _ _ (by omega)).mono ?_
    rintro e w1' ⟨rfl,rfl⟩
    go_wp2_with fail
    go_ret
    exact⟨_,rfl,by rw[Hf.out];exact SlAt.nil _,Hb1.out⟩
end
section
open Go.RowKit
theorem yhc(dv:Value)(D:List Int)(w:World)(hd:yhb w dv D) :
 Calls Try.prog 50 #[dv] w fun e w'=>e = .returned (.int .i64 (ycm D))/\w=w':=by
 obtain⟨A,c,rfl,hA1,hA2⟩:=ybb hd;have Hd:=zA hd
 clear hd
 go_enter Try.func50,Try.ntmps50
 go_wp2
 go_loopg [3,4] D.length (fun q m t wr=>∃k:Nat,q+k=D.length/\t = .int .i64 k/\wr=w/\m = .int .i64 (ybk (D.take k))/\Hid ((D.take k).all (fun x=>decide (0<=x))=true))
 case atStart=>exact⟨0,by omega,rfl,rfl,by simp[ybk],zA (by simp)⟩
 case round =>
  obtain⟨k,hq,rfl,rfl,rfl,hall⟩:=hrel
  by_cases hlt:k<D.length
  ·obtain⟨b,off,rfl,hb,hc,hr⟩:=ydd Hd.out hlt
   by_cases c1:D[k]<0
   ·have Hf:=zA (show ycm D = -1 by
     unfold ycm;rw[if_neg];rw[zAO];intro h;have:=of_decide_eq_true (h _ (zQ hlt));omega)
    go_wp2
    go_ret
    exact⟨yjz Hf.out.symm,rfl⟩
   ·have Hs:=zA (yib D k hlt)
    have Ha:=zA (show(D.take (k+1)).all (fun x=>decide (0<=x))=true by
     rw[take_snoc D k hlt,List.all_append,hall.out];simp;omega)
    go_wp2
    all_goals
     go_roundg (gk-1)
     case measure=>omega
     case rel=>exact⟨k+1,by omega,by go_num,rfl,by rw[Hs.out];try (congr 1;omega),Ha⟩
  ·obtain rfl:k=D.length:=by omega
   have Hf:=zA (show ycm D=ybk D by
    have:=hall.out;rw[zU]at this;exact if_pos this)
   go_wp2
   go_ret
   exact⟨yjz (by rw[Hf.out,zU]),rfl⟩
theorem ylq(gv:Value)(g:Gr)(w:World)(hg:GrAt w gv g) :
 Calls Try.prog 34 #[gv] w fun e w'=>e = .returned (.bool (ycu g))/\Below w.heap.size w w':=by
 have hg0:=zA hg;obtain⟨i,p,rfl,hi,hp⟩:=hg
 clear hi hp
 have Hc:=zA (ybby g)
 go_enter Try.func34,Try.ntmps34
 go_wp2_with fail
 refine(ygv _ g 0 _ (hg0.out.below ((Below.refl _ _).alloc (zF _) _)) ⟨by omega,by omega⟩).mono ?_
 rintro e w1 ⟨v,rfl,hv,hb1⟩;have Hv:=zA hv;have Hb1:=zA (yfv hb1)
 clear hv hb1
 go_wp2_with fail
 refine(yhc _ _ _ Hv.out).mono ?_;rintro e w2 ⟨rfl,rfl⟩
 go_wp2_with fail
 go_ret
 exact⟨yw Hc.out,Hb1.out⟩
theorem yio(gv:Value)(g:Gr)(v:Int)(w:World)(hg:GrAt w gv g)(hv64:I64 v) :
 Calls Try.prog 44 #[gv,.int .i64 v] w fun e w'=>e = .returned (.int .i64 (eccP g v))/\Below w.heap.size w w':=by
 have hg0:=zA hg;obtain⟨i,p,rfl,hi,hp⟩:=hg
 clear hi hp
 have Hc:=zA (ybgb g v)
 go_enter Try.func44,Try.ntmps44
 go_wp2_with fail
 refine(ygv _ g v _ (hg0.out.below ((Below.refl _ _).alloc (zF _) _)) hv64).mono ?_;rintro e w1 ⟨v,rfl,hv,hb1⟩;have Hv:=zA hv;have Hb1:=zA (yfv hb1)
 clear hv hb1
 go_wp2_with fail
 refine(yhc _ _ _ Hv.out).mono ?_;rintro e w2 ⟨rfl,rfl⟩
 go_wp2_with fail
 go_ret
 exact⟨yjz Hc.out,Hb1.out⟩
end
section
namespace Sh
open Ev Go.RowKit
theorem yum{g:Gr}(hI:GrI g):Returns Try.prog 34 [grV g] (.b (ycu g)):=by
 refine yla ⟨_,_,Try.func34,rfl⟩ (fun _=>.b) (fun _=>.simple rfl) fun G m us hG hr φ M w us' hRl hs hv=>?_;obtain⟨u,rfl,h1⟩:=rvl1 hr;obtain⟨u',rfl,h2⟩:=yed hv;exact ylq u' g w (yvq hG h1 h2 hRl hs hI)
theorem yblt{g:Gr}(hI:GrI g){v:Int}(hv64:I64 v):Returns Try.prog 44 [grV g,.i .i64 v] (.i .i64 (eccP g v)):=by
 refine yla ⟨_,_,Try.func44,rfl⟩ (fun _=>.i) (fun _=>.simple rfl) fun G m us hG hr φ M w us' hRl hs hv=>?_;obtain⟨u,v',rfl,h1,h2⟩:=rvl2 hr;obtain⟨u',v'',rfl,h3,h4⟩:=ykf hv;cases h2.int_inv
 have e:=h4.eq_simple rfl;subst e;exact yio u' g v w (yvq hG h1 h3 hRl hs hI) hv64
theorem ybaq(nm:ByteArray)(hi pn pi:Int):Returns Try.prog 40 [.a (.string nm),.i .i64 hi,.i .i64 pn,.i .i64 pi] (.ag (varC ⟨nm,1,0,hi,pn,pi⟩)):=by
 refine Returns.of (ybwq _ _ ?_);simp only[c40,ybti,ybsm,varC,go_sem,zC,zJ,zT,zN,↓reduceIte,reduceCtorEq];exact Sim.refl _
end Sh
end
section
namespace Sh
open Go Ev
end Sh
end
section
namespace Sh
open Go Ev
end Sh
end
section
namespace Sh
open Go Ev
end Sh
end
section
namespace Sh
open Go Ev
end Sh
end
section
def Ex.head:Ex->Tm
 |.leaf op arg=>(op,arg)
 |.un op _=>(op,0)
 |.agg op _=>(op,0)
 |.bin op _ _=>(op,0)
 |.ite _ _ _=>(43,0)
namespace Sh
open Go Ev
end Sh
end
section
namespace Sh
open Go Ev
end Sh
end
section
namespace Sh
open Go Ev
end Sh
end
section
def ybrj(f:Nat->Bool):Nat->Nat
 |0=>0
 |n+1=>if f n then ybrj f n|||2^n else ybrj f n
def difB(a b:Nat):Nat:=a ^^^ (a&&&b)
theorem ylu(a b i:Nat):(difB a b).testBit i=(a.testBit i && !(b.testBit i)):=by
 unfold difB;rw[Nat.testBit_xor,zAY];cases a.testBit i<;>cases b.testBit i<;>rfl
theorem yxm{a b n:Nat}(h:a<2^n):difB a b<2^n:=by
 refine Nat.lt_pow_two_of_testBit _ fun i hi=>?_;rw[ylu,zAB (zAL h (zAF (by omega) hi))]
 rfl
structure Cnt where
 steps:Nat
 moves:Nat
 rounds:Nat
 begun:Nat
 pend:Nat
def ybxn(s:Nat):Nat->Nat
 |0=>0
 |n+1=>ybxn s n+(s.testBit n).toNat
def popP(s:Nat):Nat:=ybxn s 32
def yfg(e:Nat):Cnt:=⟨0,0,0,0,e⟩
def addP(k:Cnt)(chosen after:Nat):Cnt :=
 let p:=difB k.pend chosen&&&after
 ⟨k.steps+1,k.moves+popP chosen,if p=0 then k.rounds+1 else k.rounds,k.rounds+1,if p=0 then after else p⟩
def Cnt.ok(k:Cnt):Prop:=k.rounds<=k.begun/\k.begun<=k.rounds+1/\k.begun<=k.steps/\k.steps<=k.moves/\k.moves<=24*k.steps/\k.pend<2^24
structure Sys where
 n:Nat
 en:Conf->Nat
 mv:Conf->Nat->Conf
def Sys.run(S:Sys)(res:Nat->Nat->Nat):List Nat->Conf->Cnt->List (Conf×Cnt)
 |[],_,_=>[]
 | w::ws,c,k=>if S.en c=0 then[]else(let s:=res (S.en c) w
   let d:=S.mv c s
   (d,addP k s (S.en d))::S.run res ws d (addP k s (S.en d)))
def Sys.runs(S:Sys)(res:Nat->Nat->Nat)(ws:List Nat)(c:Conf):List (Conf×Cnt):=(c,yfg (S.en c))::S.run res ws c (yfg (S.en c))
def subB(a b:Nat):Prop:=∀i,a.testBit i=true->b.testBit i=true
def ybkg(res:Nat->Nat->Nat):Prop:=∀e w,e≠0->res e w≠0/\subB (res e w) e
theorem Sys.run_all{S:Sys}{res:Nat->Nat->Nat}(hr:ybkg res){J:Conf->Cnt->Prop}(hstep:∀c k s,J c k->s≠0->subB s (S.en c)->J (S.mv c s) (addP k s (S.en (S.mv c s)))) :
 ∀(ws:List Nat) (c:Conf) (k:Cnt),J c k->∀p∈S.run res ws c k,J p.1 p.2
 |[],_,_,_,p,hp=>by cases hp
 | w :: ws,c,k,hJ,p,hp=>by
   unfold Sys.run at hp;split at hp
   ·cases hp
   ·rename_i h0
    obtain⟨r1,r2⟩:=hr _ w h0;have hJ':=hstep c k _ hJ r1 r2;rcases List.mem_cons.1 hp with e|e
    ·rw[e];exact hJ'
    ·exact Sys.run_all hr hstep ws _ _ hJ' p e
theorem Sys.runs_all{S:Sys}{res:Nat->Nat->Nat}(hr:ybkg res){J:Conf->Cnt->Prop}(hstep:∀c k s,J c k->s≠0->subB s (S.en c)->J (S.mv c s) (addP k s (S.en (S.mv c s)))){ws:List Nat}{c:Conf}(h:J c (yfg (S.en c))):∀p∈S.runs res ws c,J p.1 p.2:=fun p hp=>by
 rcases List.mem_cons.1 hp with e|e
 ·rw[e];exact h
 ·exact Sys.run_all hr hstep ws _ _ h p e
structure ByRounds(S:Sys)(V:Conf->Prop)(P:Nat->Nat->List Int->Prop):Prop where
 valid:∀c s,V c->s≠0->subB s (S.en c)->V (S.mv c s)
 stay:∀c s v,V c->v<S.n->s.testBit v=false->(S.mv c s).getD v []=c.getD v []
 move:∀c s v r,V c->v<S.n->s.testBit v=true->subB s (S.en c)->(∀u,u<S.n->P r u (c.getD u []))->P (r+1) v ((S.mv c s).getD v [])
 rest:∀c v r,V c->v<S.n->(S.en c).testBit v=false->(∀u,u<S.n->P r u (c.getD u []))->P (r+1) v (c.getD v [])
 less:∀r v s,P (r+1) v s->P r v s
structure RInv(S:Sys)(V:Conf->Prop)(P:Nat->Nat->List Int->Prop)(c:Conf)(k:Cnt):Prop where
 valid:V c
 all:∀v,v<S.n->P k.rounds v (c.getD v [])
 done:∀v,v<S.n->k.pend.testBit v=false->P (k.rounds+1) v (c.getD v [])
 begun:k.begun<=k.rounds+1
theorem ByRounds.start{S:Sys}{V:Conf->Prop}{P:Nat->Nat->List Int->Prop}(h:ByRounds S V P){c:Conf}(hv:V c)(h0:∀v,v<S.n->P 0 v (c.getD v [])):RInv S V P c (yfg (S.en c)) :=
 ⟨hv,h0,fun v hn hb=>h.rest c v 0 hv hn hb h0,by simp[yfg]⟩
theorem ByRounds.step{S:Sys}{V:Conf->Prop}{P:Nat->Nat->List Int->Prop}(h:ByRounds S V P)(c:Conf)(k:Cnt)(s:Nat)(hi:RInv S V P c k)(h0:s≠0)(hs:subB s (S.en c)):RInv S V P (S.mv c s) (addP k s (S.en (S.mv c s))):=by
 obtain⟨i1,i2,i3,i4⟩:=hi;have hv:=h.valid c s i1 h0 hs
 have hall:∀v,v<S.n->P k.rounds v ((S.mv c s).getD v []):=fun v hn=>by
  cases hb:s.testBit v with
  |true=>exact h.less _ _ _ (h.move c s v _ i1 hn hb hs i2)
  |false=>rw[h.stay c s v i1 hn hb];exact i2 v hn
 have hnext:∀v,v<S.n->(difB k.pend s&&&S.en (S.mv c s)).testBit v=false->P (k.rounds+1) v ((S.mv c s).getD v []):=fun v hn hb=>by
  rw[zAY,ylu]at hb;cases hb1:s.testBit v with
  |true=>exact h.move c s v _ i1 hn hb1 hs i2
  | false =>
    cases hb2:k.pend.testBit v with
    |false=>rw[h.stay c s v i1 hn hb1];exact i3 v hn hb2
    | true =>
      rw[hb1,hb2]at hb;exact h.rest _ v _ hv hn (by simpa using hb) hall
 unfold addP;simp only
 by_cases hp:difB k.pend s&&&S.en (S.mv c s)=0
 ·simp only[if_pos hp];have hall':∀v,v<S.n->P (k.rounds+1) v ((S.mv c s).getD v []):=fun v hn=>hnext v hn (by rw[hp];simp)
  exact⟨hv,hall',fun v hn hb=>h.rest _ v _ hv hn hb hall',by show k.rounds+1<=_;simp⟩
 ·simp only[if_neg hp];exact⟨hv,hall,hnext,zF _⟩
theorem ByRounds.runs{S:Sys}{V:Conf->Prop}{P:Nat->Nat->List Int->Prop}(h:ByRounds S V P){res:Nat->Nat->Nat}(hr:ybkg res){ws:List Nat}{c:Conf}(hv:V c)(h0:∀v,v<S.n->P 0 v (c.getD v [])):∀p∈S.runs res ws c,RInv S V P p.1 p.2 :=
 Sys.runs_all hr h.step (h.start hv h0)
end
section
structure RuleT where
 name:ByteArray
 guard:Ex
 sets:List (Int×Ex)
structure ProgT where
 name:ByteArray
 vars:List VarR
 rules:List RuleT
instance:Inhabited Ex:=⟨.leaf 0 0⟩
instance:Inhabited RuleT:=⟨⟨.empty,default,[]⟩⟩
def RuleT.raw(r:RuleT):RuleR:=⟨r.name,r.guard.ser,r.sets.map fun s=>⟨s.1,s.2.ser⟩⟩
def ProgT.raw(p:ProgT):ProgR:=⟨p.name,p.vars,p.rules.map RuleT.raw⟩
def RuleT.ok(nv:Nat)(r:RuleT):Bool:=r.guard.ok nv false&&decide (r.guard.ser.length<=1000)&&decide (r.sets.length<=100)&&r.sets.all fun s=>decide (0<=s.1/\s.1<nv)&&s.2.ok nv false&&decide (s.2.ser.length<=1000)
def VarR.ok(x:VarR):Bool:=decide (x.kind=1\/x.kind=2\/x.kind=3)&&decide (0<=x.lo/\x.lo<=4096)&&decide (-4096<=x.hi/\x.hi<=4096)&&decide (0<=x.perNode/\x.perNode<=255)&&decide (0<=x.perID/\x.perID<=255)
def ProgT.ok(p:ProgT):Bool:=decide (1<=p.vars.length/\p.vars.length<=6)&&p.vars.all VarR.ok&&decide (p.rules.length<=12)&&p.rules.all (RuleT.ok p.vars.length)
def ybzp(g:Gr)(c:Conf)(v:Nat)(r:RuleT):Bool:=yrm g c v r.guard (-1)!=0
def ybxs(p:ProgT)(g:Gr)(c:Conf)(v:Nat):Int:=match p.rules.findIdx? (ybzp g c v)with|some i=>i|none=>-1
def ypc(g:Gr)(v:Nat)(x:VarR):Int×Int :=
 if x.kind=1 then(x.lo,x.hi+x.perNode*(g.ids.length:Int)+x.perID*maxI g.ids)else if x.kind=2 then(0,1)else if x.kind=3 then(-1,((g.ports.getD v []).length:Int)-1)else(0,-1)
def ybui(kind:Int)(b:Int×Int)(x:Int):Int:=if x>=b.1/\x<=b.2 then x else if kind=3 then -1 else if x<b.1 then b.1 else b.2
def ycbh(p:ProgT)(g:Gr)(c:Conf)(v:Nat)(s0:List Int)(sets:List (Int×Ex)):List Int :=
 sets.foldl (fun s a=>s.set a.1.toNat (ybui (p.vars.getD a.1.toNat default).kind (ypc g v (p.vars.getD a.1.toNat default)) (yrm g c v a.2 (-1)))) s0
def yccb(p:ProgT)(g:Gr)(c:Conf)(v:Nat)(r:Nat):List Int:=ycbh p g c v (c.getD v []) (p.rules.getD r default).sets
def yyz(p:ProgT)(g:Gr)(c:Conf):Nat:=ybrj (fun v=>decide (ybxs p g c v>=0)) g.ids.length
def ycai(p:ProgT)(g:Gr)(c:Conf)(s:Nat):Conf:=c.zipIdx.map fun q=>if s.testBit q.2 then yccb p g c q.2 (ybxs p g c q.2).toNat else q.1
def ybqh(p:ProgT)(g:Gr):Sys:=⟨g.ids.length,yyz p g,ycai p g⟩
def ybvc(p:ProgT)(g:Gr)(c:Conf):Bool:=ylp g.ids.length (fun v=>p.vars.map (ypc g v)) c
end
section
namespace Sh
open Go Ev
end Sh
end
section
namespace Sh
open Go Ev
end Sh
end
section
namespace Sh
open Go Ev
end Sh
end
section
theorem yrw{a:Nat}(h:a<2^32):IntKind.wrap .u32 (a:Int)=a:=by
 unfold IntKind.wrap;simp[IntKind.bits,IntKind.signed];omega
theorem u32_or{a b:Nat}(ha:a<2^32)(hb:b<2^32):IntKind.wrap .u32 (((zH (IntKind.bits .u32) (a:Int))|||zH (IntKind.bits .u32) (b:Int)).toNat:Int)=((a|||b:Nat):Int):=by
 show IntKind.wrap .u32 (((zH 32 (a:Int))|||zH 32 (b:Int)).toNat:Int)=_;rw[zM,zM,BitVec.toNat_or,zAM,zAM,zAS ha,zAS hb];exact yrw (Nat.or_lt_two_pow ha hb)
theorem u32_andNot{a b:Nat}(ha:a<2^32)(hb:b<2^32):IntKind.wrap .u32 (((zH (IntKind.bits .u32) (a:Int)) &&& ~~~zH (IntKind.bits .u32) (b:Int)).toNat:Int)=((difB a b:Nat):Int):=by
 show IntKind.wrap .u32 (((zH 32 (a:Int)) &&& ~~~zH 32 (b:Int)).toNat:Int)=_
 have e:((zH 32 (a:Int)) &&& ~~~zH 32 (b:Int)).toNat=difB a b:=by
  rw[zM,zM];refine Nat.eq_of_testBit_eq fun i=>?_;rw[ylu,BitVec.testBit_toNat,BitVec.getLsbD_and,BitVec.getLsbD_not,zAG,zAG]
  by_cases hi:i<32
  ·simp[hi]
  ·rw[zAB (zAL ha (zAF (by omega) (by omega)))]
   simp
 rw[e];exact yrw (yxm ha)
theorem ymh{v:Nat}(hv:v<32):IntKind.wrap .u32 (1*2^(v:Int).toNat)=((2^v:Nat):Int):=by
 have h:2^v<2^32:=zAH (by omega) hv
 have:=yrw h;rw[zL,Int.one_mul];rw[<-this]
 norm_cast
end
section
namespace Sh
open Go Ev
end Sh
end
section
namespace Sh
open Go Ev
def ycbq(p:ProgT)(g:Gr):Bool:=p.vars.all fun x=>decide (x.kind=1)==false||(decide ((ypc g 0 x).1<=(ypc g 0 x).2)&&decide ((ypc g 0 x).2-(ypc g 0 x).1+1<=4096))
def ycbd(Q1 Q2:(Nat->Option ABlk)->Value->Prop)(p:ProgR):List SV:=[.a (.string p.name),.ex Q1 (yfq p.vars),.ex Q2 (yev p.rules)]
end Sh
end
section
namespace Sh
open Go Ev Go.RowKit
structure Checked(Q1 Q2:(Nat->Option ABlk)->Value->Prop)(p:ProgT)(g:Gr):Prop where
 hg:ybh g
 hp:p.ok=true
 hf:ycbq p g=true
 hV:Returns Try.prog 0 [.ag (ycbd Q1 Q2 p.raw)] (.b true)
theorem Checked.gv{Q1 Q2:(Nat->Option ABlk)->Value->Prop}{p:ProgT}{g:Gr}(h:Checked Q1 Q2 p g):Returns Try.prog 49 [grV g] (.b true):=by
 have e:=ypi (ybzf h.hg);rw[(ybn g).2 h.hg]at e;exact e
section
variable {Q1 Q2:(Nat->Option ABlk)->Value->Prop}{p:ProgT}{g:Gr}
end
end Sh
end
section
namespace Sh
open Ev Go.RowKit
def cntV(k:Cnt):List SV:=[.i .i64 k.steps,.i .i64 k.moves,.i .i64 k.rounds,.i .i64 k.begun,.i .u32 k.pend]
def usV(l:List Nat):SV:=.sl 1 l.length (fun k=>[.i .u32 ((l.getD k 0:Nat):Int)])
end Sh
end
section
namespace Sh
open Ev Go.RowKit
theorem u32k{a:Nat}(h:a<2^32):inK .u32 (a:Int):=⟨by simp[IntKind.min,IntKind.signed],by simp[IntKind.max,IntKind.bits,IntKind.signed];omega⟩
theorem ybrx{g:Gr}(hg:ybh g):Returns Try.prog 45 [grV g] (.i .u32 (2^g.ids.length-1:Nat)):=by
 refine Returns.of (ybuy _ _ ?_);have h3:=hg.2.2.1;have h4:=hg.2.1;simp only[c45,ycaa,ybto,grV,ybf,go_sem,zC,zJ,zT,zN,↓reduceIte,reduceCtorEq];have h5:=ymh (v:=g.ids.length) (by omega)
 rw[zL]at h5;have h6:2^g.ids.length<2^32:=zAH (by omega) (by omega)
 have h7:1<=2^g.ids.length:=Nat.one_le_two_pow;have h8:(((2^g.ids.length:Nat):Int))-1=((2^g.ids.length-1:Nat):Int):=by omega
 rw[h5,h8];refine⟨⟨by omega,by show _<((32:Nat):Int);omega⟩,u32k (by omega),Sim.refl _⟩
end Sh
end
section
namespace Sh
open Go Ev
end Sh
end
section
namespace Sh
open Ev Go.RowKit
instance:Inhabited Cnt:=⟨⟨0,0,0,0,0⟩⟩
structure DaemonOk(kind:Int)(net:List Nat)(res:Nat->Nat->Nat):Prop where
 resolve:∀(e w:Nat),e<2^24->e<2^net.length->e≠0->w<2^32->Returns Try.prog 0 [usV net,.i .i64 kind,.i .u32 e,.i .u32 w] (.i .u32 (res e w))
 permits:∀(e w:Nat),e<2^24->e<2^net.length->e≠0->w<2^32->Returns Try.prog 0 [usV net,.i .i64 kind,.i .u32 e,.i .u32 (res e w)] (.b true)
 zero:∀(w:Nat),w<2^32->∃x:Nat,Returns Try.prog 0 [usV net,.i .i64 kind,.i .u32 0,.i .u32 w] (.i .u32 x)
 sub:∀(e w:Nat),e≠0->e<2^24->res e w≠0/\subB (res e w) e
end Sh
end
section
namespace Sh
end Sh
end
section
namespace Sh
open Ev Go.RowKit
theorem gmr{α:Type}(f:Nat->α)(n k:Nat)(d:α)(h:k<n):((zG n).map f).getD k d=f k:=by simp[zD,h]
def mapR{α:Type}(n:Nat)(f:Nat->α):List α:=(zG n).map f
theorem gmR{α:Type}(f:Nat->α)(n k:Nat)(d:α)(h:k<n):(mapR n f).getD k d=f k:=gmr f n k d h
theorem ybai{α:Type}(n:Nat)(f:Nat->α):(mapR n f).length=n:=by simp[mapR]
section
variable {Q1 Q2:(Nat->Option ABlk)->Value->Prop}{p:ProgT}{g:Gr}
end
end Sh
end
section
namespace Sh
open Ev Go.RowKit
section
variable {Q1 Q2:(Nat->Option ABlk)->Value->Prop}{p:ProgT}{g:Gr}
def yff(l:List Conf):SV:=.sl 1 l.length (fun i=>[ycb (l.getD i [])])
def yjm(l:List Cnt):SV:=.sl 5 l.length (fun i=>cntV (l.getD i default))
end
end Sh
end
section
def yvo(v m:Int):Int:=if m<1 then 0 else v%m
def atP(l:List Int)(i:Nat):Int:=l.getD i 0
namespace Sh
open Ev Go.RowKit
end Sh
end
section
namespace Sh
open Ev Go.RowKit
section
variable {p:ProgT}{g:Gr}
end
end Sh
end
section
namespace Sh
open Ev Go.RowKit
def blV(l:List Bool):SV:=.sl 1 l.length (fun k=>[.b (l.getD k false)])
def yblr(l:List Bool)(k:Nat):Bool:=(l.take k).any id
structure HeldOk(legit:List Bool)(ks:List Cnt)(rounds moves:Int)(ended:Bool):Prop where
 len:legit.length=ks.length
 pos:0<legit.length
 stays:∀i,i<legit.length->yblr legit i=true->legit.getD i false=true
 rounds:∀i,i<legit.length->yblr legit (i+1)=false->((ks.getD i default).begun:Int)<=rounds
 moves:∀i,i<legit.length->yblr legit (i+1)=false->0<=moves->((ks.getD i default).moves:Int)<=moves
 ends:yblr legit legit.length=true\/ended=false
end Sh
end
section
namespace Sh
open Ev Go.RowKit
end Sh
end
section
namespace Sh
open Go Ev
end Sh
end
section
namespace Sh
open Ev Go.RowKit
theorem ybcg{g:Gr}(hI:GrI g):Returns Try.prog 37 [grV g] (.b (ybt g)):=by
 refine yla ⟨_,_,Try.func37,rfl⟩ (fun _=>.b) (fun _=>.simple rfl) fun G m us hG hr φ M w us' hRl hs hv=>?_;obtain⟨u,rfl,h1⟩:=rvl1 hr;obtain⟨u',rfl,h2⟩:=yed hv;exact ycx u' g w (yvq hG h1 h2 hRl hs hI)
theorem ypx{R:List Int}{x:Int}{ls:List (Int×Int)}{i:Nat}(hi:i<ls.length):yhy R x (ls.take (i+1))=(yhy R x (ls.take i)||decide (R[(ls.getD i (0,0)).1.toNat]?=some x)):=by
 unfold yhy;rw[zV hi,zAW,getD_at hi];simp
end Sh
end
section
structure Tgt(S:Sys)(V:Conf->Prop)(T:Conf->Nat->List Int):Prop where
 valid:∀c s,V c->s≠0->subB s (S.en c)->V (S.mv c s)
 stay:∀c s v,V c->v<S.n->s.testBit v=false->(S.mv c s).getD v []=c.getD v []
 move:∀c s v,V c->v<S.n->s.testBit v=true->subB s (S.en c)->(S.mv c s).getD v []=T c v
 en:∀c v,V c->v<S.n->((S.en c).testBit v=false↔c.getD v []=T c v)
theorem Tgt.rounds{S:Sys}{V:Conf->Prop}{T:Conf->Nat->List Int}(h:Tgt S V T){P:Nat->Nat->List Int->Prop}(hT:∀c v r,V c->v<S.n->(∀u,u<S.n->P r u (c.getD u []))->P (r+1) v (T c v))(hl:∀r v s,P (r+1) v s->P r v s):ByRounds S V P where
 valid:=h.valid
 stay:=h.stay
 move:=fun c s v r hv hn hb hs hall=>by rw[h.move c s v hv hn hb hs];exact hT c v r hv hn hall
 rest:=fun c v r hv hn hb hall=>by rw[(h.en c v hv hn).1 hb];exact hT c v r hv hn hall
 less:=hl
theorem Tgt.silent{S:Sys}{V:Conf->Prop}{T:Conf->Nat->List Int}(h:Tgt S V T){P:Nat->Nat->List Int->Prop}(hT:∀c v r,V c->v<S.n->(∀u,u<S.n->P r u (c.getD u []))->P (r+1) v (T c v)){c:Conf}(hv:V c)(h0:∀v,v<S.n->P 0 v (c.getD v []))(he:S.en c=0):∀r v,v<S.n->P r v (c.getD v [])
 |0,v,hn=>h0 v hn
 | r+1,v,hn=>by
   rw[(h.en c v hv hn).1 (by rw[he];simp)]
   exact hT c v r hv hn (Tgt.silent h hT hv h0 he r)
theorem Sys.run_last{S:Sys}{res:Nat->Nat->Nat}:∀(ws:List Nat) (c:Conf) (k:Cnt) (i:Nat),i+1<(S.run res ws c k).length->∀p,(S.run res ws c k)[i]?=some p->S.en p.1≠0
 |[],c,k,i,h,p,hp=>by simp[Sys.run]at h
 | w :: ws,c,k,i,h,p,hp=>by
   unfold Sys.run at h hp;split at h
   ·simp at h
   ·rename_i h0
    rw[if_neg h0]at hp;cases i with
    | zero =>
      simp only[zZ]at hp;cases hp
      simp only[zAT]at h;cases ws with
      |nil=>simp[Sys.run]at h
      | cons w' ws =>
        unfold Sys.run at h;split at h
        ·simp at h
        ·assumption
    |succ i=>exact Sys.run_last ws _ _ i (by simpa using h) p (by simpa using hp)
theorem Sys.runs_last{S:Sys}{res:Nat->Nat->Nat}{ws:List Nat}{c:Conf}{i:Nat}(h:i+1<(S.runs res ws c).length){p:Conf×Cnt}(hp:(S.runs res ws c)[i]?=some p):S.en p.1≠0:=by
 unfold Sys.runs at h hp;cases i with
 | zero =>
   simp only[zZ]at hp;cases hp
   cases ws with
   |nil=>simp[Sys.run]at h
   | cons w ws =>
     unfold Sys.run at h;split at h
     ·simp at h
     ·assumption
 |succ i=>exact Sys.run_last ws _ _ i (by simpa using h) p (by simpa using hp)
end
section
open Go.RowKit
end
section
def ycz(g:Gr):Nat:=(g.ports.map List.length).sum
def addL(back:Bool)(l:List (Int×Int))(x:Int×Int):List (Int×Int):=if back then x::l else l++[x]
theorem yjl{back:Bool}{l:List (Int×Int)}{x y:Int×Int}:y∈addL back l x↔y=x\/y∈l:=by
 unfold addL;cases back<;>simp[or_comm]
def ygk(back:Bool)(g:Gr)(a b:Nat)(w:Int):Gr:=⟨g.ids,(g.ports.set a (addL back (g.ports.getD a []) (b,w))).set b (addL back (g.ports.getD b []) (a,w))⟩
theorem yhj(back:Bool)(g:Gr){a b:Nat}(w:Int)(ha:a<g.ports.length)(hb:b<g.ports.length)(v:Nat) :
 (ygk back g a b w).ports.getD v []=if v=b then addL back (g.ports.getD b []) (a,w)else if v=a then addL back (g.ports.getD a []) (b,w)else g.ports.getD v []:=by
 unfold ygk;simp only[zD]
 by_cases h1:v=b
 ·subst h1;rw[if_pos rfl,zAC (by simpa using hb)]
  rfl
 ·rw[if_neg h1,zAI (fun q=>h1 q.symm)]
  by_cases h2:v=a
  ·subst h2;rw[if_pos rfl,zAC ha];rfl
  ·rw[if_neg h2,zAI (fun q=>h2 q.symm)]
end
section
def Tre(g:Gr)(m:Nat):Prop:=∀v,0<v->v<m->∃u,u<v/\adj g u v
theorem Tre.walk{g:Gr}{m:Nat}(h:Tre g m):∀v,v<m->∃k,Walk g 0 k v:=by
 intro v
 induction v using Nat.strongRecOn with
 | _ v ih =>
   intro hv
   by_cases h0:v=0
   ·subst h0;exact⟨0,rfl⟩
   ·obtain⟨u,hu,ha⟩:=h v (by omega) hv
    obtain⟨k,hk⟩:=ih u hu (by omega)
    exact⟨k+1,u,hk,ha⟩
theorem Tre.conn{g:Gr}(hg:ybh g)(h:Tre g g.ports.length):ycu g=true:=by
 unfold ycu;rw[(ybn g).2 hg,Bool.true_and,yym hg (a:=0) (by have:=hg.1;omega)]
 exact h.walk
theorem ygc{g:Gr}{u v:Nat}:adj g u v↔∃l,l∈g.ports.getD u []/\l.1=(v:Int):=by
 constructor
 ·rintro⟨ls,h,l,hl,e⟩;exact⟨l,by simpa[zD,h]using hl,e⟩
 ·rintro⟨l,hl,e⟩;cases h:g.ports[u]? with
  |none=>simp[zD,h]at hl
  |some ls=>exact⟨ls,h,l,by simpa[zD,h]using hl,e⟩
theorem ywh{back:Bool}{g:Gr}{a b:Nat}{w:Int}(ha:a<g.ports.length)(hb:b<g.ports.length){u v:Nat}(h:adj g u v):adj (ygk back g a b w) u v:=by
 obtain⟨l,hl,e⟩:=ygc.1 h;refine ygc.2 ⟨l,?_,e⟩;rw[yhj back g w ha hb u];split
 ·rename_i q;subst q;exact yjl.2 (.inr hl)
 ·split
  ·rename_i q;subst q;exact yjl.2 (.inr hl)
  ·exact hl
theorem yxy{back:Bool}{g:Gr}{a b:Nat}{w:Int}(ha:a<g.ports.length)(hb:b<g.ports.length)(hab:a≠b):adj (ygk back g a b w) a b:=by
 refine ygc.2 ⟨((b:Int),w),?_,rfl⟩;rw[yhj back g w ha hb a,if_neg hab,if_pos rfl];exact yjl.2 (.inl rfl)
theorem Tre.add{back:Bool}{g:Gr}{a b:Nat}{w:Int}(ha:a<g.ports.length)(hb:b<g.ports.length){m:Nat}(h:Tre g m):Tre (ygk back g a b w) m:=fun v h0 hv=>by
 obtain⟨u,hu,hadj⟩:=h v h0 hv;exact⟨u,hu,ywh ha hb hadj⟩
def bare(ids:List Int):Gr:=⟨ids,zW ids.length []⟩
end
section
abbrev ybfm:Ex:=.leaf 4 0
abbrev eVar(k:Int):Ex:=.leaf 5 k
abbrev eQ(k:Int):Ex:=.leaf 12 k
def endP(c:Conf)(k:Nat)(l:Int×Int):Int:=(c.getD l.1.toNat []).getD k 0
section
variable {nm nd np nt nl:ByteArray}{g:Gr}{c:Conf}{v:Nat}
end
end
section
section
variable {g:Gr}{a v:Nat}
theorem yer(hg:ybh g)(hc:ycu g=true)(ha:a<g.ports.length)(hv:v<g.ports.length):∃k:Nat,(ybj g a).getD v 0=k/\Walk g a k v/\(∀j,j<k->¬Walk g a j v)/\k<g.ports.length:=by
 have h0:0<g.ports.length:=by omega
 have hall:(ybj g a).all (fun x=>decide (0<=x))=true:=yrs hg h0 ha ((zS _ _▸hc).2);have hl:=yfk hg ha;have hvl:v<(ybj g a).length:=by rw[hl];exact hv
 have e:(ybj g a).getD v 0=(ybj g a)[v]:=by simp[zD,hvl]
 have hpos:0<=(ybj g a)[v]:=by simpa using List.all_eq_true.1 hall _ (zQ hvl)
 rcases(ycs hg ha).2 v _ (zB hvl)with⟨h,_⟩|⟨k,h1,h2,h3⟩
 ·omega
 ·exact⟨k,by rw[e,h1],h2,h3,yoh hg ha h2 h3⟩
theorem ybrl{k:Nat}(hg:ybh g)(hc:ycu g=true)(ha:a<g.ports.length)(hv:v<g.ports.length)(h1:Walk g a k v)(h2:∀j,j<k->¬Walk g a j v):(ybj g a).getD v 0=k:=by
 obtain⟨j,e,h3,h4,_⟩:=yer hg hc ha hv;rcases Nat.lt_trichotomy j k with h|h|h
 ·exact absurd h3 (h2 j h)
 ·rw[e,h]
 ·exact absurd h1 (h4 k h)
theorem ybgl(hg:ybh g)(hc:ycu g=true)(ha:a<g.ports.length):(ybj g a).getD a 0=0:=ybrl hg hc ha ha (k:=0) rfl fun j hj=>by omega
theorem ybfe(hg:ybh g)(hc:ycu g=true)(ha:a<g.ports.length)(hv:v<g.ports.length):0<=(ybj g a).getD v 0/\(ybj g a).getD v 0<g.ports.length:=by
 obtain⟨k,e,_,_,h⟩:=yer hg hc ha hv;omega
theorem yblz(hg:ybh g)(hc:ycu g=true)(ha:a<g.ports.length)(hv:v<g.ports.length)(hne:v≠a):1<=(ybj g a).getD v 0:=by
 obtain⟨k,e,h1,_,_⟩:=yer hg hc ha hv;cases k with
 |zero=>exact absurd h1 hne
 |succ k=>omega
theorem ybkp(hg:ybh g)(hc:ycu g=true)(ha:a<g.ports.length){u:Nat}(h:adj g u v):(ybj g a).getD v 0<=(ybj g a).getD u 0+1:=by
 obtain⟨hu,hv⟩:=hg.adj_lt h;obtain⟨k,e,h1,_,_⟩:=yer hg hc ha hu;obtain⟨j,e',_,h3,_⟩:=yer hg hc ha hv;rw[e,e'];rcases zBB (k+1) j with q|q
 ·exact absurd ⟨u,h1,h⟩ (h3 (k+1) q)
 ·omega
theorem yrz(hg:ybh g)(hc:ycu g=true)(ha:a<g.ports.length)(hv:v<g.ports.length)(hne:v≠a):∃u,adj g v u/\(ybj g a).getD u 0=(ybj g a).getD v 0-1:=by
 obtain⟨k,e,h1,h2,_⟩:=yer hg hc ha hv;cases k with
 |zero=>exact absurd h1 hne
 | succ k =>
   obtain⟨u,h3,h4⟩:=h1;refine⟨u,hg.adj_symm h4,?_⟩;have h5:=ybkp hg hc ha h4;obtain⟨hu,_⟩:=hg.adj_lt h4;obtain⟨j,e',_,h6,_⟩:=yer hg hc ha hu;rw[e,e']at h5;rcases zBB k j with q|q
   ·exact absurd h3 (h6 k q)
   ·rw[e,e'];omega
theorem yco{l:Int×Int}(hg:ybh g)(hv:v<g.ports.length)(hl:l∈g.ports.getD v []):0<=l.1/\l.1.toNat<g.ports.length/\adj g v l.1.toNat/\1<=l.2/\l.2<=15:=by
 have e:g.ports[v]?=some (g.ports.getD v []):=by simp[zD,hv]
 have h:=hg.link e hl;exact⟨h.1,by omega,⟨_,e,l,hl,by omega⟩,h.2.2.2.1,h.2.2.2.2⟩
theorem yob{u:Nat}(h:adj g v u):∃l∈g.ports.getD v [],l.1.toNat=u:=by
 obtain⟨l,hl,e⟩:=ygc.1 h;exact⟨l,hl,by rw[e];simp⟩
end
section
variable {nm nd np nt nl:ByteArray}{g:Gr}
end
end
section
def ybs(g:Gr):Bool:=ycu g&&decide (ycz g/2+1=g.ports.length)
theorem ybgy{α:Type}[DecidableEq α]:∀{l1 l2:List α},l1.Nodup->(∀x∈l1,x∈l2)->l2.length<=l1.length->∀x∈l2,x∈l1
 | [],l2,_,_,h,x,hx=>by
   have:l2=[]:=List.eq_nil_of_length_eq_zero (by simpa using h)
   rw[this]at hx;exact absurd hx zAU
 | a :: t,l2,hn,hs,h,x,hx=>by
   have hn:=List.nodup_cons.1 hn
   by_cases q:x=a
   ·rw[q];exact zO
   ·refine zI _ (ybgy (l2:=l2.erase a) hn.2 (fun y hy=>?_) ?_ x ((zAJ q).2 hx))
    ·refine(zAJ fun e=>hn.1 (by rw[<-e];exact hy)).2 (hs y (zI _ hy))
    ·rw[zY (hs a zO)];simp only[zAT]at h;omega
structure TreeM(g:Gr):Prop where
 up:∀a v u,a<g.ports.length->adj g v u->(ybj g a).getD u 0=(ybj g a).getD v 0-1\/(ybj g a).getD u 0=(ybj g a).getD v 0+1
 one:∀a v u w,a<g.ports.length->adj g v u->adj g v w->(ybj g a).getD u 0=(ybj g a).getD v 0-1->(ybj g a).getD w 0=(ybj g a).getD v 0-1->u=w
theorem ybzs{g:Gr}(hg:ybh g)(hc:ycu g=true)(ht:ycz g<=2*(g.ports.length-1)):TreeM g:=by
 have key:∀a,a<g.ports.length->∃up:Nat->Nat,∀v u,adj g v u->(v≠a/\u=up v/\(ybj g a).getD u 0=(ybj g a).getD v 0-1)\/(ybj g a).getD u 0=(ybj g a).getD v 0+1:=fun a ha=>by
  have ex:∀v,v<g.ports.length->v≠a->∃u,adj g v u/\(ybj g a).getD u 0=(ybj g a).getD v 0-1:=fun v hv hne=>yrz hg hc ha hv hne
  obtain⟨up,hup⟩:∃up:Nat->Nat,∀v,v<g.ports.length->v≠a->adj g v (up v)/\(ybj g a).getD (up v) 0=(ybj g a).getD v 0-1:=by
   refine⟨fun v=>if h:v<g.ports.length/\v≠a then zBF (ex v h.1 h.2)else 0,fun v hv hne=>?_⟩
   simp only[dif_pos (show v<g.ports.length/\v≠a from⟨hv,hne⟩)]
   exact zBE (ex v hv hne)
  let U:List (Nat×Nat):=((zG g.ports.length).erase a).map fun v=>(v,up v)
  let P:List (Nat×Nat):=(zG g.ports.length).flatMap fun v=>(g.ports.getD v []).map fun l=>(v,l.1.toNat)
  have hnd:((zG g.ports.length).erase a).Nodup:=List.nodup_range.erase a
  have mU:∀x y,(x,y)∈U↔x<g.ports.length/\x≠a/\y=up x:=fun x y=>by
   show(x,y)∈((zG g.ports.length).erase a).map (fun v=>(v,up v))↔_;rw[List.mem_map];constructor
   ·rintro⟨v,hv,e⟩;cases e
    have hv:=(List.nodup_range.mem_erase_iff).1 hv;exact⟨List.mem_range.1 hv.2,hv.1,rfl⟩
   ·rintro⟨h1,h2,rfl⟩;exact⟨x,(List.nodup_range.mem_erase_iff).2 ⟨h2,List.mem_range.2 h1⟩,rfl⟩
  have mP:∀x y,(x,y)∈P↔x<g.ports.length/\adj g x y:=fun x y=>by
   show(x,y)∈zBC _ _↔_;rw[List.mem_flatMap];constructor
   ·rintro⟨v,hv,h⟩;obtain⟨l,hl,e⟩:=List.mem_map.1 h;cases e
    have hv:=List.mem_range.1 hv;exact⟨hv,(yco hg hv hl).2.2.1⟩
   ·rintro⟨h1,h2⟩;obtain⟨l,hl,e⟩:=yob h2;exact⟨x,List.mem_range.2 h1,List.mem_map.2 ⟨l,hl,by rw[e]⟩⟩
  have dU:∀x y,(x,y)∈U->(ybj g a).getD y 0=(ybj g a).getD x 0-1:=fun x y h=>by
   obtain⟨h1,h2,rfl⟩:=(mU x y).1 h;exact(hup x h1 h2).2
  have nU:U.Nodup:=by
   show(((zG g.ports.length).erase a).map (fun v=>(v,up v))).Nodup;rw[List.Nodup,zAN];exact hnd.imp fun h e=>h (congrArg Prod.fst e)
  have nD:(U.map fun p=>(p.2,p.1)).Nodup:=by
   rw[List.Nodup,zAN];exact nU.imp fun h e=>h (by simp only[Prod.mk.injEq]at e;exact Prod.ext e.2 e.1)
  have nUD:(U++U.map fun p=>(p.2,p.1)).Nodup:=by
   rw[List.nodup_append];refine⟨nU,nD,?_⟩;rintro⟨x,y⟩ h1 ⟨x',y'⟩ h2 e;cases e
   obtain⟨⟨p,q⟩,h3,e⟩:=List.mem_map.1 h2;cases e
   have a1:=dU _ _ h1;have a2:=dU _ _ h3;simp only at a1 a2;omega
  have lU:U.length=g.ports.length-1:=by
   show(List.map _ _).length=_;rw[zAZ,zY (List.mem_range.2 ha),List.length_range]
  have lP:P.length=ycz g:=by
   show(zBC _ _).length=_;rw[List.length_flatMap];unfold ycz;congr 1;refine List.ext_getElem (by simp) fun i h1 h2=>?_
   have hi:i<g.ports.length:=by simpa using h2
   simp[zD,hi]
  have hall:=ybgy nUD (l2:=P) (fun p hp=>by
   obtain⟨x,y⟩:=p;rcases List.mem_append.1 hp with h|h
   ·obtain⟨h1,h2,rfl⟩:=(mU x y).1 h;exact(mP _ _).2 ⟨h1,(hup x h1 h2).1⟩
   ·obtain⟨⟨p,q⟩,h3,e⟩:=List.mem_map.1 h;cases e
    obtain⟨h1,h2,e⟩:=(mU _ _).1 h3;simp only at e ⊢;subst e;have h4:=(hup p h1 h2).1;exact(mP _ _).2 ⟨(hg.adj_lt h4).2,hg.adj_symm h4⟩) (by have lD:(U.map fun p=>(p.2,p.1)).length=U.length:=zAZ _;rw[zAK,lD,lU,lP];omega)
  refine⟨up,fun v u h=>?_⟩;have h1:=hall (v,u) ((mP v u).2 ⟨(hg.adj_lt h).1,h⟩);rcases List.mem_append.1 h1 with h|h
  ·left
   obtain⟨_,h2,h3⟩:=(mU v u).1 h;exact⟨h2,h3,dU _ _ h⟩
  ·right
   obtain⟨⟨p,q⟩,h3,e⟩:=List.mem_map.1 h;cases e
   have:=dU _ _ h3;simp only at this ⊢;omega
 constructor
 ·intro a v u ha h;obtain⟨up,hup⟩:=key a ha;rcases hup v u h with⟨_,_,h3⟩|h3
  ·exact .inl h3
  ·exact .inr h3
 ·intro a v u w ha h1 h2 e1 e2;obtain⟨up,hup⟩:=key a ha;rcases hup v u h1 with⟨_,h3,_⟩|h3
  ·rcases hup v w h2 with⟨_,h4,_⟩|h4
   ·rw[h3,h4]
   ·omega
  ·omega
end
section
def dP(g:Gr)(a v:Nat):Int:=(ybj g a).getD v 0
structure Tr(g:Gr):Prop where
 good:ybh g
 conn:ycu g=true
 m:TreeM g
section
variable {g:Gr}{a b u v w x:Nat}
theorem Tr.self(h:Tr g)(ha:a<g.ports.length):dP g a a=0:=ybgl h.good h.conn ha
theorem Tr.nonneg(h:Tr g)(ha:a<g.ports.length)(hv:v<g.ports.length):0<=dP g a v:=(ybfe h.good h.conn ha hv).1
theorem Tr.lt_n(h:Tr g)(ha:a<g.ports.length)(hv:v<g.ports.length):dP g a v<g.ports.length:=(ybfe h.good h.conn ha hv).2
theorem Tr.pos(h:Tr g)(ha:a<g.ports.length)(hv:v<g.ports.length)(hne:v≠a):1<=dP g a v:=yblz h.good h.conn ha hv hne
theorem Tr.up(h:Tr g)(ha:a<g.ports.length)(hu:adj g v u):dP g a u=dP g a v-1\/dP g a u=dP g a v+1:=h.m.up a v u ha hu
theorem Tr.one(h:Tr g)(ha:a<g.ports.length)(hu:adj g v u)(hx:adj g v x)(e1:dP g a u=dP g a v-1)(e2:dP g a x=dP g a v-1):u=x:=h.m.one a v u x ha hu hx e1 e2
theorem Tr.back(h:Tr g)(ha:a<g.ports.length)(hv:v<g.ports.length)(hne:v≠a):∃u,adj g v u/\dP g a u=dP g a v-1:=yrz h.good h.conn ha hv hne
theorem Tr.adj1(h:Tr g)(hu:adj g v u):dP g v u=1:=by
 obtain⟨hv,hu'⟩:=h.good.adj_lt hu;have h1:=h.up hv hu;have h2:=h.self hv;have h3:=h.nonneg hv hu';omega
theorem Tr.ne(h:Tr g)(hu:adj g v u):v≠u:=fun e=>by
 subst e;have:=h.adj1 hu;have:=h.self (h.good.adj_lt hu).1;omega
def rchP(g:Gr)(v u:Nat):Int:=(zG g.ports.length).foldl (fun m w=>if dP g w u<dP g w v then max m (dP g w v)else m) 0
theorem yrq(f:Nat->Int)(p:Nat->Prop)[DecidablePred p]:∀(l:List Nat) (m:Int),m<=l.foldl (fun m w=>if p w then max m (f w)else m) m/\(∀w∈l,p w->f w<=l.foldl (fun m w=>if p w then max m (f w)else m) m)/\(l.foldl (fun m w=>if p w then max m (f w)else m) m=m\/∃w∈l,p w/\f w=l.foldl (fun m w=>if p w then max m (f w)else m) m)
 |[],m=>⟨zAD _,fun w hw=>absurd hw zAU,.inl rfl⟩
 | x :: l,m=>by
   obtain⟨h1,h2,h3⟩:=yrq f p l (if p x then max m (f x)else m)
   simp only[List.foldl_cons];refine⟨?_,fun w hw hp=>?_,?_⟩
   ·clear h2 h3
    have:m<=if p x then max m (f x)else m:=by split<;>omega
    omega
   ·rcases List.mem_cons.1 hw with rfl|hw
    ·rw[if_pos hp]at h1 ⊢;omega
    ·exact h2 w hw hp
   ·clear h2
    rcases h3 with h3|⟨w,hw,hp,e⟩
    ·by_cases hp:p x
     ·rw[if_pos hp]at h3 ⊢;rcases Int.le_total (f x) m with q|q
      ·left;rw[h3];omega
      ·right;exact⟨x,zO,hp,by rw[h3];omega⟩
     ·rw[if_neg hp]at h3 ⊢;exact .inl h3
    ·exact .inr ⟨w,zI _ hw,hp,e⟩
theorem yry(hw:w<g.ports.length)(h:dP g w u<dP g w v):dP g w v<=rchP g v u :=
 (yrq (fun w=>dP g w v) (fun w=>dP g w u<dP g w v) (zG g.ports.length) 0).2.1 w (List.mem_range.2 hw) h
theorem Tr.rch_pos(h:Tr g)(hu:adj g v u):1<=rchP g v u:=by
 obtain⟨hv,hu'⟩:=h.good.adj_lt hu;have h1:=h.adj1 (h.good.adj_symm hu);have h2:=h.self hu';have:=yry (g:=g) (w:=u) (u:=u) (v:=v) hu' (by omega)
 omega
theorem Tr.rch_ex(h:Tr g)(hu:adj g v u):∃w,w<g.ports.length/\dP g w u<dP g w v/\dP g w v=rchP g v u:=by
 rcases(yrq (fun w=>dP g w v) (fun w=>dP g w u<dP g w v) (zG g.ports.length) 0).2.2 with e|⟨w,hw,hp,e⟩
 ·have:=h.rch_pos hu;have e:rchP g v u=0:=e;omega
 ·exact⟨w,List.mem_range.1 hw,hp,e⟩
theorem Tr.into(h:Tr g)(hu:adj g v u)(hx:adj g u x)(hne:x≠v)(hw:w<g.ports.length)(hs:dP g w x<dP g w u):dP g w u<dP g w v/\dP g w v=dP g w u+1:=by
 have h1:=h.up hw hx;have h2:=h.up hw (h.good.adj_symm hu);rcases h2 with h2|h2
 ·exact absurd (h.one hw hx (h.good.adj_symm hu) (by omega) h2) hne
 ·omega
theorem Tr.rch_step(h:Tr g)(hu:adj g v u)(hx:adj g u x)(hne:x≠v):1+rchP g u x<=rchP g v u:=by
 obtain⟨w,hw,h1,h2⟩:=h.rch_ex hx;obtain⟨h3,h4⟩:=h.into hu hx hne hw h1;have:=yry hw h3;omega
theorem Tr.rch_from(h:Tr g)(hu:adj g v u)(h2:2<=rchP g v u):∃x,adj g u x/\x≠v/\rchP g v u=1+rchP g u x:=by
 obtain⟨hv,hu'⟩:=h.good.adj_lt hu;obtain⟨w,hw,h3,h4⟩:=h.rch_ex hu;have h5:=h.up hw (h.good.adj_symm hu)
 have hne:w≠u:=fun e=>by
  subst e;have:=h.self hw;omega
 obtain⟨x,hx,h6⟩:=h.back hw hu' (fun e=>hne e.symm);have hxv:x≠v:=fun e=>by subst e;omega
 refine⟨x,hx,hxv,?_⟩;have a:=h.rch_step hu hx hxv;have b:=yry (g:=g) (u:=x) (v:=u) hw (by omega)
 omega
def step2(p:Int×Int)(a:Int):Int×Int:=if a>p.1 then(a,p.1)else(p.1,max p.2 a)
def top2(b:Int)(l:List Int):Int×Int:=l.foldl step2 (b,b)
theorem ybic(b:Int)(l:List Int)(a:Int):top2 b (l++[a])=step2 (top2 b l) a:=by unfold top2;rw[zX];rfl
theorem yvl(b:Int)(l:List Int):∀k,k<=l.length->b<=(top2 b (l.take k)).2/\(top2 b (l.take k)).2<=(top2 b (l.take k)).1/\∀m,b<m->(m<=(top2 b (l.take k)).1↔1<=(l.take k).countP fun x=>decide (m<=x))/\(m<=(top2 b (l.take k)).2↔2<=(l.take k).countP fun x=>decide (m<=x))
 | 0,_=>by
   refine⟨zAD _,zAD _,fun m hm=>?_⟩;have e:(top2 b (l.take 0))=(b,b):=rfl;rw[e];simp only[List.take_zero,zBA];omega
 | k + 1,hk=>by
   obtain⟨h1,h2,h3⟩:=yvl b l k (by omega)
   rw[zV (show k<l.length by omega),ybic]
   generalize l[k]=a
   have hc:∀m,(l.take k++[a]).countP (fun x=>decide (m<=x))=(l.take k).countP (fun x=>decide (m<=x))+if m<=a then 1 else 0:=fun m=>by
    rw[List.countP_append,zAV,zBA];simp
   generalize top2 b (l.take k)=P at *
   unfold step2;split
   ·refine⟨by simp only;omega,by simp only;omega,fun m hm=>?_⟩
    obtain⟨h4,h5⟩:=h3 m hm;rw[hc];simp only;constructor
    ·split<;>omega
    ·split<;>omega
   ·refine⟨by simp only;omega,by simp only;omega,fun m hm=>?_⟩
    obtain⟨h4,h5⟩:=h3 m hm;rw[hc];simp only;constructor
    ·split<;>omega
    ·split<;>omega
theorem yyy(b:Int)(l:List Int):b<=(top2 b l).2/\(top2 b l).2<=(top2 b l).1/\∀m,b<m->(m<=(top2 b l).1↔1<=l.countP fun x=>decide (m<=x))/\(m<=(top2 b l).2↔2<=l.countP fun x=>decide (m<=x)):=by
 have h:=yvl b l l.length (zF _)
 rwa [zU]at h
theorem yth{p:Int×Int->Bool}:∀{ls:List (Int×Int)},(ls.map (·.1)).Nodup->(2<=ls.countP p↔∃a∈ls,∃b∈ls,a.1≠b.1/\p a=true/\p b=true)
 |[],_=>by simp
 | l :: ls,hn=>by
   have hn:=List.nodup_cons.1 hn;have ih:=yth (p:=p) hn.2
   have one:1<=ls.countP p↔∃a∈ls,p a=true:=by
    rw[Nat.one_le_iff_ne_zero,Nat.ne_zero_iff_zero_lt,List.countP_pos_iff]
   have hno:∀a∈ls,l.1≠a.1:=fun a ha e=>hn.1 (List.mem_map.2 ⟨a,ha,e.symm⟩);rw[zAV];constructor
   ·intro h
    by_cases hp:p l=true
    ·rw[if_pos hp]at h;obtain⟨a,ha,hpa⟩:=one.1 (by omega)
     exact⟨l,zO,a,zI _ ha,hno a ha,hp,hpa⟩
    ·rw[if_neg hp]at h;obtain⟨a,ha,b,hb,q⟩:=ih.1 (by omega)
     exact⟨a,zI _ ha,b,zI _ hb,q⟩
   ·rintro⟨a,ha,b,hb,hab,hpa,hpb⟩;rcases List.mem_cons.1 ha with ea|ha
    ·rcases List.mem_cons.1 hb with eb|hb
     ·exact absurd (by rw[ea,eb]) hab
     ·have:=one.2 ⟨b,hb,hpb⟩;rw[<-ea,if_pos hpa];omega
    ·rcases List.mem_cons.1 hb with eb|hb
     ·have:=one.2 ⟨a,ha,hpa⟩;rw[<-eb,if_pos hpb];omega
     ·have:=ih.2 ⟨a,ha,b,hb,hab,hpa,hpb⟩;omega
theorem ywl(hg:ybh g)(hv:v<g.ports.length):((g.ports.getD v []).map (·.1)).Nodup:=by
 have h:=(hg.2.2.2.2.2.1 ⟨v,hv⟩).2;have e0:g.ports[v]=g.ports.getD v []:=by rw[Sh.getD_at hv]
 have h:((g.ports[v]).map (·.1)).Nodup:=h
 rwa [e0]at h
theorem ybws(hg:ybh g)(hv:v<g.ports.length){f:Nat->Int}{m:Int}:2<=((g.ports.getD v []).map fun l=>f l.1.toNat).countP (fun x=>decide (m<=x))↔∃a b,adj g v a/\adj g v b/\a≠b/\m<=f a/\m<=f b:=by
 rw[List.countP_map,yth (ywl hg hv)];constructor
 ·rintro⟨a,ha,b,hb,hne,hpa,hpb⟩;obtain⟨a1,_,a3,_⟩:=yco hg hv ha;obtain⟨b1,_,b3,_⟩:=yco hg hv hb;exact⟨_,_,a3,b3,by omega,of_decide_eq_true hpa,of_decide_eq_true hpb⟩
 ·rintro⟨a,b,ha,hb,hne,hpa,hpb⟩;obtain⟨la,hla,ea⟩:=yob ha;obtain⟨lb,hlb,eb⟩:=yob hb;exact⟨la,hla,lb,hlb,fun e=>hne (by rw[<-ea,<-eb,e]),decide_eq_true (by show m<=f la.1.toNat;rw[ea];exact hpa),decide_eq_true (by show m<=f lb.1.toNat;rw[eb];exact hpb)⟩
def htP(g:Gr)(v:Nat):Int:=(top2 0 ((g.ports.getD v []).map fun l=>rchP g v l.1.toNat)).2
theorem ybgk(g:Gr)(v:Nat):0<=htP g v:=(yyy 0 _).1
theorem ybht(hg:ybh g)(hv:v<g.ports.length){m:Int}(hm:1<=m):m<=htP g v↔∃a b,adj g v a/\adj g v b/\a≠b/\m<=rchP g v a/\m<=rchP g v b:=by
 rw[<-ybws hg hv (f:=fun u=>rchP g v u)];exact((yyy 0 _).2.2 m (by omega)).2
theorem Tr.thru(h:Tr g)(hw:w<g.ports.length):∀(k:Nat) (v u x:Nat),adj g v u->dP g w u=dP g w v+1->x<g.ports.length->dP g x u<dP g x v->(dP g x u).toNat<k->dP g w x=dP g w u+dP g x u
 |0,v,u,x,_,_,_,_,hk=>by omega
 | k + 1,v,u,x,hu,hwu,hx,hs,hk=>by
   obtain⟨hv,hu'⟩:=h.good.adj_lt hu
   by_cases e:x=u
   ·subst e;rw[h.self hx];omega
   ·obtain⟨y,hy,h1⟩:=h.back hx hu' (fun q=>e q.symm);have hyv:y≠v:=fun q=>by subst q;omega
    have h2:=h.up hw hy
    have hw1:dP g w y=dP g w u+1:=by
     rcases h2 with h2|h2
     ·exact absurd (h.one hw hy (h.good.adj_symm hu) h2 (by omega)) hyv
     ·exact h2
    have:=h.nonneg hx (h.good.adj_lt hy).2;have ih:=Tr.thru h hw k u y x hy hw1 hx (by omega) (by omega)
    omega
theorem Tr.apart(h:Tr g)(ha:adj g v a)(hb:adj g v b)(hne:a≠b)(hw:w<g.ports.length)(hx:x<g.ports.length)(h1:dP g w a<dP g w v)(h2:dP g x b<dP g x v):dP g w x=dP g w v+dP g x v:=by
 have a1:=h.up hw ha;have b1:=h.up hw hb;have b2:=h.up hx hb
 have hwb:dP g w b=dP g w v+1:=by
  rcases b1 with q|q
  ·exact absurd (h.one hw ha hb (by omega) q) hne
  ·exact q
 have:=h.thru hw _ v b x hb hwb hx h2 (zAQ _);omega
end
end
section
section
variable {nm nh nr:ByteArray}{g:Gr}{c:Conf}{v:Nat}
structure CnC(g:Gr)(c:Conf):Prop where
 len:c.length=g.ids.length
 row:∀v,v<g.ids.length->(c.getD v []).length=1/\(0<=(c.getD v []).getD 0 0/\(c.getD v []).getD 0 0<=g.ids.length)
end
end
section
section
variable {g:Gr}{a b u v w x:Nat}
def ybgq(g:Gr)(v:Nat)(e:Int):Prop:=(∀w,w<g.ports.length->dP g w v<=e)/\∃w,w<g.ports.length/\dP g w v=e
theorem Tr.side(h:Tr g)(hu:adj g v u)(hw:w<g.ports.length):(dP g w u<dP g w v/\dP g w v=dP g w u+1)\/(dP g w v<dP g w u/\dP g w u=dP g w v+1):=by
 rcases h.up hw hu with q|q<;>omega
theorem Tr.link(h:Tr g)(hu:adj g v u){ev eu:Int}(he:ybgq g v ev)(he':ybgq g u eu) :
 ev=max (rchP g u v-1) (rchP g v u)/\eu=max (rchP g v u-1) (rchP g u v):=by
 have key:∀{v u:Nat}{ev:Int},adj g v u->ybgq g v ev->ev=max (rchP g u v-1) (rchP g v u):=fun {v u ev} hu he=>by
  obtain⟨hv,hu'⟩:=h.good.adj_lt hu;obtain⟨e1,w,hw,e2⟩:=he
  have hle:ev<=max (rchP g u v-1) (rchP g v u):=by
   rcases h.side hu hw with⟨q,q2⟩|⟨q,q2⟩
   ·have:=yry hw q;omega
   ·have:=yry (u:=v) (v:=u) hw q;omega
  obtain⟨x,hx,x1,x2⟩:=h.rch_ex hu;obtain⟨y,hy,y1,y2⟩:=h.rch_ex (h.good.adj_symm hu);have a1:=e1 x hx;have a2:=e1 y hy;rcases h.side hu hy with⟨q,q2⟩|⟨q,q2⟩<;>omega
 exact⟨key hu he,key (h.good.adj_symm hu) he'⟩
theorem Tr.ht_link(h:Tr g)(hu:adj g v u):(rchP g u v-1<=rchP g v u->htP g v=rchP g u v-1)/\(rchP g v u<=rchP g u v-1->rchP g v u<=htP g v):=by
 obtain⟨hv,hu'⟩:=h.good.adj_lt hu;have p1:=h.rch_pos hu;have p2:=h.rch_pos (h.good.adj_symm hu);have from_:2<=rchP g u v->∃x,adj g v x/\x≠u/\rchP g u v=1+rchP g v x:=fun q=>h.rch_from (h.good.adj_symm hu) q;constructor
 ·intro hq;refine Int.le_antisymm ?_ ?_
  ·rcases zBD (htP g v) 1 with q|q
   ·omega
   ·obtain⟨a,b,ha,hb,hne,r1,r2⟩:=(ybht h.good hv q).1 (zAD _)
    by_cases e:a=u
    ·have:=h.rch_step (h.good.adj_symm hu) hb (fun e2=>hne (by rw[e,e2]))
     omega
    ·have:=h.rch_step (h.good.adj_symm hu) ha e;omega
  ·rcases zBD (rchP g u v) 2 with q|q
   ·have:=ybgk g v;omega
   ·obtain⟨x,hx,hne,e⟩:=from_ q;exact(ybht h.good hv (by omega)).2 ⟨x,u,hx,hu,hne,by omega,by omega⟩
 ·intro hq;obtain⟨x,hx,hne,e⟩:=from_ (by omega)
  exact(ybht h.good hv p1).2 ⟨x,u,hx,hu,hne,by omega,by omega⟩
theorem Tr.higher(h:Tr g)(hu:adj g v u){ev eu:Int}(he:ybgq g v ev)(he':ybgq g u eu):(htP g v<htP g u↔eu<ev)/\(htP g v=htP g u↔eu=ev):=by
 obtain⟨l1,l2⟩:=h.link hu he he';obtain⟨a1,a2⟩:=h.ht_link hu;obtain⟨b1,b2⟩:=h.ht_link (h.good.adj_symm hu);rcases Int.lt_trichotomy (rchP g v u) (rchP g u v)with q|q|q
 ·have:=b1 (by omega)
  have:=a2 (by omega)
  omega
 ·have:=a1 (by omega)
  have:=b1 (by omega)
  omega
 ·have:=a1 (by omega)
  have:=b2 (by omega)
  omega
def Peak(g:Gr)(v:Nat):Prop:=∀u,adj g v u->htP g u<=htP g v
end
end
section
namespace Sh
section
variable {nm nd np nt nl:ByteArray}{g:Gr}
end
end Sh
end
end Go.Proofs.Ytiejahgklcjhkaa
