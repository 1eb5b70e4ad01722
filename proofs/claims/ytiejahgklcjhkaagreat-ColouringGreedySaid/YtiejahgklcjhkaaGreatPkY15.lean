/- Joined. -/
import Derived.Test.YtiejahgklcjhkaaGreatPkY14
import Derived.Lib.TrailingZeros
import Derived.Test.YtiejahgklcjhkaaGreatPkY10
set_option linter.unusedSimpArgs false
set_option linter.unusedVariables false
set_option maxRecDepth 1000000
open Nat renaming reduceEqDiff→zA,reduceAdd→zC,reduceBEq→zD,beq_refl→zF,beq→zG,le_of_ble_eq_true→zH,eq_of_beq_eq_true→zK,reduceLeDiff→zL,ble_eq_true_of_le→zN,blt→zO,reduceLT→zS,ble→zU,lt_of_lt_of_le→zV,le_refl→zAC,pow_le_pow_right→zAD,lt_succ_self→zAJ
open Bool renaming and_eq_true→zB,true_and→zQ,not_eq_true'→zW,eq_iff_iff→zAK
open Go.Proofs.Tryz renaming prog→zI,func23→zAR
open List renaming map_congr_left→zJ,length_map→zM,map_map→zT,pairwise_map→zX,getElem?_eq_getElem→zY,length_cons→zZ,nodup_cons→zAB,mem_cons_of_mem→zAE,mem_of_mem_take→zAF,mem_of_mem_drop→zAG,mem_cons_self→zAH,getElem_mem→zAI,range→zAL,nodup_nil→zAM,getD→zAN,map_cons→zAO
open Int renaming eq_ofNat_of_zero_le→zAA,reduceBNe→zAP
open Eq renaming trans→zAQ
open Go
namespace Go.Proofs.YtiejahgklcjhkaaGreat
section
namespace Sh
open Ev Go.RowKit
theorem ybhn{x:NetR}(hx:x.ok){g:Gr}(hg:ybc g){Q:Gr->Prop}(ht:Q g)(hQ:∀G a b w,ybc G->G.ports.length=g.ports.length->a<G.ports.length->b<G.ports.length->(∃i,w=1+ybp (atP x.weights i) 15)->Q G->Q (ygn x.back G a b w)) :
 Cm zI 54 [] (ybw g.ports) [.ag (netC x),yef g] fun r o=>∃g',ybc g'/\Q g'/\g'.ports.length=g.ports.length/\r=yef g'/\o=ybw g'.ports:=by
 refine ycir [] [73] _ _ _ ?_;obtain⟨hx1,hx2,hx3,hx4⟩:=hx;have h1:=hg.1;have h24:=hg.2.1;obtain⟨n,hn⟩:∃n,g.ports.length=n:=⟨_,rfl⟩;rw[hn]at h1 h24 hQ;obtain⟨L,hL⟩:∃L,x.links.length=L:=⟨_,rfl⟩;simp only[c54,ycms,ycrz,ycrq,netC,yef,ybw,hn,clash,go_sem,zA,zC,zS,↓reduceIte,reduceCtorEq]
 refine ybj (σ:=Nat×Gr) (fun q=>⟨[(6,.i .i64 q.1),(5,.i .i64 n),(3,.pt (3,0) 0 0),(2,.pt (2,0) 0 0),(4,.pt (4,0) 0 0)],
  (3,.one (some ⟨25,true,2,1,fun _=>[yj q.2.ids,.os (211,0) 0 n true]⟩))::(2,.one (some ⟨35,true,6,1,fun _=>netC x⟩))::(4,.one (some ⟨25,true,2,1,fun _=>[.a (.slice none 0 0),.a (.slice none 0 0)]⟩))::ybw q.2.ports⟩)
  (fun q=>ybc q.2/\q.2.ports.length=n/\Q q.2/\q.1<=61) (fun q=>62-q.1) (n,g) ⟨hg,hn,ht,by show n<=61;omega⟩ ?_ ?_
 ·refine yh [] [] [] ?_;simp only[netC,ybw,hn,allQ,live,yg,go_sem,zA,↓reduceIte,reduceCtorEq];refine⟨fun i _ j _ e=>e,fun i hi=>by rw[if_pos hi],fun i b hb=>?_⟩
  obtain⟨hi,rfl⟩:=yca hb;exact⟨_,if_pos hi,⟨rfl,rfl,rfl,rfl⟩,fun k hk=>by simp only[rowO,live,yg,go_sem,reduceCtorEq]⟩
 ·rintro⟨i,G⟩ ⟨gg,ggn,gtr,hi61⟩;have gg:ybc G:=gg;have ggn:G.ports.length=n:=ggn;have gtr:Q G:=gtr;have hi61:i<=61:=hi61;have hi1:(i:Int)+1=((i+1:Nat):Int):=by omega
  by_cases hlt:i+1<L
  ·by_cases h60:i<60
   ·have ht1:decide (((i+1:Nat):Int)<(L:Int))=true:=decide_eq_true (by omega)
    have ht2:decide ((i:Int)<60)=true:=decide_eq_true (by omega)
    have hA2:=at_ret x.weights i;have hi2:=ydf (v:=atP x.weights i) (m:=15) (by omega)
    have hw1:=ydf (v:=x.links.getD i 0) (m:=(n:Int)) (by omega)
    have hw2:=ydf (v:=x.links.getD (i+1) 0) (m:=(n:Int)) (by omega)
    have hW1:=ycw (x.links.getD i 0) n (by omega) (hx2 i)
    have hW2:=ycw (x.links.getD (i+1) 0) n (by omega) (hx2 (i+1))
    have hW3:=ycw (atP x.weights i) 15 (by omega) (hx3 _)
    obtain⟨a,ha⟩:∃a:Nat,ybp (x.links.getD i 0) n=a:=zAA hw1.1;obtain⟨b,hb⟩:∃b:Nat,ybp (x.links.getD (i+1) 0) n=b:=zAA hw2.1;obtain⟨w,hw⟩:∃w:Int,ybp (atP x.weights i) 15=w:=⟨_,rfl⟩;rw[ha]at hW1 hw1;rw[hb]at hW2 hw2;rw[hw]at hW3 hi2;have hK:=ybju (x:=x) (g:=G) (a:=a) (b:=b) (w:=1+w) (by omega) (by omega) (by omega) (fun u=>by have:=gg.deg_lt (v:=u);omega)
    simp only[ybqb,ycrm,ycte,netC,ybw,yj,hL,hi1,ht1,ht2,clash,go_sem,zA,zC,zL,zD,↓reduceIte,reduceCtorEq];refine⟨ikw (by omega) (by omega),⟨by omega,by omega⟩,hW1.use ?_⟩
    simp only[ybe,clash,hi1,go_sem,zA,zC,zL,zD,↓reduceIte,reduceCtorEq];refine⟨ikw (by omega) (by omega),⟨by omega,by omega⟩,hW2.use ?_⟩
    simp only[go_sem];simp only[yj]at hA2;refine hA2.use ?_;simp only[go_sem,↓reduceIte];refine hW3.use ?_;simp only[go_sem,zA,↓reduceIte];refine⟨ikw (by omega) (by omega),yga hK [(211,211),(212,212)] 0 [2,3,4,5,6] [2,3,4] ?_ ?_⟩
    ·simp only[netC,yef,ybw,ggn,yj,hL,to1,okN,ydh,yho,yey,yeg,allQ,live,yg,go_sem,zA,zC,zD,↓reduceIte,reduceCtorEq];refine⟨⟨fun i _ j _ e=>e,fun i hi=>by rw[if_pos hi],fun i b hb=>?_⟩,by decide⟩
     obtain⟨hi,rfl⟩:=yca hb;exact⟨_,if_pos hi,⟨rfl,rfl,rfl,rfl⟩,fun k hk=>by simp only[rowO,live,yg,go_sem,reduceCtorEq]⟩
    ·rintro r o' ⟨rfl,rfl⟩;simp only[ybw,yqj,ynl,nuF,nu,difN,yey,yeg,Fam.ren,OB.ren,dim,ybkf,yla,go_sem,zA,zC,zD,↓reduceIte,reduceCtorEq];obtain⟨gg1,gg2,gg3⟩:=yrm (back:=x.back) (a:=a) (b:=b) (w:=1+w) gg (by omega) (by omega) (by omega)
     have gg4:=hQ G a b (1+w) gg ggn (by omega) (by omega) ⟨i,by rw[hw]⟩ gtr
     obtain⟨H,hH⟩:∃H,ygn x.back G a b (1+w)=H:=⟨_,rfl⟩;rw[hH]at gg1 gg2 gg3 gg4 ⊢;rw[ggn]at gg3;refine⟨ikw (by omega) (by omega),yu (i+2,H) ⟨gg1,gg3,gg4,by show i+2<=61;omega⟩ (by show 62-(i+2)<62-i;omega) ?_⟩
     refine yh [] [] [] ?_;simp only[gg3,gg2,allQ,live,yg,ybb,go_sem,zA,↓reduceIte,reduceCtorEq];refine⟨fun i _ j _ e=>e,by omega,fun i hi=>by rw[if_pos hi],fun i b hb=>?_⟩
     obtain⟨hi,rfl⟩:=yca hb;refine⟨_,ynx (f:=ren (nu [(211,211),(212,212)] 0) 5) (fun _ _=>rfl) hi,⟨rfl,rfl,rfl,rfl⟩,fun k hk=>?_⟩;simp only[rowO,live,yg,go_sem,reduceCtorEq]
   ·have ht1:decide (((i+1:Nat):Int)<(L:Int))=true:=decide_eq_true (by omega)
    have ht2:decide ((i:Int)<60)=false:=decide_eq_false (by omega)
    simp only[ybqb,ycfr,netC,ybw,yj,hL,hi1,ht1,ht2,clash,splice,yic,go_sem,zA,zC,zL,↓reduceIte,reduceCtorEq];refine⟨ikw (by omega) (by omega),?_⟩
    refine⟨yef G,ybw G.ports,?_,?_,G,gg,gtr,ggn,rfl,rfl⟩
    ·refine yh [] [] [] ?_;simp only[ybw,yef,ggn,yj,allQ,live,yg,go_sem,zA,↓reduceIte,reduceCtorEq];refine⟨fun i _ j _ e=>e,fun i hi=>by rw[if_pos hi],fun i b hb=>?_⟩
     obtain⟨hi,rfl⟩:=yca hb;exact⟨_,if_pos hi,⟨rfl,rfl,rfl,rfl⟩,fun k hk=>by simp only[rowO,live,yg,go_sem,reduceCtorEq]⟩
    ·simp only[ybw,yef,ydh,yho,allQ,live,go_sem,zA,↓reduceIte];refine⟨fun i hi=>by rw[if_pos hi],fun i b hb k hk=>?_⟩
     obtain⟨hi,rfl⟩:=yca hb;simp only[rowO,go_sem]
  ·have ht1:decide (((i+1:Nat):Int)<(L:Int))=false:=decide_eq_false (by omega)
   simp only[ybqb,ycfr,netC,ybw,yj,hL,hi1,ht1,clash,splice,yic,go_sem,zA,zC,zL,↓reduceIte,reduceCtorEq];refine⟨ikw (by omega) (by omega),?_⟩
   refine⟨yef G,ybw G.ports,?_,?_,G,gg,gtr,ggn,rfl,rfl⟩
   ·refine yh [] [] [] ?_;simp only[ybw,yef,ggn,yj,allQ,live,yg,go_sem,zA,↓reduceIte,reduceCtorEq];refine⟨fun i _ j _ e=>e,fun i hi=>by rw[if_pos hi],fun i b hb=>?_⟩
    obtain⟨hi,rfl⟩:=yca hb;exact⟨_,if_pos hi,⟨rfl,rfl,rfl,rfl⟩,fun k hk=>by simp only[rowO,live,yg,go_sem,reduceCtorEq]⟩
   ·simp only[ybw,yef,ydh,yho,allQ,live,go_sem,zA,↓reduceIte];refine⟨fun i hi=>by rw[if_pos hi],fun i b hb k hk=>?_⟩
    obtain⟨hi,rfl⟩:=yca hb;simp only[rowO,go_sem]
theorem yqu{x:NetR}(hx:x.ok){most:Nat}(hm:1<=most/\most<=24) :
 Ct zI 53 [.ag (netC x),.i .i64 most] fun r=>∃g,ybc g/\yng g=true/\(g.ports.length<=most/\WtF x g)/\Sim r (grV g):=by
 refine ychg [36,54] _ _ ?_;have hT:=yckj hx hm;simp only[netC]at hT;simp only[c53,ycrb,ycqr,netC,clash,go_sem,zA,zC,zS,↓reduceIte,reduceCtorEq];refine yga hT [(211,211),(212,212)] 0 [2,4,5] [2,4] ?_ ?_
 ·simp only[okN,ydh,yho,yey,yeg,allQ,live,yg,go_sem,zA,zC,zD,↓reduceIte,reduceCtorEq]
 rintro r o' ⟨g,hg,ht,⟨hn,-⟩,rfl,rfl⟩;have hM:=ybhn (Q:=fun G=>Tre G g.ports.length/\WtF x G) hx hg ⟨ht.tre,ht.wt⟩ (fun G a b w gG gl ga gb gw gQ=>⟨ywc ga gb gQ.1,ybdo ga gb gw gQ.2⟩);simp only[netC]at hM;simp only[ybw,yef,yqj,ynl,nuF,nu,difN,yey,yeg,Fam.ren,OB.ren,dim,yqw,yla,go_sem,zA,zC,zD,↓reduceIte];refine yga hM [(211,211),(212,212)] 0 [4] [4] ?_ ?_
 ·simp only[yef,ybw,to1,okN,ydh,yho,yey,yeg,allQ,live,yg,go_sem,zA,zC,zD,↓reduceIte,reduceCtorEq];refine⟨⟨fun i _ j _ e=>e,fun i hi=>by rw[if_pos hi],fun i b hb=>?_⟩,by decide⟩
  obtain⟨hi,rfl⟩:=yca hb;refine⟨_,ynx (f:=ren (nu [(211,211),(212,212)] 0) 5) (fun _ _=>rfl) hi,⟨rfl,rfl,rfl,rfl⟩,fun k hk=>?_⟩;simp only[rowO,live,yg,go_sem,reduceCtorEq]
 rintro r o' ⟨G,gg,⟨gt,gw⟩,gn,rfl,rfl⟩;simp only[ybw,yef,clash,splice,yqj,ynl,nuF,nu,difN,yey,yeg,Fam.ren,OB.ren,dim,yqw,yla,go_sem,zA,zC,zD,↓reduceIte];refine⟨by decide,fun q hq=>?_,G,gg,Tre.conn gg (by rw[gn];exact gt),⟨by omega,gw⟩,?_⟩
 ·simp only[if_pos hq];exact⟨zAC _,fun k hk=>by simp only[rowO,go_sem]⟩
 ·refine yyi ⟨Sim.refl _,?_,trivial⟩;refine yil fun q hq=>?_;simp only[if_pos hq];simp only[rowO,ybd,yhz,go_sem];exact⟨Sim.refl _,trivial⟩
theorem ytf{x:NetR}(hx:x.ok){most:Nat}(hm:1<=most/\most<=24) :
 Ct zI 53 [.ag (netC x),.i .i64 most] fun r=>∃g,ybc g/\yng g=true/\g.ports.length<=most/\Sim r (grV g) :=
 (yqu hx hm).mono fun _ ⟨g,h1,h2,h3,h4⟩=>⟨g,h1,h2,h3.1,h4⟩
end Sh
end
section
namespace Sh
open Ev Go.RowKit
theorem ybsi(l:List Nat):one1 (usV l)=true:=rfl
theorem ybly{n:Nat}(l:List Nat):owned (n+1) (usV l)=false:=rfl
theorem ybfd{n:Nat}(l:List Nat):scalar (n+1) (usV l)=false:=rfl
theorem ybui{n:Nat}(o:Own)(l:List Nat):view o (n+1) (usV l)=usV l:=rfl
theorem ycjc{n:Nat}(o:Own)(l:List Nat):vok o (n+1) (usV l)=True:=rfl
theorem ycim{n:Nat}(h:Nm->Nm)(l:List Nat):ren h (n+1) (usV l)=usV l:=rfl
theorem ycin{n:Nat}(D:Nm->Bool)(l:List Nat):cln D (n+1) (usV l)=true:=rfl
theorem ybjp{n:Nat}(fr:List Nm)(o:Own)(l:List Nat):yct fr o (n+1) (usV l)=usV l:=rfl
theorem ycjo{n:Nat}(fr:List Nm)(o:Own)(l:List Nat):pok fr o (n+1) (usV l)=True:=rfl
theorem ybme(l:List Nat):SV.cells (usV l)=[usV l]:=rfl
theorem ybas(l:List Conf):one1 (yfx l)=true:=rfl
theorem yxm{n:Nat}(l:List Conf):owned (n+1) (yfx l)=false:=rfl
theorem yun{n:Nat}(l:List Conf):scalar (n+1) (yfx l)=false:=rfl
theorem ybbn{n:Nat}(o:Own)(l:List Conf):view o (n+1) (yfx l)=yfx l:=rfl
theorem ybgk{n:Nat}(o:Own)(l:List Conf):vok o (n+1) (yfx l)=True:=rfl
theorem ybfy{n:Nat}(h:Nm->Nm)(l:List Conf):ren h (n+1) (yfx l)=yfx l:=rfl
theorem ybfm{n:Nat}(D:Nm->Bool)(l:List Conf):cln D (n+1) (yfx l)=true:=rfl
theorem ywm{n:Nat}(fr:List Nm)(o:Own)(l:List Conf):yct fr o (n+1) (yfx l)=yfx l:=rfl
theorem ybee{n:Nat}(fr:List Nm)(o:Own)(l:List Conf):pok fr o (n+1) (yfx l)=True:=rfl
theorem yxf(l:List Conf):SV.cells (yfx l)=[yfx l]:=rfl
theorem ybgz(l:List Cnt):one1 (yku l)=true:=rfl
theorem yzo{n:Nat}(l:List Cnt):owned (n+1) (yku l)=false:=rfl
theorem yuz{n:Nat}(l:List Cnt):scalar (n+1) (yku l)=false:=rfl
theorem ybfr{n:Nat}(o:Own)(l:List Cnt):view o (n+1) (yku l)=yku l:=rfl
theorem ybie{n:Nat}(o:Own)(l:List Cnt):vok o (n+1) (yku l)=True:=rfl
theorem ybob{n:Nat}(h:Nm->Nm)(l:List Cnt):ren h (n+1) (yku l)=yku l:=rfl
theorem ybig{n:Nat}(D:Nm->Bool)(l:List Cnt):cln D (n+1) (yku l)=true:=rfl
theorem ybab{n:Nat}(fr:List Nm)(o:Own)(l:List Cnt):yct fr o (n+1) (yku l)=yku l:=rfl
theorem yboj{n:Nat}(fr:List Nm)(o:Own)(l:List Cnt):pok fr o (n+1) (yku l)=True:=rfl
theorem ybad(l:List Cnt):SV.cells (yku l)=[yku l]:=rfl
theorem ybrr(l:List Bool):one1 (blV l)=true:=rfl
theorem ybku{n:Nat}(l:List Bool):owned (n+1) (blV l)=false:=rfl
theorem ybea{n:Nat}(l:List Bool):scalar (n+1) (blV l)=false:=rfl
theorem ybux{n:Nat}(o:Own)(l:List Bool):view o (n+1) (blV l)=blV l:=rfl
theorem ycho{n:Nat}(o:Own)(l:List Bool):vok o (n+1) (blV l)=True:=rfl
theorem ycjs{n:Nat}(h:Nm->Nm)(l:List Bool):ren h (n+1) (blV l)=blV l:=rfl
theorem ycjr{n:Nat}(D:Nm->Bool)(l:List Bool):cln D (n+1) (blV l)=true:=rfl
theorem ybkq{n:Nat}(fr:List Nm)(o:Own)(l:List Bool):yct fr o (n+1) (blV l)=blV l:=rfl
theorem ycff{n:Nat}(fr:List Nm)(o:Own)(l:List Bool):pok fr o (n+1) (blV l)=True:=rfl
theorem ybkz(l:List Bool):SV.cells (blV l)=[blV l]:=rfl
attribute [go_sem] ybsi ybly ybfd ybui ycjc ycim ycin ybjp ycjo ybme ybas yxm yun ybbn ybgk ybfy ybfm ywm ybee yxf ybgz yzo yuz ybfr ybie ybob ybig ybab yboj ybad ybrr ybku ybea ybux ycho ycjs ycjr ybkq ycff ybkz
theorem Ct.found{P:Program}{g:FuncId}{args:List SV}{α:Type}{R:SV->α->Prop}{V:α->SV}{Q:SV->Prop}(h:Ct P g args fun r=>∃x,R r x)(hs:∀r x,R r x->Sim r (V x))(hq:∀r x,R r x->Q (V x)):Ct P g args Q:=fun G m us h1 h2 h3=>by
 obtain⟨v,m',r,a,b,c,⟨x,hx⟩,e⟩:=h G m us h1 h2 h3;exact⟨v,m',V x,a,b,c,hq r x hx,hs r x hx _ _ _ e⟩
structure RunD(S:Sys)(res:Nat->Nat->Nat)(ws:List Nat)(c:Conf)(n:Nat)(Cs:List Conf)(Ks:List Cnt):Prop where
 cs:(S.runs res ws c).map (·.1)=Cs
 ks:(S.runs res ws c).map (·.2)=Ks
 len:(S.runs res ws c).length=n
 pos:0<n
 le:n<=ws.length+1
theorem RunD.at_{S:Sys}{res:Nat->Nat->Nat}{ws:List Nat}{c:Conf}{n:Nat}{Cs:List Conf}{Ks:List Cnt}(h:RunD S res ws c n Cs Ks){k:Nat}(hk:k<n):(Cs.getD k [],Ks.getD k default)∈S.runs res ws c/\(S.runs res ws c)[k]?=some (Cs.getD k [],Ks.getD k default):=by
 have hk':k<(S.runs res ws c).length:=by rw[h.len];exact hk
 have e:(S.runs res ws c)[k]=(Cs.getD k [],Ks.getD k default):=by
  rw[<-h.cs,<-h.ks];simp[zAN,hk']
 exact⟨by rw[<-e];exact zAI hk',by rw[<-e];exact zY hk'⟩
theorem RunD.last{S:Sys}{res:Nat->Nat->Nat}{ws:List Nat}{c:Conf}{n:Nat}{Cs:List Conf}{Ks:List Cnt}(h:RunD S res ws c n Cs Ks){k:Nat}(hk:k+1<n):S.en (Cs.getD k [])≠0:=by
 have h1:=(h.at_ (show k<n by omega)).2
 exact Sys.runs_last (by rw[h.len];exact hk) h1
end Sh
end
section
end
section
end
section
section
variable {nm nc nr:ByteArray}{g:Gr}
theorem ybyw(hg:ybc g){c:Conf}(hv:yhs (ybq nm nc nr) g c=true):ygk g c=true:=by
 have hC:=ytd hv;have hpl:=hg.2.2.1;unfold ygk;rw[(ygu g).2 hg,zQ,ydz];refine⟨by rw[hC.len,hpl],fun v s hs=>?_⟩
 obtain⟨hvl,e⟩:=List.getElem?_eq_some_iff.1 hs;have e:c.getD v []=s:=by simp[zAN,hs]
 obtain⟨h1,h2,h3⟩:=hC.row v (by rw[<-hC.len];exact hvl)
 unfold yci at h2 h3;rw[e]at h1 h2 h3
 have eb:ydk g [(g.ids.length:Int)] v=[(0,(g.ids.length:Int))]:=by
  have:¬(g.ids.length:Int) = -1:=by omega
  simp[ydk,this]
 rw[eb];refine⟨h1,fun i b x hb hx=>?_⟩;have hi:=(List.getElem?_eq_some_iff.1 hb).1;have hi:i<1:=by simpa using hi
 obtain rfl:i=0:=by omega
 have hb:some (0,(g.ids.length:Int))=some b:=hb;cases hb
 have e2:s.getD 0 0=x:=by simp[zAN,hx]
 rw[e2]at h2 h3;exact⟨h2,h3⟩
theorem ybfg(hg:ybc g){c:Conf}:ylk g c=0↔ysy g c:=by
 have hpl:=hg.2.2.1;rw[yhw];constructor
 ·intro h v hv q;have:=(ykd hg (c:=c) (v:=v)).2 ⟨by omega,q⟩
  rw[h v]at this;cases this
 ·intro h i;cases q:(ylk g c).testBit i with
  |false=>rfl
  | true =>
    obtain⟨h1,h2⟩:=(ykd hg).1 q;exact absurd h2 (h i (by omega))
theorem ybqv(hg:ybc g){c:Conf}(hv:yhs (ybq nm nc nr) g c=true):yiu g c=true↔ysy g c:=by
 unfold yiu;rw[ybyw hg hv,zQ,decide_eq_true_iff];exact ybfg hg
theorem ybrh(hg:ybc g){c:Conf}:ylk g c=ybu (ybq nm nc nr) g c:=by
 have hpl:=hg.2.2.1;refine Nat.eq_of_testBit_eq fun i=>?_
 by_cases hi:i<g.ids.length
 ·rw[zAK,ykd hg,ybql hg hi];exact⟨fun h=>h.2,fun h=>⟨by omega,h⟩⟩
 ·rw[Nat.testBit_lt_two_pow (zV (Sh.ychj _ g c) (zAD (by omega) (by omega)))]
  cases q:(ylk g c).testBit i with
  |false=>rfl
  |true=>exact absurd ((ykd hg).1 q).1 (by omega)
end
end
section
structure TreeM(g:Gr):Prop where
 up:∀a v u,a<g.ports.length->adj g v u->(yds g a).getD u 0=(yds g a).getD v 0-1\/(yds g a).getD u 0=(yds g a).getD v 0+1
 one:∀a v u w,a<g.ports.length->adj g v u->adj g v w->(yds g a).getD u 0=(yds g a).getD v 0-1->(yds g a).getD w 0=(yds g a).getD v 0-1->u=w
end
section
def dP(g:Gr)(a v:Nat):Int:=(yds g a).getD v 0
structure Tr(g:Gr):Prop where
 good:ybc g
 conn:yng g=true
 m:TreeM g
section
variable {g:Gr}{a b u v w x:Nat}
theorem Tr.self(h:Tr g)(ha:a<g.ports.length):dP g a a=0:=ybih h.good h.conn ha
theorem Tr.nonneg(h:Tr g)(ha:a<g.ports.length)(hv:v<g.ports.length):0<=dP g a v:=(ycif h.good h.conn ha hv).1
theorem Tr.pos(h:Tr g)(ha:a<g.ports.length)(hv:v<g.ports.length)(hne:v≠a):1<=dP g a v:=ybqe h.good h.conn ha hv hne
theorem Tr.up(h:Tr g)(ha:a<g.ports.length)(hu:adj g v u):dP g a u=dP g a v-1\/dP g a u=dP g a v+1:=h.m.up a v u ha hu
theorem Tr.one(h:Tr g)(ha:a<g.ports.length)(hu:adj g v u)(hx:adj g v x)(e1:dP g a u=dP g a v-1)(e2:dP g a x=dP g a v-1):u=x:=h.m.one a v u x ha hu hx e1 e2
theorem Tr.back(h:Tr g)(ha:a<g.ports.length)(hv:v<g.ports.length)(hne:v≠a):∃u,adj g v u/\dP g a u=dP g a v-1:=ybpu h.good h.conn ha hv hne
theorem Tr.adj1(h:Tr g)(hu:adj g v u):dP g v u=1:=by
 obtain⟨hv,hu'⟩:=h.good.adj_lt hu;have h1:=h.up hv hu;have h2:=h.self hv;have h3:=h.nonneg hv hu';omega
theorem Tr.ne(h:Tr g)(hu:adj g v u):v≠u:=fun e=>by
 subst e;have:=h.adj1 hu;have:=h.self (h.good.adj_lt hu).1;omega
theorem Tr.into(h:Tr g)(hu:adj g v u)(hx:adj g u x)(hne:x≠v)(hw:w<g.ports.length)(hs:dP g w x<dP g w u):dP g w u<dP g w v/\dP g w v=dP g w u+1:=by
 have h1:=h.up hw hx;have h2:=h.up hw (h.good.adj_symm hu);rcases h2 with h2|h2
 ·exact absurd (h.one hw hx (h.good.adj_symm hu) (by omega) h2) hne
 ·omega
theorem Tr.thru(h:Tr g)(hw:w<g.ports.length):∀(k:Nat) (v u x:Nat),adj g v u->dP g w u=dP g w v+1->x<g.ports.length->dP g x u<dP g x v->(dP g x u).toNat<k->dP g w x=dP g w u+dP g x u
 |0,v,u,x,_,_,_,_,hk=>by omega
 | k + 1,v,u,x,hu,hwu,hx,hs,hk=>by
   obtain⟨hv,hu'⟩:=h.good.adj_lt hu
   by_cases e:x=u
   ·subst e;rw[h.self hx];omega
   ·obtain⟨y,hy,h1⟩:=h.back hx hu' (fun q=>e q.symm);have hyv:y≠v:=fun q=>by subst q;omega
    have h2:=h.up hw hy
    have hw1:dP g w y=dP g w u+1:=by
     rcases h2 with h2|h2
     ·exact absurd (h.one hw hy (h.good.adj_symm hu) h2 (by omega)) hyv
     ·exact h2
    have:=h.nonneg hx (h.good.adj_lt hy).2;have ih:=Tr.thru h hw k u y x hy hw1 hx (by omega) (by omega)
    omega
theorem Tr.apart(h:Tr g)(ha:adj g v a)(hb:adj g v b)(hne:a≠b)(hw:w<g.ports.length)(hx:x<g.ports.length)(h1:dP g w a<dP g w v)(h2:dP g x b<dP g x v):dP g w x=dP g w v+dP g x v:=by
 have a1:=h.up hw ha;have b1:=h.up hw hb;have b2:=h.up hx hb
 have hwb:dP g w b=dP g w v+1:=by
  rcases b1 with q|q
  ·exact absurd (h.one hw ha hb (by omega) q) hne
  ·exact q
 have:=h.thru hw _ v b x hb hwb hx h2 (zAJ _);omega
end
end
section
namespace Sh
open Go Ev
def ycjp:LO:=[o3 (.box 35 (.tmp 0)) 2 0,o3 (.alloc 25 1 [.a (.slice none 0 0),.a (.slice none 0 0)]) 4 0]
def ycgk:LO:=[fa' 4 1 2 5 0,ld' false 1 5 6 1,o3 (.un .not (.tmp 6)) 7 3]
def yclc:LO:=[ld' true 6 2 8 0,mv' 1 9 0,cl' 53 [8,9] 10 3,o0 (.store 2 (.tmp 4) (.tmp 10)) 7]
def ycnh:LO:=[ld' true 6 2 11 0,ld' true 6 2 12 0,mv' 1 13 0,cl' 55 [12,13] 14 6,cl' 54 [11,14] 15 15,o0 (.store 2 (.tmp 4) (.tmp 15)) 31]
def c16:SC:=(.seq (.reg false ycjp) (.seq (.seq (.reg false ycgk) (.cond (.tmp 7) (.seq (.reg false yclc) .ret) .skip)) (.seq (.reg true ycnh) .ret)))
theorem ycfb:FnU 16 c16 [.c 4 true 2]:=fn_u Tryz.func16 (by kernel_rfl) (by kernel_rfl)
def ycls:LO:=[o3 (.mv (.const (.bool false))) 4 0]
def ycns:LO:=[mv' 1 5 0,o3 (.bin .geq (.tmp 5) (ci' 0)) 6 1,mv' 6 7 3,⟨.mv (.tmp 1),some 8,some (7,true),7⟩,⟨.bin .lss (.tmp 8) (ci' 32),some 9,some (7,true),15⟩,o3 (.pick (.tmp 7) (.tmp 9) (.const (.bool false))) 10 31,mv' 10 11 63,⟨.mv (.tmp 0),some 12,some (11,true),127⟩,⟨.mv (.tmp 1),some 13,some (11,true),127⟩,⟨.conv .u64 (.tmp 13),some 14,some (11,true),383⟩,⟨.bin .shr (.tmp 12) (.tmp 14),some 15,some (11,true),1023⟩,⟨.bin .and (.tmp 15) (.const (.int .u32 1)),some 16,some (11,true),2047⟩,⟨.bin .eql (.tmp 16) (.const (.int .u32 1)),some 17,some (11,true),4095⟩,o3 (.pick (.tmp 11) (.tmp 17) (.const (.bool false))) 18 8191,mv' 18 4 16383]
def c20:SC:=(.seq (.reg false ycls) (.seq (.reg false ycns) .ret))
theorem ycnv:Fn 20 c20 [.t 4]:=fn_0 Tryz.func20 (by kernel_rfl) (by kernel_rfl)
def ycnk:LO:=[o3 (.box 42 (.tmp 0)) 4 0,o3 (.box 25 (.tmp 1)) 5 0,o3 (.mv (.const (.slice none 0 0))) 8 0,o3 (.mv (ci' 0)) 9 4]
def ycop:LO:=[ld' true 3 4 12 0,ld' true 2 5 13 0,mv' 2 14 0,cl' 59 [12,13,14] 15 7,mv' 15 10 15]
def ycml:LO:=[mv' 10 16 0,o3 (.bin .neq (.tmp 16) (ci' 0)) 17 1]
def ycto:LO:=[mv' 10 18 0,o3 (.mv (.const (.slice none 0 0))) 8 0,mv' 18 9 3]
def ycoh:LO:=[ld' true 3 4 19 0,ld' true 2 5 20 0,cl' 60 [19,20] 21 3,mv' 21 11 7]
def ycqm:LO:=[mv' 3 22 0,o3 (.bin .eql (.tmp 22) (.const (.int .u32 0))) 23 1,mv' 23 24 3,⟨.mv (.tmp 3),some 25,some (24,false),7⟩,⟨.mv (.tmp 11),some 26,some (24,false),7⟩,⟨.mv (.tmp 2),some 27,some (24,false),7⟩,⟨.call (.func 61) [(.tmp 26),(.tmp 27)],some 28,some (24,false),55⟩,⟨.bin .andNot (.tmp 25) (.tmp 28),some 29,some (24,false),127⟩,⟨.bin .neq (.tmp 29) (.const (.int .u32 0)),some 30,some (24,false),255⟩,o3 (.pick (.tmp 24) (.const (.bool true)) (.tmp 30)) 31 511]
def yctn:LO:=[o3 (.mv (.const (.slice none 0 0))) 8 0,o3 (.mv (ci' 11)) 9 1]
def ycqq:LO:=[mv' 11 32 0,mv' 2 33 0,mv' 3 34 0,cl' 62 [32,33,34] 35 7,mv' 35 8 15,o3 (.mv (ci' 0)) 9 31]
def c22:SC:=(.seq (.reg false ycnk) (.seq (.seq (.reg false ycop) (.seq (.reg false ycml) (.cond (.tmp 17) (.seq (.reg false ycto) .ret) .skip))) (.seq (.reg false ycoh) (.seq (.seq (.reg false ycqm) (.cond (.tmp 31) (.seq (.reg false yctn) .ret) .skip)) (.seq (.reg false ycqq) .ret)))))
theorem ycot:Fn 22 c22 [.t 8,.t 9]:=fn_0 Tryz.func22 (by kernel_rfl) (by kernel_rfl)
end Sh
end
section
namespace Sh
open Ev Go.RowKit
theorem ybom{x:NetR}(hx:x.ok){most:Nat}(hm:1<=most/\most<=24) :
 Cm zI 55 [] [] [.ag (netC x),.i .i64 most] fun r o=>∃g,ybc g/\g.ports.length<=most/\r=yef g/\o=ybw g.ports :=
 (ybdr hx hm).weak fun r o' ⟨ids,h1,h2,h3,e1,e2⟩=>by
   subst e1 e2;obtain⟨n,hn⟩:∃n,ids.length=n:=⟨_,rfl⟩;have b1:(bare ids).ids=ids:=rfl;have b2:(bare ids).ports.length=n:=by simp[bare,hn]
   have b3:∀v,(bare ids).ports.getD v []=[]:=yio ids;refine⟨yef (bare ids),ybw (bare ids).ports,?_,?_,bare ids,yvr (by omega) (by omega) h2 h3,by rw[b2];omega,rfl,rfl⟩
   ·refine yh [(211,fun i=>(17,i))] [212] [] ?_;simp only[yef,ybw,rowO,b1,b2,b3,hn,List.length_nil,allQ,live,yg,go_sem,zA,zD,↓reduceIte,reduceCtorEq];refine⟨fun i hi=>⟨(212,i),rfl,rfl,by simp[hi]⟩,fun i b hb=>?_⟩
    obtain⟨_,rfl⟩:=yca hb;exact⟨rfl,rfl⟩
   ·simp only[ybw,yef,ydh,yho,allQ,live,go_sem,zA,↓reduceIte];refine⟨fun i hi=>by rw[if_pos hi],fun i b hb k hk=>?_⟩
    obtain⟨hi,rfl⟩:=yca hb;simp only[rowO,go_sem]
theorem ycgd{x:NetR}(hx:x.ok){most:Nat}(hm:1<=most/\most<=24) :
 Ct zI 16 [.ag (netC x),.i .i64 most] fun r=>∃g,ybc g/\g.ports.length<=most/\Sim r (grV g):=by
 refine ycfb [55,54] _ _ ?_;have hC:=ytf hx hm;have hN:=ybom hx hm;simp only[netC]at hC hN;cases hap:x.apart with
 | false =>
   rw[hap]at hC;simp only[c16,ycjp,ycgk,yclc,netC,hap,clash,go_sem,zA,zC,zL,zS,zD,↓reduceIte,reduceCtorEq];refine hC.found (V:=grV) (fun r g h=>h.2.2.2) fun r g h=>?_;simp only[ybe,grV,splice,clash,go_sem,zA,zC,↓reduceIte];exact⟨g,h.1,h.2.2.1,Sim.refl _⟩
 | true =>
   rw[hap]at hN;simp only[c16,ycjp,ycgk,ycnh,netC,hap,clash,go_sem,zA,zC,zL,zS,↓reduceIte,reduceCtorEq];refine yga hN [(211,211),(212,212)] 0 [2,4,11] [2,4] ?_ ?_
   ·simp only[okN,ydh,yho,yey,yeg,allQ,live,yg,go_sem,zA,zC,zD,↓reduceIte,reduceCtorEq]
   rintro r o' ⟨g,hg,hn,rfl,rfl⟩;have hM:=ybhn (Q:=fun _=>True) hx hg trivial (fun G a b w gG gl ga gb gw gQ=>trivial);simp only[netC,hap]at hM;simp only[ybw,yef,yqj,ynl,nuF,nu,difN,yey,yeg,Fam.ren,OB.ren,dim,yqw,yla,go_sem,zA,zC,zD,↓reduceIte];refine yga hM [(211,211),(212,212)] 0 [4] [4] ?_ ?_
   ·simp only[yef,ybw,to1,okN,ydh,yho,yey,yeg,allQ,live,yg,go_sem,zA,zC,zD,↓reduceIte,reduceCtorEq];refine⟨⟨fun i _ j _ e=>e,fun i hi=>by rw[if_pos hi],fun i b hb=>?_⟩,by decide⟩
    obtain⟨hi,rfl⟩:=yca hb;refine⟨_,ynx (f:=ren (nu [(211,211),(212,212)] 0) 5) (fun _ _=>rfl) hi,⟨rfl,rfl,rfl,rfl⟩,fun k hk=>?_⟩;simp only[rowO,live,yg,go_sem,reduceCtorEq]
   rintro r o' ⟨G,gg,-,gn,rfl,rfl⟩;simp only[ybw,yef,clash,splice,yqj,ynl,nuF,nu,difN,yey,yeg,Fam.ren,OB.ren,dim,yqw,yla,go_sem,zA,zC,zD,↓reduceIte];refine⟨by decide,fun q hq=>?_,G,gg,by omega,?_⟩
   ·simp only[if_pos hq];exact⟨zAC _,fun k hk=>by simp only[rowO,go_sem]⟩
   ·refine yyi ⟨Sim.refl _,?_,trivial⟩;refine yil fun q hq=>?_;simp only[if_pos hq];simp only[rowO,ybd,yhz,go_sem];exact⟨Sim.refl _,trivial⟩
end Sh
end
section
namespace Ev
end Ev
end
section
namespace Ev
/- selfstab/step.Step -/
def ybjv:Fact:=⟨22,[.agg #[.string (by8 [99,111,108,111,117,114,105,110,103]),.slice (some ⟨275,0,none⟩) 1 CU,.slice (some ⟨368,0,none⟩) 1 CU],.agg #[.slice (some ⟨14,0,none⟩) 3 CU,.slice (some ⟨7,0,none⟩) 3 3],.slice (some ⟨758,0,none⟩) 3 3,.int .u32 2],785,[⟨7,38,1,[.slice (some ⟨31,0,none⟩) 2 CU,.slice (some ⟨43,0,none⟩) 2 CU,.slice (some ⟨45,0,none⟩) 2 CU]⟩,⟨14,3,1,[.int .i64 0,.int .i64 1,.int .i64 2]⟩,⟨31,81,2,[.int .i64 1,.int .i64 1,.int .i64 2,.int .i64 1]⟩,⟨43,81,2,[.int .i64 0,.int .i64 1,.int .i64 2,.int .i64 1]⟩,⟨45,81,2,[.int .i64 0,.int .i64 1,.int .i64 1,.int .i64 1]⟩,⟨275,93,6,[.string (by8 [99]),.int .i64 1,.int .i64 0,.int .i64 0,.int .i64 1,.int .i64 0]⟩,⟨321,190,2,[.int .i64 21,.int .i64 0,.int .i64 35,.int .i64 0,.int .i64 12,.int .i64 0,.int .i64 5,.int .i64 0]⟩,⟨357,190,2,[.int .i64 27,.int .i64 0,.int .i64 12,.int .i64 0]⟩,⟨364,156,2,[.int .i64 0,.slice (some ⟨357,0,none⟩) 2 CU]⟩,⟨368,146,3,[.string (by8 [102,105,120]),.slice (some ⟨321,0,none⟩) 4 CU,.slice (some ⟨364,0,none⟩) 1 CU]⟩,⟨758,22,1,[.slice (some ⟨775,0,none⟩) 1 CU,.slice (some ⟨760,0,none⟩) 1 CU,.slice (some ⟨761,0,none⟩) 1 CU]⟩,⟨760,3,1,[.int .i64 1]⟩,⟨761,3,1,[.int .i64 1]⟩,⟨775,3,1,[.int .i64 0]⟩],.tuple #[.slice (some ⟨1052,0,none⟩) 3 3,.int .i64 0],1079,[⟨1052,22,1,[.slice (some ⟨1053,0,none⟩) 1 CU,.slice (some ⟨1069,0,none⟩) 1 CU,.slice (some ⟨1055,0,none⟩) 1 CU]⟩,⟨1053,3,1,[.int .i64 0]⟩,⟨1055,3,1,[.int .i64 1]⟩,⟨1069,3,1,[.int .i64 2]⟩],785⟩
def yctr:List Fact:=[ybjv]
theorem ybtb:ycb yctr:=ycb.seq ycb.nil (by kernel_rfl)
end Ev
end
section
namespace Ev
def Kym0:Fact:=yoi.move [] 47
theorem ycfw:yfb zI Kym0:=ywu (ycb.at_ ybcy 0 rfl) (by kernel_rfl)
end Ev
end
section
namespace Ev
open Go Go.RowKit
def kyF:List Fact:=[Kym0,ybjv]
theorem ycpf:ycb kyF:=(ycb.cons (f:=Kym0) ycfw (ycb.cons (f:=ybjv) (ycb.at_ ybtb 0 rfl) ycb.nil))
def kyH:Hooks:=⟨some 90,some 199,some 104,symB,[⟨1000000000000,kyF⟩],some 107⟩
theorem ycsf:HooksOk zI kyH:=⟨fun g h=>(by cases h;exact ybdt),fun g h=>(by cases h;exact ymz),fun g h=>(by cases h;exact ybmk),ydy.cons ycpf ydy.nil,fun g h=>(by cases h;exact yum)⟩
def kyT:Option Value->Bool
 |some (.bool b)=>b
 |_=>false
theorem ycmv:∀{o:Option Value},kyT o=true->o=some (.bool true)
 |some (.bool true),_=>rfl
set_option maxRecDepth 1000000 in
theorem yyr:outV (ev zI kyH 3000 (.call 23 [] mem0))=some (.bool true):=ycmv (by kernel_rfl)
theorem ycfp(w:World)(hG:GlW w):Calls zI 23 #[] w fun e w'=>e = .returned (.bool true)/\Below w.heap.size w w' :=
 yta mix ypc ycsf yyr rfl rfl ⟨_,_,zAR,rfl⟩ w hG
end Ev
end
section
namespace Sh
open Go Ev Go.RowKit
theorem ybbd:Returns zI 23 [] (.b true):=by
 refine ybnj ⟨_,_,zAR,rfl⟩ (fun _=>.b) (fun _=>.simple rfl) fun G m us hG hr φ M w us' hRl hs hv=>?_;cases hr
 cases hv
 exact ycfp w fun x hx=>(hRl.gl x hx).1
end Sh
end
section
namespace Ev
theorem ymm:∀l:List UInt8,eqBytes l l=true
 |[]=>rfl
 | x::l=>by
   show(zG x.toNat x.toNat&&eqBytes l l)=true;rw[zF,ymm l];rfl
theorem yqx{ρ:Nat->Nat}{a:Addr}(h:a.spot.isNone=true):eqAddr (renA ρ a) (renA ρ a)=true:=by
 rw[yid];unfold eqAddr;simp only[zF,h,Bool.and_self]
theorem ybni{ρ:Nat->Nat}{v:Value}(hf:ynh v=true)(h:eq1 v v=true):eq1 (ren1 ρ v) (ren1 ρ v)=true:=by
 unfold ynh at hf;split at hf
 ·exact yqx hf
 ·rename_i a n c
  show(eqAddr (renA ρ a) (renA ρ a)&&zG n n&&zG c c)=true;rw[yqx hf,zF,zF];rfl
 ·rename_i h1 h2
  have:ren1 ρ v=v:=by
   unfold ren1;split
   ·rename_i a;exact absurd rfl (h1 a)
   ·rename_i a n c;exact absurd rfl (h2 a n c)
   ·rfl
  rw[this];exact h
theorem yoh{ρ:Nat->Nat}:∀{l:List Value},l.all ynh=true->eqL1 l l=true->eqL1 (l.map (ren1 ρ)) (l.map (ren1 ρ))=true
 |[],_,_=>rfl
 | x::l,hf,h=>by
   simp only[List.all_cons,zB]at hf;have h:(eq1 x x&&eqL1 l l)=true:=h;rw[zB]at h;show(eq1 (ren1 ρ x) (ren1 ρ x)&&eqL1 (l.map (ren1 ρ)) (l.map (ren1 ρ)))=true;rw[ybni hf.1 h.1,yoh hf.2 h.2];rfl
theorem ybhk{v:Value}(h1:∀a,v = .agg a->False)(h2:∀g a c,v = .func (.func g) a c->False):eq2 v v=eq1 v v:=by
 cases v with
 |agg a=>exact(h1 a rfl).elim
 | func f a c=>cases f with
   |func g=>exact(h2 g a c rfl).elim
   |_=>rfl
 |_=>rfl
theorem ybnr{ρ:Nat->Nat}{v:Value}(h1:∀a,v = .agg a->False)(h2:∀g a c,v = .func (.func g) a c->False)(hf:ynh v=true):ren2 ρ v=ren1 ρ v:=by
 cases v with
 |agg a=>exact(h1 a rfl).elim
 | func f a c=>cases f with
   |func g=>exact(h2 g a c rfl).elim
   |_=>cases hf
 |_=>rfl
theorem ysh{ρ:Nat->Nat}{v:Value}(hf:ynh v=true):(∀a,ren1 ρ v = .agg a->False)/\∀g a c,ren1 ρ v = .func (.func g) a c->False:=by
 cases v with
 |agg a=>cases hf
 |func f a c=>cases hf
 |pointer p=>cases p<;>exact⟨fun _ h=>(by cases h),fun _ _ _ h=>(by cases h)⟩
 |slice p n c=>cases p<;>exact⟨fun _ h=>(by cases h),fun _ _ _ h=>(by cases h)⟩
 |_=>exact⟨fun _ h=>(by cases h),fun _ _ _ h=>(by cases h)⟩
theorem ybhq{ρ:Nat->Nat}{v:Value}(hf:yjc v=true)(h:eq2 v v=true):eq2 (ren2 ρ v) (ren2 ρ v)=true:=by
 unfold yjc at hf;split at hf
 ·rename_i a
  have h:eqL1 a.toList a.toList=true:=h;show eqL1 (a.toList.map (ren1 ρ)).toArray.toList (a.toList.map (ren1 ρ)).toArray.toList=true;exact yoh hf h
 ·rename_i g a c
  rw[zB]at hf;have h:(zG g g&&eqL1 a.toList a.toList&&eqL1 c.toList c.toList)=true:=h;simp only[zB]at h;show(zG g g&&eqL1 (a.toList.map (ren1 ρ)).toArray.toList (a.toList.map (ren1 ρ)).toArray.toList&&eqL1 (c.toList.map (ren1 ρ)).toArray.toList (c.toList.map (ren1 ρ)).toArray.toList)=true;rw[zF,yoh hf.1 h.1.2,yoh hf.2 h.2];rfl
 ·rename_i h1 h2
  rw[ybhk h1 h2]at h;rw[ybnr h1 h2 hf,ybhk (ysh hf).1 (ysh hf).2];exact ybni hf h
def reflB(b:BlkL):Bool:=b.l.all (fun v=>eq2 v v&&yjc v)&&zO b.l.length 1000000
theorem yqh{ρ:Nat->Nat}{b:BlkL}(h:reflB b=true):∀v∈(b.ren ρ).l,eq2 v v=true:=by
 unfold reflB at h;rw[zB]at h;intro v hv;obtain⟨x,hx,rfl⟩:=List.mem_map.1 hv;have:=List.all_eq_true.1 h.1 x hx;rw[zB]at this;exact ybhq this.2 this.1
theorem ykq{l:List Value}(h:∀v∈l,eq2 v v=true):∀(k:List Value) (n:Nat),l.drop n=k->cellsAre (tOf l) n k=true
 |[],_,_=>rfl
 | v :: k,n,e=>by
   have hn:n<l.length:=by
    rcases Nat.lt_or_ge n l.length with q|q
    ·exact q
    ·rw[List.drop_eq_nil_of_le q]at e;cases e
   rw[List.drop_eq_getElem_cons hn]at e
   injection e with e1 e2
   unfold cellsAre;rw[ych,zY hn,e1];simp only;rw[h v (by rw[<-e1];exact zAI _),ykq h k (n+1) e2]
   rfl
theorem yls{m:Mem}{b:BlkL}(hg:m.b.get b.i=some b.blk)(h:∀v∈b.l,eq2 v v=true)(hl:zO b.l.length 1000000=true):blkIs m b=true:=by
 unfold blkIs;rw[hg];show(zG b.l.length b.l.length&&zG b.e b.e&&zG b.z b.z&&zO b.l.length 1000000&&cellsAre (tOf b.l) 0 b.l)=true;rw[zF,zF,zF,hl,ykq h b.l 0 (List.drop_zero ..)];rfl
theorem ypx:∀{l:List BlkL}{t:T ABlk}{i:Nat},(∀b∈l,b.i≠i)->(blksT t l).get i=t.get i
 |[],_,_,_=>rfl
 | b::l,t,i,h=>by
   unfold blksT;rw[T.strict_eq,ypx fun c hc=>h c (zAE _ hc),T.set_at,if_neg (fun e=>h b zAH e.symm)]
theorem ynq:∀{l:List BlkL}{t:T ABlk},yfp (l.map (·.i))=true->∀b∈l,(blksT t l).get b.i=some b.blk
 |[],_,_,b,hb=>by cases hb
 | c :: l,t,h,b,hb=>by
   have h:(!(l.map (·.i)).elem c.i&&yfp (l.map (·.i)))=true:=h;rw[zB,zW]at h;unfold blksT;rw[T.strict_eq];rcases List.mem_cons.1 hb with e|hb
   ·subst e;rw[ypx fun d hd e=>?_,T.set_at,if_pos rfl];have:(l.map (·.i)).elem b.i=true:=List.elem_eq_true_of_mem (List.mem_map.2 ⟨d,hd,e⟩);rw[this]at h;cases h.1
   ·exact ynq h.2 b hb
theorem yjz:∀{l:List Nat},l.Nodup->yfp l=true
 |[],_=>rfl
 | x :: l,h=>by
   rw[zAB]at h;show(!(l.elem x)&&yfp l)=true
   have:l.elem x=false:=by
    cases hq:l.elem x with
    |false=>rfl
    |true=>exact absurd (by simpa using hq) h.1
   rw[this,yjz h.2];rfl
theorem ytm:∀{l:List Nat},yfp l=true->l.Nodup
 |[],_=>zAM
 | x::l,h=>by
   have h:(!(l.elem x)&&yfp l)=true:=h;rw[zB,zW]at h;rw[zAB];refine⟨fun hm=>?_,ytm h.2⟩;have:l.elem x=true:=by simpa using hm
   rw[this]at h;cases h.1
theorem ybda{d:Nat}:∀{l:List BlkL}{k:List Nat},(l.map (·.i)).Nodup->l.length=k.length->l.map (fun b=>ytc l k d b.i)=k
 |[],[],_,_=>rfl
 | b :: l,t::k,hn,hl=>by
   rw[zAO,zAB]at hn;have ih:=ybda (d:=d) hn.2 (by simpa using hl)
   rw[zAO];have e1:ytc (b::l) (t::k) d b.i=t:=by unfold ytc;rw[zF];rfl
   rw[e1];congr 1;refine zAQ (zJ fun c hc=>?_) ih;show(bif zG b.i c.i then t else ytc l k d c.i)=_
   have:zG b.i c.i=false:=by
    cases hq:zG b.i c.i with
    |false=>rfl
    |true=>exact absurd (List.mem_map.2 ⟨c,hc,(zK hq).symm⟩) hn.1
   rw[this];rfl
 |[],_::_,_,h=>by cases h
 |_::_,[],_,h=>by cases h
def Fact.still(f:Fact):Bool:=zU f.next0 f.low&&f.args.all yjc&&ybkx f.v&&f.pre.all (fun b=>zO b.i f.next0&&reflB b)&&yfp (f.pre.map (·.i))&&f.post.all (fun b=>zU f.next0 b.i&&zO b.i f.next1&&reflB b)&&yfp (f.post.map (·.i))&&zU f.next0 f.next1
theorem ybvn{a b:Nat}(h:zO a b=true):a<b:=zV (zAJ _) (zH h)
theorem ybcc{a b:Nat}(h:a<b):zO a b=true:=zN h
theorem yjs{f:Fact}(h:f.still=true):f.next0<=f.low/\(f.args.all yjc=true/\ybkx f.v=true)/\(∀b∈f.pre,b.i<f.next0/\reflB b=true)/\(f.pre.map (·.i)).Nodup/\(∀b∈f.post,f.next0<=b.i/\b.i<f.next1/\reflB b=true)/\(f.post.map (·.i)).Nodup/\f.next0<=f.next1:=by
 unfold Fact.still at h;simp only[zB]at h;obtain⟨⟨⟨⟨⟨⟨⟨h1,h2⟩,h3⟩,h4⟩,h5⟩,h6⟩,h7⟩,h8⟩:=h;refine⟨zH h1,⟨h2,h3⟩,fun b hb=>?_,ytm h5,fun b hb=>?_,ytm h7,zH h8⟩
 ·have:=List.all_eq_true.1 h4 b hb;rw[zB]at this;exact⟨ybvn this.1,this.2⟩
 ·have:=List.all_eq_true.1 h6 b hb;simp only[zB]at this;exact⟨zH this.1.1,ybvn this.1.2,this.2⟩
theorem ybiq{f:Fact}{tgt:List Nat}{n0:Nat}(hp:∀b∈f.pre,b.i<f.next0/\reflB b=true)(hn:(f.pre.map (·.i)).Nodup)(hl:f.pre.length=tgt.length):f.pre.map (fun b=>f.rho tgt n0 b.i)=tgt:=by
 refine zAQ (zJ fun b hb=>?_) (ybda (d:=Nat.add n0 (Nat.sub f.next1 f.next0)) hn hl);unfold Fact.rho;have h1:=(hp b hb).1
 have:(zU f.next0 b.i&&zO b.i f.next1)=false:=by
  rw[Bool.and_eq_false_iff];left
  cases hq:zU f.next0 b.i with
  |false=>rfl
  |true=>have:=zH hq;omega
 rw[this];rfl
theorem ybdf{f:Fact}{tgt:List Nat}{n0 i:Nat}(h1:f.next0<=i)(h2:i<f.next1):f.rho tgt n0 i=i-f.next0+n0:=by
 unfold Fact.rho;rw[Bool.cond_eq_ite,if_pos (by rw[zN h1,ybcc h2];rfl)]
 rfl
theorem yra{P:Program}{f:Fact}{tgt:List Nat}{n0:Nat}(hok:yfb P f)(hs:f.still=true)(hl:f.pre.length=tgt.length)(hn:tgt.Nodup)(hlt:∀t∈tgt,t<n0):yfb P (f.move tgt n0):=by
 refine ywu hok ?_;obtain⟨s1,⟨s2,s3⟩,s4,s5,s6,s7,s8⟩:=yjs hs
 have hpi:(f.move tgt n0).pre.map (·.i)=tgt:=by
  show(f.pre.map (BlkL.ren (f.rho tgt n0))).map (·.i)=tgt;rw[zT];exact zAQ (zJ fun b hb=>b.yhz) (ybiq (n0:=n0) s4 s5 hl)
 have hqi:yfp ((f.move tgt n0).post.map (·.i))=true:=by
  refine yjz ?_;show((f.post.map (BlkL.ren (f.rho tgt n0))).map (·.i)).Nodup
  have e:(f.post.map (BlkL.ren (f.rho tgt n0))).map (·.i)=(f.post.map (·.i)).map (fun i=>i-f.next0+n0):=by
   rw[zT,zT];refine zJ fun b hb=>?_;show(b.ren (f.rho tgt n0)).i=b.i-f.next0+n0;rw[b.yhz,ybdf (s6 b hb).1 (s6 b hb).2.1]
  rw[e];unfold List.Nodup at s7 ⊢;rw[zX];refine List.Pairwise.imp_of_mem (fun {x y} hx hy h=>?_) s7;obtain⟨bx,hbx,rfl⟩:=List.mem_map.1 hx;obtain⟨by_,hby,rfl⟩:=List.mem_map.1 hy;have:=(s6 bx hbx).1;have:=(s6 by_ hby).1;omega
 have hpre:yfp ((f.move tgt n0).pre.map (·.i))=true:=by rw[hpi];exact yjz hn
 unfold Fact.moves;simp only[zB];refine⟨⟨⟨⟨⟨⟨⟨⟨zN s1,s2⟩,s3⟩,?_⟩,?_⟩,hpre⟩,?_⟩,?_⟩,zN s8⟩
 ·refine List.all_eq_true.2 fun b hb=>?_;have:=(s4 b hb).2;unfold reflB at this;rw[zB]at this;rw[ybcc (s4 b hb).1,zQ];exact List.all_eq_true.2 fun v hv=>by have:=List.all_eq_true.1 this.1 v hv;rw[zB]at this;exact this.2
 ·refine List.all_eq_true.2 fun b hb=>?_;have:=(s6 b hb).2.2;unfold reflB at this;rw[zB]at this;rw[ybcc (s6 b hb).2.1,zQ];exact List.all_eq_true.2 fun v hv=>by have:=List.all_eq_true.1 this.1 v hv;rw[zB]at this;exact this.2
 ·refine List.all_eq_true.2 fun b' hb'=>?_;obtain⟨b,hb,rfl⟩:=List.mem_map.1 hb';have h2:=(s4 b hb).2;have h3:(b.ren (f.rho tgt n0)).i∈(f.move tgt n0).pre.map (·.i):=List.mem_map.2 ⟨_,hb',rfl⟩;rw[hpi]at h3;rw[ybcc (hlt _ h3),zQ];refine yls (ynq hpre _ hb') (yqh h2) ?_;show zO (b.l.map _).length 1000000=true;rw[zM];unfold reflB at h2;rw[zB]at h2;exact h2.2
 ·refine List.all_eq_true.2 fun b' hb'=>?_;obtain⟨b,hb,rfl⟩:=List.mem_map.1 hb';have h2:=(s6 b hb).2.2;refine yls (ynq hqi _ hb') (yqh h2) ?_;show zO (b.l.map _).length 1000000=true;rw[zM];unfold reflB at h2;rw[zB]at h2;exact h2.2
end Ev
end
section
namespace Sh
open Go Ev
def Lies(B:List BlkL)(v:Value)(F:AM)(u:Value):Prop :=
 ∃ρ:Nat->Nat,(∀b∈B,∀c∈B,ρ b.i=ρ c.i->b.i=c.i)/\(∀b∈B,F (ρ b.i)=some (b.ren ρ).blk)/\u=ren1 ρ v
theorem Lies.mono{B:List BlkL}{v:Value}(F G:AM)(u:Value)(h:Le F G)(k:Lies B v F u):Lies B v G u:=by
 obtain⟨ρ,h1,h2,h3⟩:=k;exact⟨ρ,h1,fun b hb=>h _ _ (h2 b hb),h3⟩
def ycuc(B:List BlkL)(j:Nat):Option BlkL:=B.find? fun b=>zG b.i j
def ybrv(p:Nat->Bool):Nat->Bool
 |0=>true
 |n+1=>p n&&ybrv p n
theorem ybcx{p:Nat->Bool}:∀{n:Nat},ybrv p n=true->∀k,k<n->p k=true
 |0,_,k,h=>absurd h (Nat.not_lt_zero k)
 | n+1,h,k,hk=>by
   have h:(p n&&ybrv p n)=true:=h;rw[zB]at h
   by_cases q:k=n
   ·rw[q];exact h.1
   ·exact ybcx h.2 k (by omega)
def yyv(B:List BlkL)(z n:Nat)(row:Nat->List Value->Bool):Value->Bool
 | .slice (some a) m _=>a.spot.isNone&&zG m n&&(match ycuc B a.block with
   |some b=>zG b.z z&&zU (a.off+n*z) b.l.length&&ybrv (fun k=>row k ((b.l.drop (a.off+k*z)).take z)) n
   |none=>false)
 |.slice none 0 0=>zG n 0
 |_=>false
theorem yog {B:List BlkL}{F:AM}{ρ:Nat->Nat}{z n:Nat}{row:Nat->List Value->Bool}{v:Value}{g:Nat->List SV}(hF:∀b∈B,F (ρ b.i)=some (b.ren ρ).blk) (h:yyv B z n row v=true)
 (hr:∀k L,k<n->row k L=true->L.length=z/\RVL F om0 (g k) (L.map (ren2 ρ))/\(g k).all one1=true):RV F om0 (.sl z n g) (ren1 ρ v):=by
 unfold yyv at h;split at h
 ·rename_i a m c
  simp only[zB]at h;obtain⟨⟨h1,h2⟩,h3⟩:=h;split at h3
  ·rename_i b hb
   simp only[zB]at h3;obtain⟨⟨h3,h4⟩,h5⟩:=h3;have hm:m=n:=zK h2;have hz:=zK h3;have h4:=zH h4;have hmem:=List.mem_of_find?_eq_some hb;have hi:b.i=a.block:=zK (List.find?_some (p:=fun b:BlkL=>zG b.i a.block) hb);have h6:=hF b hmem;rw[hi]at h6;show RV F om0 _ (.slice (some (renA ρ a)) m c);rw[yid];subst hm;obtain⟨A,o,sp⟩:=a;have hsp:sp=none:=by simpa using h1
   subst hsp;have h6:F (ρ A)=some (.cells (tOf (b.l.map (ren2 ρ))) (b.l.map (ren2 ρ)).length b.e b.z):=h6;have hrow:∀k,k<m->_:=fun k hk=>hr k _ hk (ybcx h5 k hk);refine .sl (L:=fun k=>((b.l.drop (o+k*z)).take z).map (ren2 ρ)) h6 (.inl hz) (by rw[zM];exact h4) ?_ ?_ (fun k hk=>(hrow k hk).2.1) (fun k hk=>(hrow k hk).2.2)
   ·intro k hk;rw[zM];exact(hrow k hk).1
   ·intro k hk j hj;rw[ych];simp only[List.getElem?_map,List.getElem?_take,List.getElem?_drop,hj,if_true]
  ·cases h3
 ·have h:zG n 0=true:=h;have h0:=zK h;subst h0;exact .sl0 (.inl rfl)
 ·cases h
def isI(v:Value)(n:Int):Bool:=match v with
 |.int .i64 m=>eqInt m n
 |_=>false
def isS(v:Value)(s:ByteArray):Bool:=match v with
 |.string t=>eqBytes t.data.toList s.data.toList
 |_=>false
theorem yne{F:AM}{ρ:Nat->Nat}{v:Value}{n:Int}(h:isI v n=true):RV F om0 (.i .i64 n) (ren2 ρ v):=by
 unfold isI at h;split at h
 ·rw[yoa h];exact .i
 ·cases h
theorem ybvt{F:AM}{ρ:Nat->Nat}{v:Value}{s:ByteArray}(h:isS v s=true):RV F om0 (.a (.string s)) (ren2 ρ v):=by
 unfold isS at h;split at h
 ·rename_i t
  have e:=ymb h
  have:t=s:=by
   cases t;cases s
   congr 1;exact Array.toList_inj.1 e
  rw[this];exact .a rfl
 ·cases h
def ycog(ls:List (Int×Int))(k:Nat):List Value->Bool
 |[x,y]=>isI x (ls.getD k (0,0)).1&&isI y (ls.getD k (0,0)).2
 |_=>false
def ybyn(l:List VarR)(k:Nat):List Value->Bool
 |[s,a,b,c,d,e]=>isS s (l.getD k default).name&&isI a (l.getD k default).kind&&isI b (l.getD k default).lo&&isI c (l.getD k default).hi&&isI d (l.getD k default).perNode&&isI e (l.getD k default).perID
 |_=>false
def yst(B:List BlkL)(ls:List (Int×Int))(v:Value):Bool:=yyv B 2 ls.length (ycog ls) v
def isSl:Value->Bool
 |.slice _ _ _=>true
 |_=>false
def ybno(B:List BlkL)(l:List SetR)(k:Nat):List Value->Bool
 |[a,v]=>isI a (l.getD k default).var&&isSl v&&yst B (l.getD k default).val v
 |_=>false
def yblw(B:List BlkL)(l:List RuleR)(k:Nat):List Value->Bool
 |[s,v,w]=>isS s (l.getD k default).name&&isSl v&&yst B (l.getD k default).guard v&&isSl w&&yyv B 2 (l.getD k default).sets.length (ybno B (l.getD k default).sets) w
 |_=>false
def ybol(B:List BlkL)(v:Value)(l:List VarR):Bool:=yyv B 6 l.length (ybyn l) v
def ybdl(B:List BlkL)(v:Value)(l:List RuleR):Bool:=yyv B 3 l.length (yblw B l) v
section
variable {B:List BlkL}{F:AM}{ρ:Nat->Nat}
theorem yyz{v:Value}(h:isSl v=true):ren2 ρ v=ren1 ρ v:=by
 unfold isSl at h;split at h
 ·rfl
 ·cases h
theorem yqc(hF:∀b∈B,F (ρ b.i)=some (b.ren ρ).blk){ls:List (Int×Int)}{v:Value}(h:yst B ls v=true):RV F om0 (ybd ls) (ren1 ρ v):=by
 refine yog hF h fun k L hk hq=>?_;unfold ycog at hq;split at hq
 ·simp only[zB]at hq;exact⟨rfl,.cons (yne hq.1) (.cons (yne hq.2) .nil),rfl⟩
 ·cases hq
theorem ybfa(hF:∀b∈B,F (ρ b.i)=some (b.ren ρ).blk){l:List VarR}{v:Value}(h:ybol B v l=true):RV F om0 (ydw l) (ren1 ρ v):=by
 refine yog hF h fun k L hk hq=>?_;unfold ybyn at hq;split at hq
 ·simp only[zB]at hq;obtain⟨⟨⟨⟨⟨h1,h2⟩,h3⟩,h4⟩,h5⟩,h6⟩:=hq;exact⟨rfl,.cons (ybvt h1) (.cons (yne h2) (.cons (yne h3) (.cons (yne h4) (.cons (yne h5) (.cons (yne h6) .nil))))),rfl⟩
 ·cases hq
theorem yber(hF:∀b∈B,F (ρ b.i)=some (b.ren ρ).blk){l:List SetR}{v:Value}(h:yyv B 2 l.length (ybno B l) v=true):RV F om0 (ygz l) (ren1 ρ v):=by
 refine yog hF h fun k L hk hq=>?_;unfold ybno at hq;split at hq
 ·simp only[zB]at hq;obtain⟨⟨h1,h2⟩,h3⟩:=hq;refine⟨rfl,.cons (yne h1) (.cons ?_ .nil),rfl⟩;rw[yyz h2];exact yqc hF h3
 ·cases hq
theorem ybaf(hF:∀b∈B,F (ρ b.i)=some (b.ren ρ).blk){l:List RuleR}{v:Value}(h:ybdl B v l=true):RV F om0 (ycq l) (ren1 ρ v):=by
 refine yog hF h fun k L hk hq=>?_;unfold yblw at hq;split at hq
 ·simp only[zB]at hq;obtain⟨⟨⟨⟨h1,h2⟩,h3⟩,h4⟩,h5⟩:=hq;refine⟨rfl,.cons (ybvt h1) (.cons ?_ (.cons ?_ .nil)),rfl⟩
  ·rw[yyz h2];exact yqc hF h3
  ·rw[yyz h4];exact yber hF h5
 ·cases hq
end
structure LaidP(fp:Fact)(t:ByteArray)(p:ProgR)(vv vr:Value)(Bv Br:List BlkL):Prop where
 args:fp.args=[.string t]
 pre:fp.pre=[]
 v:fp.v = .agg #[.string p.name,vv,vr]
 still:fp.still=true
 bv:∀b∈Bv,b∈fp.post
 br:∀b∈Br,b∈fp.post
 vars:ybol Bv vv p.vars=true
 rules:ybdl Br vr p.rules=true
theorem ybus{P:Program}{fp:Fact}{t:ByteArray}{p:ProgR}{vv vr:Value}{Bv Br:List BlkL}(hok:yfb P fp)(h:LaidP fp t p vv vr Bv Br):Returns P fp.g [.a (.string t)] (.ag (yeu (Lies Bv vv) (Lies Br vr) p)):=by
 intro G m us hwf hle hus
 have hu:us=[.string t]:=by
  cases hus with
  |cons a b=>cases a with|a _=>cases b with|nil=>rfl
 subst hu;obtain⟨s1,⟨s2,s3⟩,s4,s5,s6,s7,s8⟩:=yjs h.still;have hmv:=yra (tgt:=[]) (n0:=m.next) hok h.still (by rw[h.pre];rfl) zAM (fun t ht=>by cases ht)
 obtain⟨ρ,hρ⟩:∃ρ,fp.rho [] m.next=ρ:=⟨_,rfl⟩
 have hpost:(fp.move [] m.next).post=fp.post.map (BlkL.ren ρ):=by rw[<-hρ];rfl
 have hv:(fp.move [] m.next).v = .agg #[.string p.name,ren1 ρ vv,ren1 ρ vr]:=by
  show renV (fp.rho [] m.next) fp.v=_
  rw[hρ,h.v];rfl
 have hpre:(fp.move [] m.next).pre=[]:=by
  show fp.pre.map _=[];rw[h.pre];rfl
 have hfit:(fp.move [] m.next).fits fp.g [.string t] m=true:=by
  unfold Fact.fits;rw[hpre];show(zG fp.g fp.g&&zG m.next m.next&&eqL2 (fp.args.map (ren2 _)) [.string t]&&true)=true
  rw[zF,zF,h.args];show(true&&true&&(eqBytes t.data.toList t.data.toList&&true)&&true)=true;rw[ymm];rfl
 have hri:∀b∈fp.post,ρ b.i=b.i-fp.next0+m.next:=fun b hb=>by rw[<-hρ];exact ybdf (s6 b hb).1 (s6 b hb).2.1
 have hnd:yfp ((fp.post.map (BlkL.ren ρ)).map (·.i))=true:=by
  refine yjz ?_
  have e:(fp.post.map (BlkL.ren ρ)).map (·.i)=(fp.post.map (·.i)).map (fun i=>i-fp.next0+m.next):=by
   rw[zT,zT];refine zJ fun b hb=>?_;show(b.ren ρ).i=_;rw[b.yhz,hri b hb];rfl
  rw[e];unfold List.Nodup at s7 ⊢;rw[zX];refine List.Pairwise.imp_of_mem (fun {x y} hx hy h=>?_) s7;obtain⟨bx,hbx,rfl⟩:=List.mem_map.1 hx;obtain⟨by_,hby,rfl⟩:=List.mem_map.1 hy;have:=(s6 bx hbx).1;have:=(s6 by_ hby).1;omega
 have hs:=yuj hmv hfit;unfold Fact.out at hs;rw[hv,hpre,hpost]at hs;refine⟨_,_,_,hs,zAC _,?_,rfl,?_⟩
 ·intro i b hb;show(blksT m.b (fp.post.map (BlkL.ren ρ))).get i=some b;rw[ypx fun c hc=>?_]
  ·exact hb
  ·obtain⟨c,hc',rfl⟩:=List.mem_map.1 hc;have:=hwf i b hb;rw[c.yhz,hri c hc'];omega
 ·have hF:∀b∈fp.post,frsh m.next ⟨(fp.move [] m.next).next1,blksT m.b (fp.post.map (BlkL.ren ρ)),(fp.move [] m.next).low⟩ G (ρ b.i)=some (b.ren ρ).blk:=fun b hb=>by
   unfold frsh;rw[if_pos (by rw[hri b hb];omega)]
   have:=ynq (t:=m.b) hnd _ (List.mem_map.2 ⟨b,hb,rfl⟩);rw[b.yhz]at this;exact this
  have hinj:∀b∈fp.post,∀c∈fp.post,ρ b.i=ρ c.i->b.i=c.i:=fun b hb c hc e=>by
   rw[hri b hb,hri c hc]at e;have:=(s6 b hb).1;have:=(s6 c hc).1;omega
  refine .ag (.cons (.a rfl) (.cons (.ex ?_ (fun A B w=>Lies.mono A B w) ?_) (.cons (.ex ?_ (fun A B w=>Lies.mono A B w) ?_) .nil)))
  ·exact⟨ρ,fun b hb c hc=>hinj b (h.bv b hb) c (h.bv c hc),fun b hb=>hF b (h.bv b hb),rfl⟩
  ·exact ybfa (fun b hb=>hF b (h.bv b hb)) h.vars
  ·exact⟨ρ,fun b hb c hc=>hinj b (h.br b hb) c (h.br c hc),fun b hb=>hF b (h.br b hb),rfl⟩
  ·exact ybaf (fun b hb=>hF b (h.br b hb)) h.rules
def inB(B:List BlkL):Value->Bool
 |.slice (some a) _ _=>(B.map (·.i)).elem a.block
 |.pointer (some a)=>(B.map (·.i)).elem a.block
 |.agg _=>false
 |.func _ _ _=>false
 |_=>true
theorem ygq{B:List BlkL}{ρ σ:Nat->Nat}(h:∀b∈B,ρ b.i=σ b.i){v:Value}(hv:inB B v=true):ren1 ρ v=ren1 σ v:=by
 have hk:∀j,(B.map (·.i)).elem j=true->ρ j=σ j:=fun j hj=>by
  have:j∈B.map (·.i):=by simpa using hj
  obtain⟨b,hb,rfl⟩:=List.mem_map.1 this;exact h b hb
 cases v with
 | slice p n c=>cases p with
   |none=>rfl
   | some a =>
     show Value.slice (some (renA ρ a)) n c = .slice (some (renA σ a)) n c;rw[yid,yid,hk _ hv]
 | pointer p=>cases p with
   |none=>rfl
   | some a =>
     show Value.pointer (some (renA ρ a)) = .pointer (some (renA σ a));rw[yid,yid,hk _ hv]
 |agg a=>cases hv
 |func f a c=>cases hv
 |_=>rfl
theorem ybck{B:List BlkL}{τ:Nat->Nat}{v:Value}(hv:inB B v=true):ren2 τ v=ren1 τ v:=by
 cases v with
 |agg a=>cases hv
 |func f a c=>cases hv
 |_=>rfl
theorem ybeh{B:List BlkL}{ρ σ:Nat->Nat}(h:∀b∈B,ρ b.i=σ b.i){v:Value}(hv:inB B v=true):ren2 ρ v=ren2 σ v:=by
 rw[ybck hv,ybck hv];exact ygq h hv
def yzf(B:List BlkL):Bool:=B.all fun b=>b.l.all (inB B)
theorem yyj{B:List BlkL}{ρ σ:Nat->Nat}(hc:yzf B=true)(h:∀b∈B,ρ b.i=σ b.i){b:BlkL}(hb:b∈B):b.ren ρ=b.ren σ:=by
 have h1:=List.all_eq_true.1 (List.all_eq_true.1 hc b hb)
 have e:∀τ:Nat->Nat,b.ren τ=⟨τ b.i,b.e,b.z,b.l.map (ren2 τ)⟩:=fun τ=>by
  unfold BlkL.ren;rw[ybg]
 rw[e,e,h b hb];congr 1;exact zJ fun v hv=>ybeh h (h1 v hv)
theorem ysp{low:Nat}:∀{l:List BlkL}{t:T ABlk},(∀b∈l,b.i<low)->dropT t low l=t
 |[],_,_=>rfl
 | b :: l,t,h=>by
   have hb:=h b zAH;unfold dropT
   have e:zU low b.i=false:=by
    cases q:zU low b.i with
    |false=>rfl
    |true=>have:=zH q;omega
   rw[e,yba,if_neg (by simp)]
   exact ysp fun c hc=>h c (zAE _ hc)
structure GoodV(fv:Fact)(p:ProgR)(vv vr:Value)(Bv Br:List BlkL):Prop where
 args:fv.args=[.agg #[.string p.name,vv,vr]]
 pre:∀b∈fv.pre,b∈Bv\/b∈Br
 bv:∀b∈Bv,b∈fv.pre
 br:∀b∈Br,b∈fv.pre
 v:fv.v = .bool true
 post:fv.post=[]
 still:fv.still=true
 apart:(Bv.all fun b=>Br.all fun c=>!(zG b.e c.e) && !(zG b.i c.i))=true
 cv:yzf Bv=true
 cr:yzf Br=true
 iv:inB Bv vv=true
 ir:inB Br vr=true
 refl:eq2 (.agg #[.string p.name,vv,vr]) (.agg #[.string p.name,vv,vr])=true
theorem ybsf{P:Program}{fv:Fact}{p:ProgR}{vv vr:Value}{Bv Br:List BlkL}(hok:yfb P fv)(h:GoodV fv p vv vr Bv Br):Returns P fv.g [.ag (yeu (Lies Bv vv) (Lies Br vr) p)] (.b true):=by
 intro G m us hwf hle hus
 obtain⟨ρ1,ρ2,hu,a1,a2,a3,a4⟩:∃ρ1 ρ2:Nat->Nat,us=[.agg #[.string p.name,ren1 ρ1 vv,ren1 ρ2 vr]]/\(∀b∈Bv,∀c∈Bv,ρ1 b.i=ρ1 c.i->b.i=c.i)/\(∀b∈Bv,G (ρ1 b.i)=some (b.ren ρ1).blk) /\
  (∀b∈Br,∀c∈Br,ρ2 b.i=ρ2 c.i->b.i=c.i)/\∀b∈Br,G (ρ2 b.i)=some (b.ren ρ2).blk:=by
  cases hus with
  | cons a b =>
    cases b
    cases a with
    | ag hl =>
      cases hl with
      | cons x1 hl =>
        cases x1
        cases hl with
        | cons x2 hl =>
          cases x2 with
          | ex q2 _ _ =>
            cases hl with
            | cons x3 hl =>
              cases x3 with
              | ex q3 _ _ =>
                cases hl
                obtain⟨ρ1,b1,b2,rfl⟩:=q2;obtain⟨ρ2,b3,b4,rfl⟩:=q3;exact⟨ρ1,ρ2,rfl,b1,b2,b3,b4⟩
 subst hu;obtain⟨s1,⟨s2,s3⟩,s4,s5,s6,s7,s8⟩:=yjs h.still
 have hap:∀b∈Bv,∀c∈Br,b.e≠c.e/\b.i≠c.i:=fun b hb c hc=>by
  have:=List.all_eq_true.1 (List.all_eq_true.1 h.apart b hb) c hc;simp only[zB,zW]at this;exact⟨fun e=>(by rw[e,zF]at this;exact absurd this.1 (by decide)),fun e=>(by rw[e,zF]at this;exact absurd this.2 (by decide))⟩
 let σ:Nat->Nat:=fun i=>if (Bv.map (·.i)).elem i then ρ1 i else ρ2 i
 have hcross:∀b∈Bv,∀c∈Br,ρ1 b.i≠ρ2 c.i:=fun b hb c hc e=>by
  have e1:=a2 b hb;have e2:=a4 c hc;rw[e,e2]at e1
  injection e1 with e1
  unfold BlkL.blk at e1
  injection e1 with _ _ e3 _
  exact(hap b hb c hc).1 e3.symm
 have hG:∀i b,G i=some b->i<m.next:=fun i b hb=>hwf i b (hle i b hb)
 have sv:∀b∈Bv,σ b.i=ρ1 b.i:=fun b hb=>if_pos (by simpa using⟨b,hb,rfl⟩)
 have sr:∀b∈Br,σ b.i=ρ2 b.i:=fun b hb=>by
  refine if_neg fun q=>?_;have:b.i∈Bv.map (·.i):=by simpa using q
  obtain⟨d,hd,hdi⟩:=List.mem_map.1 this;exact(hap d hd b hb).2 hdi
 have tgtLt:∀b∈fv.pre,σ b.i<m.next:=fun b hb=>by
  rcases h.pre b hb with q|q
  ·rw[sv b q];exact hG _ _ (a2 b q)
  ·rw[sr b q];exact hG _ _ (a4 b q)
 have sinj:∀b∈fv.pre,∀c∈fv.pre,σ b.i=σ c.i->b.i=c.i:=fun b hb c hc e=>by
  rcases h.pre b hb with q|q<;>rcases h.pre c hc with q'|q'
  ·rw[sv b q,sv c q']at e;exact a1 b q c q' e
  ·rw[sv b q,sr c q']at e;exact absurd e (hcross b q c q')
  ·rw[sr b q,sv c q']at e;exact absurd e.symm (hcross c q' b q)
  ·rw[sr b q,sr c q']at e;exact a3 b q c q' e
 obtain⟨tgt,htgt⟩:∃t,fv.pre.map (fun b=>σ b.i)=t:=⟨_,rfl⟩
 have tlt:∀t∈tgt,t<m.next:=fun t ht=>by
  rw[<-htgt]at ht;obtain⟨b,hb,rfl⟩:=List.mem_map.1 ht;exact tgtLt b hb
 have tnd:tgt.Nodup:=by
  rw[<-htgt];have s5:=s5;unfold List.Nodup at s5 ⊢;rw[zX]at s5 ⊢;exact List.Pairwise.imp_of_mem (fun {x y} hx hy h e=>h (sinj x hx y hy e)) s5
 have tlen:fv.pre.length=tgt.length:=by rw[<-htgt,zM]
 have hmv:=yra (n0:=m.next) hok h.still tlen tnd tlt
 have hrho:=ybiq (n0:=m.next) s4 s5 tlen
 obtain⟨ρ,hρ⟩:∃ρ,fv.rho tgt m.next=ρ:=⟨_,rfl⟩
 rw[hρ,<-htgt]at hrho;have hri:∀b∈fv.pre,ρ b.i=σ b.i:=List.map_inj_left.1 hrho;have hv1:∀b∈Bv,ρ b.i=ρ1 b.i:=fun b hb=>by rw[hri b (h.bv b hb),sv b hb]
 have hr1:∀b∈Br,ρ b.i=ρ2 b.i:=fun b hb=>by rw[hri b (h.br b hb),sr b hb]
 have hargs:(fv.move tgt m.next).args=[.agg #[.string p.name,ren1 ρ1 vv,ren1 ρ2 vr]]:=by
  show fv.args.map (ren2 (fv.rho tgt m.next))=_
  rw[hρ,h.args,<-ygq hv1 h.iv,<-ygq hr1 h.ir];rfl
 have hself:eqL2 [.agg #[.string p.name,ren1 ρ1 vv,ren1 ρ2 vr]] [.agg #[.string p.name,ren1 ρ1 vv,ren1 ρ2 vr]]=true:=by
  have hf:yjc (.agg #[.string p.name,vv,vr])=true:=by
   have:=s2;rw[h.args]at this
   simpa using this
  have e:=ybhq (ρ:=ρ) hf h.refl;rw[show ren2 ρ (.agg #[.string p.name,vv,vr]) = .agg #[.string p.name,ren1 ρ vv,ren1 ρ vr]from rfl,ygq hv1 h.iv,ygq hr1 h.ir]at e
  show(eq2 _ _&&true)=true;rw[e];rfl
 have hpre:∀b∈fv.pre,m.b.get (ρ b.i)=some (b.ren ρ).blk:=fun b hb=>by
  rcases h.pre b hb with q|q
  ·rw[yyj h.cv hv1 q,hv1 b q];exact hle _ _ (a2 b q)
  ·rw[yyj h.cr hr1 q,hr1 b q];exact hle _ _ (a4 b q)
 have hp:(fv.move tgt m.next).pre=fv.pre.map (BlkL.ren ρ):=by rw[<-hρ];rfl
 have hfit:(fv.move tgt m.next).fits fv.g [.agg #[.string p.name,ren1 ρ1 vv,ren1 ρ2 vr]] m=true:=by
  unfold Fact.fits;rw[hargs,hself];show(zG fv.g fv.g&&zG m.next m.next&&true&&(fv.move tgt m.next).pre.all (blkIs m))=true
  rw[zF,zF,hp];show List.all _ _=true;refine List.all_eq_true.2 fun b' hb'=>?_;obtain⟨b,hb,rfl⟩:=List.mem_map.1 hb';have h2:=(s4 b hb).2;refine yls ?_ (yqh h2) ?_
  ·rw[b.yhz];exact hpre b hb
  ·show zO (b.l.map _).length 1000000=true;rw[zM];unfold reflB at h2;rw[zB]at h2;exact h2.2
 have hs:=yuj hmv hfit;unfold Fact.out at hs
 have hv:(fv.move tgt m.next).v = .bool true:=by
  show renV (fv.rho tgt m.next) fv.v=_
  rw[h.v];rfl
 have hpost:(fv.move tgt m.next).post=[]:=by
  show fv.post.map _=[];rw[h.post];rfl
 rw[hv,hpost]at hs;refine⟨_,_,_,hs,zAC _,?_,rfl,.b⟩;intro i b hb;show(dropT m.b m.next (fv.move tgt m.next).pre).get i=some b
 rw[ysp fun c hc=>?_]
 ·exact hb
 ·rw[hp]at hc;obtain⟨c,hc',rfl⟩:=List.mem_map.1 hc;rw[c.yhz,hri c hc'];exact tgtLt c hc'
end Sh
end
section
namespace Sh
open Go Ev
def KqP:ProgT:=ybq (by8 [99,111,108,111,117,114,105,110,103]) (by8 [99]) (by8 [102,105,120])
def Kqt:ByteArray:=ybdp
def Kqv:Value:=.slice (some ⟨228,0,none⟩) 1 CU
def Kqr:Value:=.slice (some ⟨321,0,none⟩) 1 CU
def KqB:List BlkL:=yoi.post.take 1
def KqC:List BlkL:=yoi.post.drop 1
theorem ybfk:Returns zI 18 [.a (.string Kqt)] (.ag (yeu (Lies KqB Kqv) (Lies KqC Kqr) KqP.raw)) :=
 ybus (fp:=yoi) (ycb.at_ ybcy 0 rfl) ⟨rfl,rfl,rfl,by kernel_rfl,fun _ h=>zAF h,fun _ h=>zAG h,by kernel_rfl,by kernel_rfl⟩
theorem ycnw:ybon.pre=yoi.post:=rfl
theorem ybts:Returns zI 130 [.ag (yeu (Lies KqB Kqv) (Lies KqC Kqr) KqP.raw)] (.b true) :=
 ybsf (fv:=ybon) (ycb.at_ ybun 0 rfl) ⟨rfl,fun b h=>by
  rw[ycnw,<-List.take_append_drop 1 yoi.post]at h;exact List.mem_append.1 h,fun _ h=>zAF h,fun _ h=>zAG h,rfl,rfl,by kernel_rfl,by kernel_rfl,by kernel_rfl,by kernel_rfl,by kernel_rfl,by kernel_rfl,by kernel_rfl⟩
theorem ycjt:KqP.ok=true:=by kernel_rfl
end Sh
end
section
namespace Sh
open Go Ev
end Sh
end
section
structure LdC(g:Gr)(c:Conf):Prop where
 len:c.length=g.ids.length
 row:∀v,v<g.ids.length->(c.getD v []).length=3/\(0<=(c.getD v []).getD 0 0/\(c.getD v []).getD 0 0<=ybah g)/\(0<=(c.getD v []).getD 1 0/\(c.getD v []).getD 1 0<g.ids.length)/\(-1<=(c.getD v []).getD 2 0/\(c.getD v []).getD 2 0<(g.ports.getD v []).length)
section
variable {nm nl nd np no nj:ByteArray}{g:Gr}{c:Conf}{v:Nat}
theorem LdC.link(h:LdC g c)(hg:ybc g)(hv:v<g.ids.length){l:Int×Int}(hl:l∈g.ports.getD v []):0<=l.1/\l.1.toNat<g.ids.length/\adj g v l.1.toNat/\(0<=endP c 0 l/\endP c 0 l<=ybah g)/\(0<=endP c 1 l/\endP c 1 l<g.ids.length):=by
 have hpl:=hg.2.2.1;obtain⟨h1,h2,h3,_⟩:=ylc hg (by omega) hl
 have h4:=h.row l.1.toNat (by omega)
 exact⟨h1,by omega,h3,h4.2.1,h4.2.2.1⟩
end
end
section
section
variable {nm nl nd np no nj:ByteArray}{g:Gr}{c:Conf}{v:Nat}
end
end
section
section
variable {nm nl nd np no nj:ByteArray}{g:Gr}{c:Conf}{v:Nat}
end
end
section
namespace Sh
open Ev Go.RowKit
theorem ytq{v:Nat}(h:v<2^32):IntKind.wrap .u64 (v:Int)=v:=by
 unfold IntKind.wrap;simp[IntKind.bits,IntKind.signed];omega
end Sh
end
section
namespace Sh
open Ev Go.RowKit
theorem ycen{s v:Nat}(hs:s<2^32)(hv:v<32):Returns zI 20 [.i .u32 s,.i .i64 v] (.b (s.testBit v)):=by
 refine Returns.of (ycnv _ _ ?_);have t1:decide ((v:Int)>=0)=true:=decide_eq_true (by omega)
 have t2:decide ((v:Int)<32)=true:=decide_eq_true (by omega)
 have ht:=ybdg (s:=s) (v:=v) hs;simp only[IntKind.bits]at ht;have e:((((s>>>v&&&1:Nat):Int))==1)=s.testBit v:=by rw[zAK,beq_iff_eq];exact yox
 simp only[c20,ycls,ycns,t1,t2,clash,ytq (show v<2^32 by omega),ht,e,go_sem,zA,zC,↓reduceIte,reduceCtorEq]
 exact⟨⟨by omega,by show(v:Int)<((32:Nat):Int);omega⟩,Sim.refl _⟩
theorem ybma{Q1 Q2:(Nat->Option ABlk)->Value->Prop}{p:ProgT}{g:Gr}(h:Checked Q1 Q2 p g){c:Conf}(hc:yhs p g c=true){s:Nat}(h0:s≠0)(hs:s<2^32)(hen:subB s (ybu p g c)) :
 Returns zI 22 [.ag (yeu Q1 Q2 p.raw),grV g,ybk c,.i .u32 s] (.tp [ybk (yia p g c s),.i .i64 0]):=by
 refine Returns.of (ycot _ _ ?_);have hp':=h.hp;unfold ProgT.ok at hp';simp only[zB,decide_eq_true_eq]at hp';have hC:=ybof h c;rw[hc]at hC;have hcin:=yty h.hg h.hp hc;have hN:=yvd p.raw h.hg hp'.1.1.2 hp'.1.1.1.2;have hE:=yvz p h.hg h.hp hcin;have hS:=ybtk p h.hg h.hp hcin hs hen;have hlt:=zV (ychj p g c) (zAD (show 0<2 by omega) (show g.ids.length<=24 by have:=h.hg.2.1;have:=h.hg.2.2.1;omega))
 have z0:((s:Int)==0)=false:=by simp;omega
 have a0:=u32_andNot (a:=s) (b:=ybu p g c) hs (by omega)
 rw[ybss hen]at a0;simp only[Int.natCast_zero,IntKind.bits]at a0;simp only[yeu,grV]at hC hN;simp only[c22,ycnk,ycop,yeu,grV,clash,go_sem,zA,zC,zS,↓reduceIte,reduceCtorEq];refine hC.use ?_;simp only[ybe,ycml,ycoh,zAP,clash,go_sem,zA,zC,↓reduceIte,reduceCtorEq];refine hN.useS ?_ ?_
 ·exact⟨yyi ⟨Sim.refl _,ybcl _ _,ybcl _ _,trivial⟩,Sim.refl _,trivial⟩
 simp only[ybe,ycqm,z0,clash,go_sem,zA,zC,↓reduceIte,reduceCtorEq];refine hE.use ?_;simp only[ybe,a0,zAP,ycqq,clash,go_sem,zA,zC,↓reduceIte,reduceCtorEq];refine hS.use ?_;simp only[go_sem];exact Sim.refl _
end Sh
end
section
abbrev Ptr:=Nat->Option Nat
def Mt(p:Ptr)(x:Nat):Prop:=∃y,p x=some y/\p y=some x
inductive Mv (g:Gr) (p:Ptr) (v:Nat):Option Nat->Prop
 |accept (u:Nat):p v=none->adj g v u->p u=some v->Mv g p v (some u)
 |propose (u:Nat):p v=none->adj g v u->p u=none->(∀x,adj g v x->p x≠some v)->Mv g p v (some u)
 |withdraw (u w:Nat):p v=some u->p u=some w->w≠v->Mv g p v none
structure PtI(g:Gr)(p:Ptr)(I:Nat->Prop):Prop where
 nb:∀v u,p v=some u->adj g v u
 fresh:∀v u,p v=some u->¬I v->p u=none\/p u=some v\/Mt p u
open Classical in
noncomputable def lv(A B C:Prop):Nat:=if A then 0 else if B then 1 else if C then 0 else 2
noncomputable def lft(p:Ptr)(I:Nat->Prop)(u v:Nat):Nat:=lv (p u=some v/\p v=some u) ((p u=some v/\¬I u)\/(p v=some u/\¬I v)) (Mt p u\/Mt p v)
section
variable {g:Gr}{p:Ptr}{I:Nat->Prop}{v:Nat}{t:Option Nat}
end
end
section
section
variable {g:Gr}{p:Ptr}{I:Nat->Prop}{v:Nat}{t:Option Nat}
end
open Classical in
noncomputable def oldN(g:Gr)(p:Ptr)(I:Nat->Prop):Nat:=((zAL g.ports.length).map fun x=>if I x/\p x≠none then 1 else 0).sum
open Classical in
noncomputable def lftN(g:Gr)(p:Ptr)(I:Nat->Prop):Nat:=((zAL g.ports.length).map fun x=>((g.ports.getD x []).map fun l=>lft p I x l.1.toNat).sum).sum
open Classical in
end
section
section
variable {g:Gr}{p:Ptr}{I:Nat->Prop}{v w:Nat}{t t':Option Nat}
noncomputable def potN(g:Gr)(p:Ptr)(I:Nat->Prop):Nat:=2*oldN g p I+lftN g p I
open Classical in
end
end
section
def ycci:Ex:=.bin 35 (eQ 0) (.leaf 17 0)
def ybxu:Ex:=.bin 35 (eQ 0) ybhx
def ycsd:Ex:=.bin 41 (.bin 41 (.bin 35 (.leaf 11 0) (eVar 0)) (.bin 36 (eQ 0) ybhx)) (.bin 36 (eQ 0) (.leaf 17 0))
def ycri(nm p a b w:ByteArray):ProgT:=⟨nm,[⟨p,3,0,0,0,0⟩],[⟨a,.bin 41 (.bin 35 (eVar 0) ybhx) (.agg 21 ycci),[(0,.agg 23 ycci)]⟩,⟨b,.bin 41 (.bin 35 (eVar 0) ybhx) (.agg 21 ybxu),[(0,.agg 23 ybxu)]⟩,⟨w,.agg 21 ycsd,[(0,ybhx)]⟩]⟩
def pAt(c:Conf)(v:Nat):Int:=(c.getD v []).getD 0 0
def toP(g:Gr)(c:Conf):Ptr:=fun v=>if v<g.ports.length/\0<=pAt c v then some ((g.ports.getD v []).getD (pAt c v).toNat (0,0)).1.toNat else none
structure MtC(g:Gr)(c:Conf):Prop where
 len:c.length=g.ids.length
 row:∀v,v<g.ids.length->(c.getD v []).length=1/\(-1<=pAt c v/\pAt c v<(g.ports.getD v []).length)
section
variable {nm np na nb nw:ByteArray}{g:Gr}{c:Conf}{u v s:Nat}
end
end
section
namespace Sh
theorem ybbw(S:Sys)(res:Nat->Nat->Nat):∀(ws:List Nat) (c:Conf) (k:Cnt),(S.run res ws c k).length<ws.length->S.en (((c,k)::S.run res ws c k).getD (S.run res ws c k).length default).1=0
 |[],c,k,h=>by simp at h
 | w :: ws,c,k,h=>by
   unfold Sys.run at h ⊢
   by_cases h0:S.en c=0
   ·simp only[if_pos h0];exact h0
   ·simp only[if_neg h0,zZ]at h ⊢;exact ybbw S res ws _ _ (by omega)
theorem RunD.over{S:Sys}{res:Nat->Nat->Nat}{ws:List Nat}{c:Conf}{n:Nat}{Cs:List Conf}{Ks:List Cnt}(h:RunD S res ws c n Cs Ks):S.en (Cs.getD (n-1) [])=0\/n=ws.length+1:=by
 by_cases q:n=ws.length+1
 ·exact .inr q
 ·left
  have hl:=h.len;have h1:=h.le
  have h2:=ybbw S res ws c (ygc (S.en c)) (by
   simp only[Sys.runs,zZ]at hl;omega)
  have e:(S.run res ws c (ygc (S.en c))).length=n-1:=by simp only[Sys.runs,zZ]at hl;omega
  rw[e]at h2;have h3:=(h.at_ (show n-1<n by have:=h.pos;omega)).2
  have e2:((c,ygc (S.en c))::S.run res ws c (ygc (S.en c))).getD (n-1) default=(Cs.getD (n-1) [],Ks.getD (n-1) default):=by
   rw[List.getD_eq_getElem?_getD];have h3:((c,ygc (S.en c))::S.run res ws c (ygc (S.en c)))[n-1]?=some (Cs.getD (n-1) [],Ks.getD (n-1) default):=h3;rw[h3];rfl
  rw[e2]at h2;exact h2
end Sh
end
section
section
variable {nm np na nb nw:ByteArray}{g:Gr}{c:Conf}{u v s:Nat}
end
end
section
section
variable {nm np na nb nw:ByteArray}{g:Gr}{c:Conf}{u v s:Nat}
def ycuq(g:Gr)(s:Nat):List Nat:=(zAL g.ids.length).filter s.testBit
structure MtJ(nm np na nb nw:ByteArray)(g:Gr)(c:Conf)(k:Cnt):Prop where
 valid:yhs (ycri nm np na nb nw) g c=true
 moves:∃I,PtI g (toP g c) I/\2*k.moves+potN g (toP g c) I<=2*g.ports.length+2*ype g
end
end
section
def allC(g:Gr)(x:Int):Conf:=List.replicate g.ids.length [x]
section
variable {nm np na nb nw:ByteArray}{g:Gr}{c:Conf}{u v s:Nat}{x:Int}
theorem yblu(hv:v<g.ids.length):(allC g x).getD v []=[x]:=by
 unfold allC;rw[Sh.getD_at (by simpa using hv),List.getElem_replicate]
end
end
end Go.Proofs.YtiejahgklcjhkaaGreat
