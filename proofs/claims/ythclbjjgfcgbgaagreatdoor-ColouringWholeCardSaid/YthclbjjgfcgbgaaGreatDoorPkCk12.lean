/- Joined. -/
import Derived.Test.YthclbjjgfcgbgaaGreatDoorPkCk11
set_option linter.unusedSimpArgs false
set_option linter.unusedVariables false
set_option maxRecDepth 8000
open Nat renaming reduceEqDiff->zA,reduceAdd->zB,reduceLeDiff->zD,reduceLT->zG,zero_le->zM,testBit_lt_two_pow->zQ,pow_le_pow_right->zS,lt_of_lt_of_le->zU,lt_pow_two_of_testBit->zY,le_refl->zAD,mul_le_mul->zAH
open Bool renaming and_eq_true->zC
open Go.Proofs.Tryz renaming prog->zF,func89->zAC,ntmps89->zAI
open Go.Lib renaming hid->zH
open List renaming take_succ_eq_append_getElem->zI,getElem?_eq_getElem->zK,take_of_length_le->zL,eq_nil_of_length_eq_zero->zN,length_append->zT,findIdx?_eq_none_iff->zV,range->zW,drop_eq_getElem_cons->zX,getElem_mem->zZ,getD->zAA,foldl_append->zAB,elem_eq_mem->zAE,length_map->zAF,length->zAJ
open Int renaming natCast_zero->zJ,natAbs_mul->zAG
open Classical renaming byContradiction->zO
open Go
namespace Go.Proofs.YthclbjjgfcgbgaaGreatDoor
section
namespace Sh
open Go Ev
def varC(x:VarR):List SV:=[.a (.string x.name),.i .i64 x.kind,.i .i64 x.lo,.i .i64 x.hi,.i .i64 x.perNode,.i .i64 x.perID]
def yer(l:List VarR):SV:=.sl 6 l.length (fun k=>varC (l.getD k default))
def yij(l:List SetR):SV:=.sl 2 l.length (fun k=>[.i .i64 (l.getD k default).var,ybb (l.getD k default).val])
def ydf(l:List RuleR):SV:=.sl 3 l.length (fun k=>[.a (.string (l.getD k default).name),ybb (l.getD k default).guard,yij (l.getD k default).sets])
def yma(p:ProgR):List SV:=[.a (.string p.name),yer p.vars,ydf p.rules]
def ydx(g:Gr):SV:=.sl 1 g.ports.length (fun v=>[ybc (yka g v)])
def ygi(p:ProgR)(g:Gr):List SV:=[.a (.string p.name),yer p.vars,ydf p.rules,ybc g.ids,yu g.ports,.i .i64 (ybmh g),ydx g]
def yjj(p:ProgR)(g:Gr)(c:Conf)(v:Nat)(e:List Tm):List SV:=[.rf (ygi p g),ycm c,.i .i64 v,ybb e]
theorem yboz(l:List Int):one1 (ybc l)=true:=rfl
theorem ybig{n:Nat}(l:List Int):owned (n+1) (ybc l)=false:=rfl
theorem ybdo{n:Nat}(l:List Int):scalar (n+1) (ybc l)=false:=rfl
theorem ybpb{n:Nat}(o:Own)(l:List Int):view o (n+1) (ybc l)=ybc l:=rfl
theorem ybvo{n:Nat}(o:Own)(l:List Int):vok o (n+1) (ybc l)=True:=rfl
theorem ybrr{n:Nat}(h:Nm->Nm)(l:List Int):ren h (n+1) (ybc l)=ybc l:=rfl
theorem ybss{n:Nat}(L:Nm->Bool)(l:List Int):cln L (n+1) (ybc l)=true:=rfl
theorem ybfx(l:List (Int×Int)):one1 (ybb l)=true:=rfl
theorem ybbo{n:Nat}(l:List (Int×Int)):owned (n+1) (ybb l)=false:=rfl
theorem yxt{n:Nat}(l:List (Int×Int)):scalar (n+1) (ybb l)=false:=rfl
theorem ybeo{n:Nat}(o:Own)(l:List (Int×Int)):view o (n+1) (ybb l)=ybb l:=rfl
theorem ybph{n:Nat}(o:Own)(l:List (Int×Int)):vok o (n+1) (ybb l)=True:=rfl
theorem ybnm{n:Nat}(h:Nm->Nm)(l:List (Int×Int)):ren h (n+1) (ybb l)=ybb l:=rfl
theorem ybom{n:Nat}(L:Nm->Bool)(l:List (Int×Int)):cln L (n+1) (ybb l)=true:=rfl
theorem ybhv(l:List (List (Int×Int))):one1 (yu l)=true:=rfl
theorem ybbt{n:Nat}(l:List (List (Int×Int))):owned (n+1) (yu l)=false:=rfl
theorem yxz{n:Nat}(l:List (List (Int×Int))):scalar (n+1) (yu l)=false:=rfl
theorem ybeu{n:Nat}(o:Own)(l:List (List (Int×Int))):view o (n+1) (yu l)=yu l:=rfl
theorem ybor{n:Nat}(o:Own)(l:List (List (Int×Int))):vok o (n+1) (yu l)=True:=rfl
theorem ybms{n:Nat}(h:Nm->Nm)(l:List (List (Int×Int))):ren h (n+1) (yu l)=yu l:=rfl
theorem ybop{n:Nat}(L:Nm->Bool)(l:List (List (Int×Int))):cln L (n+1) (yu l)=true:=rfl
theorem ybnl(l:List (List Int)):one1 (ycm l)=true:=rfl
theorem ybgo{n:Nat}(l:List (List Int)):owned (n+1) (ycm l)=false:=rfl
theorem ybcr{n:Nat}(l:List (List Int)):scalar (n+1) (ycm l)=false:=rfl
theorem ybpq{n:Nat}(o:Own)(l:List (List Int)):view o (n+1) (ycm l)=ycm l:=rfl
theorem ycbw{n:Nat}(o:Own)(l:List (List Int)):vok o (n+1) (ycm l)=True:=rfl
theorem ybwx{n:Nat}(h:Nm->Nm)(l:List (List Int)):ren h (n+1) (ycm l)=ycm l:=rfl
theorem ybrt{n:Nat}(L:Nm->Bool)(l:List (List Int)):cln L (n+1) (ycm l)=true:=rfl
theorem ybpf(l:List VarR):one1 (yer l)=true:=rfl
theorem ybet{n:Nat}(l:List VarR):owned (n+1) (yer l)=false:=rfl
theorem ybdw{n:Nat}(l:List VarR):scalar (n+1) (yer l)=false:=rfl
theorem ybof{n:Nat}(o:Own)(l:List VarR):view o (n+1) (yer l)=yer l:=rfl
theorem ybtz{n:Nat}(o:Own)(l:List VarR):vok o (n+1) (yer l)=True:=rfl
theorem ybtw{n:Nat}(h:Nm->Nm)(l:List VarR):ren h (n+1) (yer l)=yer l:=rfl
theorem ybti{n:Nat}(L:Nm->Bool)(l:List VarR):cln L (n+1) (yer l)=true:=rfl
theorem ybni(l:List SetR):one1 (yij l)=true:=rfl
theorem ybgm{n:Nat}(l:List SetR):owned (n+1) (yij l)=false:=rfl
theorem ybaz{n:Nat}(l:List SetR):scalar (n+1) (yij l)=false:=rfl
theorem ybnp{n:Nat}(o:Own)(l:List SetR):view o (n+1) (yij l)=yij l:=rfl
theorem ybxi{n:Nat}(o:Own)(l:List SetR):vok o (n+1) (yij l)=True:=rfl
theorem ybud{n:Nat}(h:Nm->Nm)(l:List SetR):ren h (n+1) (yij l)=yij l:=rfl
theorem ybwu{n:Nat}(L:Nm->Bool)(l:List SetR):cln L (n+1) (yij l)=true:=rfl
theorem ybhb(l:List RuleR):one1 (ydf l)=true:=rfl
theorem ybas{n:Nat}(l:List RuleR):owned (n+1) (ydf l)=false:=rfl
theorem yyk{n:Nat}(l:List RuleR):scalar (n+1) (ydf l)=false:=rfl
theorem ybgs{n:Nat}(o:Own)(l:List RuleR):view o (n+1) (ydf l)=ydf l:=rfl
theorem yboj{n:Nat}(o:Own)(l:List RuleR):vok o (n+1) (ydf l)=True:=rfl
theorem ybol{n:Nat}(h:Nm->Nm)(l:List RuleR):ren h (n+1) (ydf l)=ydf l:=rfl
theorem ybpv{n:Nat}(L:Nm->Bool)(l:List RuleR):cln L (n+1) (ydf l)=true:=rfl
theorem ybie(l:Gr):one1 (ydx l)=true:=rfl
theorem ybai{n:Nat}(l:Gr):owned (n+1) (ydx l)=false:=rfl
theorem yyh{n:Nat}(l:Gr):scalar (n+1) (ydx l)=false:=rfl
theorem ybgr{n:Nat}(o:Own)(l:Gr):view o (n+1) (ydx l)=ydx l:=rfl
theorem ybpj{n:Nat}(o:Own)(l:Gr):vok o (n+1) (ydx l)=True:=rfl
theorem ybmm{n:Nat}(h:Nm->Nm)(l:Gr):ren h (n+1) (ydx l)=ydx l:=rfl
theorem ybnw{n:Nat}(L:Nm->Bool)(l:Gr):cln L (n+1) (ydx l)=true:=rfl
theorem ybhw{n:Nat}(fr:List Nm)(o:Own)(l:List Int):ydn fr o (n+1) (ybc l)=ybc l:=rfl
theorem ybvp{n:Nat}(fr:List Nm)(o:Own)(l:List Int):pok fr o (n+1) (ybc l)=True:=rfl
theorem ybcw{n:Nat}(fr:List Nm)(o:Own)(l:List (Int×Int)):ydn fr o (n+1) (ybb l)=ybb l:=rfl
theorem ybnd{n:Nat}(fr:List Nm)(o:Own)(l:List (Int×Int)):pok fr o (n+1) (ybb l)=True:=rfl
theorem ybbg{n:Nat}(fr:List Nm)(o:Own)(l:List (List (Int×Int))):ydn fr o (n+1) (yu l)=yu l:=rfl
theorem ybmk{n:Nat}(fr:List Nm)(o:Own)(l:List (List (Int×Int))):pok fr o (n+1) (yu l)=True:=rfl
theorem ybhh{n:Nat}(fr:List Nm)(o:Own)(l:List (List Int)):ydn fr o (n+1) (ycm l)=ycm l:=rfl
theorem ybta{n:Nat}(fr:List Nm)(o:Own)(l:List (List Int)):pok fr o (n+1) (ycm l)=True:=rfl
theorem ybgw{n:Nat}(fr:List Nm)(o:Own)(l:List VarR):ydn fr o (n+1) (yer l)=yer l:=rfl
theorem ybvy{n:Nat}(fr:List Nm)(o:Own)(l:List VarR):pok fr o (n+1) (yer l)=True:=rfl
theorem ybgj{n:Nat}(fr:List Nm)(o:Own)(l:List SetR):ydn fr o (n+1) (yij l)=yij l:=rfl
theorem ycal{n:Nat}(fr:List Nm)(o:Own)(l:List SetR):pok fr o (n+1) (yij l)=True:=rfl
theorem ybbq{n:Nat}(fr:List Nm)(o:Own)(l:List RuleR):ydn fr o (n+1) (ydf l)=ydf l:=rfl
theorem ybou{n:Nat}(fr:List Nm)(o:Own)(l:List RuleR):pok fr o (n+1) (ydf l)=True:=rfl
theorem yzy{n:Nat}(fr:List Nm)(o:Own)(l:Gr):ydn fr o (n+1) (ydx l)=ydx l:=rfl
theorem ybnj{n:Nat}(fr:List Nm)(o:Own)(l:Gr):pok fr o (n+1) (ydx l)=True:=rfl
theorem ybfw(l:List Int):SV.cells (ybc l)=[ybc l]:=rfl
theorem ybae(l:List (Int×Int)):SV.cells (ybb l)=[ybb l]:=rfl
theorem ybaa(l:List (List (Int×Int))):SV.cells (yu l)=[yu l]:=rfl
theorem ybfa(l:List (List Int)):SV.cells (ycm l)=[ycm l]:=rfl
theorem ybfm(l:List VarR):SV.cells (yer l)=[yer l]:=rfl
theorem ybgd(l:List SetR):SV.cells (yij l)=[yij l]:=rfl
theorem ybda(l:List RuleR):SV.cells (ydf l)=[ydf l]:=rfl
theorem ybbb(l:Gr):SV.cells (ydx l)=[ydx l]:=rfl
attribute [go_sem] yboz ybig ybdo ybpb ybvo ybrr ybss ybfx ybbo yxt ybeo ybph ybnm ybom
attribute [go_sem] ybhv ybbt yxz ybeu ybor ybms ybop ybnl ybgo ybcr ybpq ycbw ybwx
attribute [go_sem] ybrt ybpf ybet ybdw ybof ybtz ybtw ybti ybni ybgm ybaz ybnp ybxi ybud
attribute [go_sem] ybwu ybhb ybas yyk ybgs yboj ybol ybpv ybie ybai yyh ybgr ybpj
attribute [go_sem] ybmm ybnw ybhw ybvp ybcw ybnd ybbg ybmk ybhh ybta ybgw ybvy ybgj ycal
attribute [go_sem] ybbq ybou yzy ybnj ybfw ybae ybaa ybfa ybfm ybgd ybda ybbb
end Sh
end
section
open Go.RowKit
end
section
namespace Sh
open Ev Go.RowKit
end Sh
end
section
open Go.RowKit
theorem yln(g:Gr)(G:List Int)(v:Nat):(yee g G v).length=G.length:=by simp[yee]
set_option maxHeartbeats 2000000 in
theorem yol(gv cv Gv:Value)(g:Gr)(c:Conf)(G:List Int)(w:World)(hg:GrAt w gv g)(hc:ycvp w cv c)(hG:ytq w Gv G)(hgood:ybg g) :
 Calls zF 89 #[gv,cv,Gv] w fun e w'=>e = .returned (.bool (yuv g.ports.length (yee g G) c))/\Below w.heap.size w w':=by
 have hn24:=hgood.2.1;have hid:=hgood.2.2.1;have Hid':=zH hid
 clear hgood
 obtain⟨i,p,rfl,hi,hp⟩:=hg;obtain⟨A,c0,rfl,hA1,hA2⟩:=ycr hi;obtain⟨A2,c2,rfl,hB1,hB2⟩:=ycr hp;obtain⟨A3,c3,rfl,hC1,hC2⟩:=ycr hc;obtain⟨A4,c4,rfl,hD1,hD2⟩:=ycr hG;have Hp:=zH hp;have Hc:=zH hc;have HG:=zH hG
 clear hi hp hc hG
 by_cases n1:c.length=g.ids.length
 .have n1':((c.length:Int)!=(g.ids.length:Int))=false:=by simp[n1]
  have Hn:=zH (n1.trans hid);have hcn:c.length<=24:=by omega
  clear n1 hid
  go_enter zAC,zAI
  go_wp2
  obtain⟨W1,hW1⟩:∃W,W=w.alloc (.cells #[.slice A g.ids.length c0,.slice A2 g.ports.length c2] 27):=⟨_,rfl⟩;have hbox:W1.cell? ⟨w.heap.size,1,none⟩=some (.slice A2 g.ports.length c2):=by subst hW1;simp
  have HbW:=zH (show Below w.heap.size w W1 by subst hW1;exact(Below.refl _ _).alloc (zAD _) _)
  rw[<-hW1]
  clear hW1
  go_loopg [21] c.length (fun q t wr=>∃v n:Nat,q+v=c.length/\t = .int .i64 v/\wr=W1.drewN n/\Hid (∀(u:Nat) s,u<v->c[u]?=some s->yih (yee g G u) s))
  case atStart=>exact⟨0,0,by omega,rfl,rfl,zH (fun u s hu=>absurd hu (by omega))⟩
  case round =>
   obtain⟨v,n,hq,rfl,rfl,hok⟩:=hrel
   by_cases hlt:v<c.length
   .obtain⟨b3,off3,sv,rfl,hb3,hcs,hs⟩:=ytt (Hc.out.below (Stable.sl Stable.int) HbW.out) (zK hlt);obtain⟨A5,c5,rfl,hE1,hE2⟩:=ycr hs;obtain⟨s,hse⟩:∃s,c[v]=s:=⟨_,rfl⟩;have Hs?:=zH (show c[v]?=some s by rw[zK hlt,hse])
    rw[hse]at hs hcs hE1;have Hbad:=zH (show ¬yih (yee g G v) s->yuv g.ports.length (yee g G) c=false from fun h=>ysq (fun hc=>h (hc.2 v s Hs?.out)))
    have Hs:=zH hs
    clear hs hse
    by_cases c1:s.length=G.length
    .have c1':((s.length:Int)!=(G.length:Int))=false:=by simp[c1]
     have Hsl:=zH c1
     clear c1
     have hvp:v<g.ports.length:=by rw[<-Hn.out];exact hlt
     go_wp2
     obtain⟨go,rfl⟩:∃go,go=gk:=⟨_,rfl⟩
     go_loopg [33] s.length (fun q t wr=>∃x n:Nat,q+x=s.length/\t = .int .i64 x/\wr=W1.drewN n/\Hid (∀(j:Nat) b z,j<x->(yee g G v)[j]?=some b->s[j]?=some z->b.1<=z/\z<=b.2))
     case atStart=>exact⟨0,n,by omega,rfl,rfl,zH (fun j b z hj=>absurd hj (by omega))⟩
     case round =>
      obtain⟨x,n,hqx,rfl,rfl,hst⟩:=hrel
      by_cases hxl:x<s.length
      .have hxG:x<G.length:=by rw[<-Hsl.out];exact hxl
       obtain⟨b5,o5,rfl,hb5,hc5,hr5⟩:=ysh (Hs.out) hxl;obtain⟨b6,o6,rfl,hb6,hc6,hr6⟩:=ysh (HG.out.below Stable.int HbW.out) hxG;obtain⟨b7,o7,lv,rfl,hb7,hc7,hl7⟩:=ytt (Hp.out.below (Stable.sl Stable.link) HbW.out) (zK hvp);obtain⟨A8,c8,rfl,hF1,hF2⟩:=ycr hl7;obtain⟨ds,hds⟩:∃ds,g.ports[v]=ds:=⟨_,rfl⟩;have hdeg:ydch g v=ds.length:=by simp[ydch,zAA,zK hvp,hds]
       rw[hds]at hc7 hF1;obtain⟨y,hy⟩:∃y,s[x]=y:=⟨_,rfl⟩;obtain⟨h,hh⟩:∃h,G[x]=h:=⟨_,rfl⟩;have Hy?:=zH (show s[x]?=some y by rw[zK hxl,hy])
       have hb?:(yee g G v)[x]?=some (if h = -1 then(-1,(ds.length:Int)-1)else(0,h)):=by
        simp[yee,hxG,hh,hdeg]
       rw[hy]at hc5 hr5;rw[hh]at hc6 hr6;obtain⟨hr5a,hr5b⟩:=hr5;obtain⟨hr6a,hr6b⟩:=hr6
       clear hl7 hds hdeg hy hh
       by_cases c2:h = -1
       .have c2':(h == -1)=true:=by simp[c2]
        rw[if_pos c2]at hb?;have Hb?:=zH hb?
        clear hb? c2
        by_cases c3:y < -1
        .have Hf:=zH (Hbad.out (fun h=>by have:=h.2 x _ y Hb?.out Hy?.out;simp only at this;omega))
         go_wp2
         go_quiet (fail)
         go_wp2
         go_quiet (fail)
         go_wp2
         go_ret
         exact⟨ybw Hf.out.symm,below_drewN HbW.out _⟩
        .by_cases c4:(ds.length:Int)-1<y
         .have Hf:=zH (Hbad.out (fun h=>by have:=h.2 x _ y Hb?.out Hy?.out;simp only at this;omega))
          go_wp2
          go_quiet (fail)
          go_wp2
          go_quiet (fail)
          go_wp2
          go_ret
          exact⟨ybw Hf.out.symm,below_drewN HbW.out _⟩
         .have c4d:decide ((ds.length:Int)-1<y)=false:=by simp;omega
          go_wp2
          go_quiet (fail)
          go_wp2
          go_quiet (fail)
          go_wp2
          go_roundg (gk-1)
          case measure=>omega
          case rel =>
           refine⟨x+1,_,by omega,by go_num,rfl,zH (fun j b z hj hb hz=>?_)⟩
           by_cases hjx:j<x
           .exact hst.out j b z hjx hb hz
           .obtain rfl:j=x:=by omega
            rw[Hb?.out]at hb;rw[Hy?.out]at hz;cases hb
            cases hz
            simp only;omega
       .have c2':(h == -1)=false:=by simp[c2]
        rw[if_neg c2]at hb?;have Hb?:=zH hb?
        clear hb? c2
        by_cases c3:y<0
        .have Hf:=zH (Hbad.out (fun h=>by have:=h.2 x _ y Hb?.out Hy?.out;simp only at this;omega))
         go_wp2
         go_quiet (fail)
         go_wp2
         go_ret
         exact⟨ybw Hf.out.symm,below_drewN HbW.out _⟩
        .by_cases c4:h<y
         .have Hf:=zH (Hbad.out (fun h=>by have:=h.2 x _ y Hb?.out Hy?.out;simp only at this;omega))
          go_wp2
          go_quiet (fail)
          go_wp2
          go_ret
          exact⟨ybw Hf.out.symm,below_drewN HbW.out _⟩
         .have c4d:decide (h<y)=false:=by simp;omega
          go_wp2
          go_quiet (fail)
          go_wp2
          go_roundg (gk-1)
          case measure=>omega
          case rel =>
           refine⟨x+1,_,by omega,by go_num,rfl,zH (fun j b z hj hb hz=>?_)⟩
           by_cases hjx:j<x
           .exact hst.out j b z hjx hb hz
           .obtain rfl:j=x:=by omega
            rw[Hb?.out]at hb;rw[Hy?.out]at hz;cases hb
            cases hz
            simp only;omega
      .obtain rfl:x=s.length:=by omega
       go_wp2
       go_roundg (go-1)
       case measure=>omega
       case rel =>
        refine⟨v+1,_,by omega,by go_num,rfl,zH (fun u s' hu hs'=>?_)⟩
        by_cases huv:u<v
        .exact hok.out u s' huv hs'
        .obtain rfl:u=v:=by omega
         rw[Hs?.out]at hs';cases hs'
         refine⟨by rw[yln,Hsl.out],fun j b z hb hz=>hst.out j b z (List.getElem?_eq_some_iff.1 hz).1 hb hz⟩
    .have c1':((s.length:Int)!=(G.length:Int))=true:=by simp;omega
     have Hf:=zH (Hbad.out (fun h=>c1 (by rw[h.1,yln])))
     clear c1
     go_wp2
     go_ret
     exact⟨ybw Hf.out.symm,below_drewN HbW.out _⟩
   .obtain rfl:v=c.length:=by omega
    have Ht:=zH (ybpm (n:=g.ports.length) (bs:=yee g G) (c:=c) ⟨Hn.out,fun v s hs=>hok.out v s (List.getElem?_eq_some_iff.1 hs).1 hs⟩)
    go_wp2
    go_ret
    exact⟨ybw Ht.out.symm,below_drewN HbW.out _⟩
 .have n1':((c.length:Int)!=(g.ids.length:Int))=true:=by simp;omega
  have Hf:=zH (ysq (n:=g.ports.length) (bs:=yee g G) (c:=c) (fun h=>n1 (h.1.trans hid.symm)))
  clear n1 hid
  go_enter zAC,zAI
  go_wp2
  go_ret
  exact⟨ybw Hf.out.symm,(Below.refl _ _).alloc (zAD _) _⟩
end
section
namespace Sh
open Ev Go.RowKit
def clmV(kind:Int)(fair silent:Bool)(rounds moves:Int):List SV:=[.i .i64 kind,.b fair,.b silent,.i .i64 rounds,.i .i64 moves]
theorem ycho{g:Gr}(hg:ybg g){c:Conf}(hR:ybqf c){G:List Int}(hG:∀x∈G,I64 x):Returns zF 89 [grV g,ycm c,ybc G] (.b (yuv g.ports.length (yee g G) c)):=by
 refine ycas ⟨_,_,zAC,rfl⟩ (fun _=>.b) (fun _=>.simple rfl) fun H m us hH hr φ M w us' hRl hs hv=>?_
 obtain⟨u,us2,rfl,h1,h2⟩:∃u us2,us=u::us2/\RV H om0 (grV g) u/\RVL H om0 [ycm c,ybc G] us2:=by
  cases hr with|cons x y=>exact⟨_,_,rfl,x,y⟩
 obtain⟨u2,u3,rfl,h3,h4⟩:=rvl2 h2
 obtain⟨u',us3,rfl,h5,h6⟩:∃u' us3,us'=u'::us3/\VR φ u u'/\VRL φ [u2,u3] us3:=by
  cases hv with|cons x y=>exact⟨_,_,rfl,x,y⟩
 obtain⟨u2',u3',rfl,h7,h8⟩:=yys h6;exact yol u' u2' u3' g c G w (ydph hH h1 h5 hRl hs (ycyn hg)) (ydbn hH h3 h7 hRl hs hR) (ints_at hH h4 h8 hRl hs hG) hg
end Sh
end
section
open Go.RowKit
end
section
open Go.RowKit
end
section
namespace Sh
open Ev Go.RowKit
end Sh
end
section
namespace Sh
open Go Ev
def yvr:List Nat:=[0,1,1,2,1,2,2,3,1,2,2,3,2,3,3,4,1,2,2,3,2,3,3,4,2,3,3,4,3,4,4,5,1,2,2,3,2,3,3,4,2,3,3,4,3,4,4,5,2,3,3,4,3,4,4,5,3,4,4,5,4,5,5,6,1,2,2,3,2,3,3,4,2,3,3,4,3,4,4,5,2,3,3,4,3,4,4,5,3,4,4,5,4,5,5,6,2,3,3,4,3,4,4,5,3,4,4,5,4,5,5,6,3,4,4,5,4,5,5,6,4,5,5,6,5,6,6,7,1,2,2,3,2,3,3,4,2,3,3,4,3,4,4,5,2,3,3,4,3,4,4,5,3,4,4,5,4,5,5,6,2,3,3,4,3,4,4,5,3,4,4,5,4,5,5,6,3,4,4,5,4,5,5,6,4,5,5,6,5,6,6,7,2,3,3,4,3,4,4,5,3,4,4,5,4,5,5,6,3,4,4,5,4,5,5,6,4,5,5,6,5,6,6,7,3,4,4,5,4,5,5,6,4,5,5,6,5,6,6,7,4,5,5,6,5,6,6,7,5,6,6,7,6,7,7,8]
def ycpu:LO:=[o3 (.box 160 (.tmp 0)) 3 0,o3 (.box 27 (.tmp 1)) 4 0,o3 (.mv (ci' 0)) 6 0,o3 (.mv (ci' 0)) 7 4]
def ycuf:LO:=[o3 (.build [.i .i64 0,.a (.nilFunc)] [(0,1,(ci' 1)),(1,1,(.func 176))]) 11 0,o3 (.build [.i .i64 0,.a (.nilFunc)] [(0,1,(ci' 2)),(1,1,(.func 177))]) 12 0,o3 (.build [.i .i64 0,.a (.nilFunc)] [(0,1,(ci' 3)),(1,1,(.func 178))]) 13 0,o3 (.bslice 210 2 3 [.i .i64 0,.a (.nilFunc),.i .i64 0,.a (.nilFunc),.i .i64 0,.a (.nilFunc)] [(0,2,(.tmp 11)),(2,2,(.tmp 12)),(4,2,(.tmp 13))]) 14 7,mv' 14 8 15]
def ycwb:LO:=[mv' 8 15 0,ln' 15 16 1,o3 (.mv (ci' 0)) 17 0]
def ybji:LO:=[bn' .lss 17 16 18 0]
def ybja:LO:=[ix' 2 15 17 19 0,ld' true 2 19 20 1,o3 (.alloc 210 1 [.i .i64 0,.a (.nilFunc)]) 10 0,o0 (.store 2 (.tmp 10) (.tmp 20)) 7]
def ybin:LO:=[fa' 0 1 10 21 0,ld' false 1 21 22 1,fa' 1 1 3 23 0,ld' false 1 23 24 4,bn' .eql 22 24 25 15]
def ybki:LO:=[fa' 1 1 10 26 0,ld' false 1 26 27 1,ld' true 6 3 28 0,ld' true 2 4 29 0,mv' 2 30 0,o3 (.call (.tmp 27) [(.tmp 28),(.tmp 29),(.tmp 30)]) 31 31,xt' 31 0 32 63,xt' 31 1 33 63,mv' 32 6 255,mv' 33 7 511]
def ybiu:LO:=[o3 (.bin .add (.tmp 17) (ci' 1)) 34 0,mv' 34 17 1]
def yblc:LO:=[o3 (.mv (ci' 0)) 6 0,o3 (.mv (.const (.int .i64 (-1)))) 7 1]
def c132:SC:=(.seq (.reg false ycpu) (.seq (.reg false ycuf) (.seq (.seq (.reg false ycwb) (.block 0 (.loop (.seq (.reg false ybji) (.seq (.cond (.tmp 18) .skip (.exit 0)) (.seq (.block 1 (.seq (.reg false ybja) (.seq (.reg false ybin) (.cond (.tmp 25) (.seq (.reg false ybki) .ret) .skip)))) (.reg false ybiu))))))) (.seq (.reg false yblc) .ret))))
theorem ydax:Fn 132 c132 [.t 6,.t 7]:=fn_0 Tryz.func132 (by kernel_rfl) (by kernel_rfl)
def ycvi:LO:=[o3 (.box 160 (.tmp 0)) 3 0,o3 (.box 27 (.tmp 1)) 4 0,o3 (.mv (ci' 0)) 6 0,o3 (.mv (ci' 0)) 7 4]
def ycjg:LO:=[fa' 2 1 3 8 0,ld' false 1 8 9 1,fa' 3 1 3 10 0,ld' false 1 10 11 4,fa' 4 1 3 12 0,ld' false 1 12 13 16,fa' 0 1 4 14 0,ld' false 1 14 15 64,ln' 15 16 192,bn' .mul 13 16 17 496,bn' .add 11 17 18 1020,fa' 5 1 3 19 0,ld' false 1 19 20 2048,fa' 0 1 4 21 0,ld' false 1 21 22 8192,cl' 54 [22] 23 24576,bn' .mul 20 23 24 63488,bn' .add 18 24 25 131068,mv' 9 6 57347,mv' 25 7 524287]
def c176:SC:=(.seq (.reg false ycvi) (.seq (.reg true ycjg) .ret))
theorem ydea:Fn 176 c176 [.t 6,.t 7]:=fn_0 Tryz.func176 (by kernel_rfl) (by kernel_rfl)
def ycut:LO:=[o3 (.box 160 (.tmp 0)) 3 0,o3 (.box 27 (.tmp 1)) 4 0,o3 (.mv (ci' 0)) 6 0,o3 (.mv (ci' 0)) 7 4]
def ycsw:LO:=[o3 (.mv (ci' 0)) 6 0,o3 (.mv (ci' 1)) 7 1]
def c177:SC:=(.seq (.reg false ycut) (.seq (.reg false ycsw) .ret))
theorem ydcw:Fn 177 c177 [.t 6,.t 7]:=fn_0 Tryz.func177 (by kernel_rfl) (by kernel_rfl)
def ycld:LO:=[o3 (.box 160 (.tmp 0)) 3 0,o3 (.box 27 (.tmp 1)) 4 0,o3 (.mv (ci' 0)) 6 0,o3 (.mv (ci' 0)) 7 4]
def ycnh:LO:=[fa' 1 1 4 8 0,ld' false 1 8 9 1,mv' 2 10 0,ix' 1 9 10 11 7,ld' false 1 11 12 15,ln' 12 13 31,o3 (.bin .sub (.tmp 13) (ci' 1)) 14 63,o3 (.mv (.const (.int .i64 (-1)))) 6 0,mv' 14 7 255]
def c178:SC:=(.seq (.reg false ycld) (.seq (.reg true ycnh) .ret))
theorem ydaz:Fn 178 c178 [.t 6,.t 7]:=fn_0 Tryz.func178 (by kernel_rfl) (by kernel_rfl)
def ydgp:LO:=[o3 (.box 32 (.tmp 0)) 2 0,o3 (.box 27 (.tmp 1)) 3 0,o3 (.mv (.const (.slice none 0 0))) 4 0]
def ydpi:LO:=[fa' 0 1 3 9 0,ld' false 1 9 10 1,ln' 10 11 3,o3 (.mk 92 1 24 [.a (.slice none 0 0)] (.tmp 11) (.tmp 11)) 12 7,mv' 12 5 15]
def ydtx:LO:=[mv' 5 13 0,ln' 13 14 1,o3 (.mv (ci' 0)) 15 0]
def ydsm:LO:=[bn' .lss 15 14 16 0]
def ydop:LO:=[mv' 15 17 0,mv' 17 6 1]
def ydik:LO:=[mv' 5 18 0,mv' 6 19 0,fa' 1 1 2 20 0,ld' false 1 20 21 4,ln' 21 22 12,o3 (.mk 91 2 16 [.i .i64 0,.i .i64 0] (.tmp 22) (.tmp 22)) 23 28,ix' 1 18 19 24 63,o0 (.store 1 (.tmp 24) (.tmp 23)) 127]
def ydkt:LO:=[fa' 1 1 2 25 0,ld' false 1 25 26 1,ln' 26 27 3,o3 (.mv (ci' 0)) 28 0]
def ydge:LO:=[bn' .lss 28 27 29 0]
def ydtz:LO:=[mv' 28 30 0,ix' 6 26 28 31 0,ld' true 6 31 32 2,o3 (.alloc 160 1 [.a (.string (ByteArray.mk #[])),.i .i64 0,.i .i64 0,.i .i64 0,.i .i64 0,.i .i64 0]) 8 0,mv' 30 7 15,o0 (.store 6 (.tmp 8) (.tmp 32)) 31]
def ydkh:LO:=[mv' 5 34 0,mv' 6 35 0,ix' 1 34 35 36 3,ld' false 1 36 37 7,mv' 7 38 0,mv' 5 39 0,mv' 6 40 0,ix' 1 39 40 41 96,ld' false 1 41 42 224,mv' 7 43 0,ld' true 6 8 44 0,ld' true 2 3 45 0,mv' 6 46 0,cl' 132 [44,45,46] 47 7168,mv' 47 33 15360,xt' 33 0 48 31744,xt' 33 1 49 31744,ix' 2 37 38 50 31,o3 (.idxA 2 1 (.tmp 50) (ci' 0)) 51 196095,o0 (.store 1 (.tmp 51) (.tmp 48)) 458239,ix' 2 42 43 52 992,o3 (.idxA 2 1 (.tmp 52) (ci' 1)) 53 2097151,o0 (.store 1 (.tmp 53) (.tmp 49)) 4194303]
def ycom:LO:=[o3 (.bin .add (.tmp 28) (ci' 1)) 54 0,mv' 54 28 1]
def ycjb:LO:=[o3 (.bin .add (.tmp 15) (ci' 1)) 55 0,mv' 55 15 1]
def ycss:LO:=[mv' 5 56 0,mv' 56 4 1]
def c63:SC:=(.seq (.reg false ydgp) (.seq (.reg false ydpi) (.seq (.seq (.reg false ydtx) (.block 0 (.loop (.seq (.reg false ydsm) (.seq (.cond (.tmp 16) .skip (.exit 0)) (.seq (.block 1 (.seq (.reg false ydop) (.seq (.reg false ydik) (.seq (.reg false ydkt) (.block 2 (.loop (.seq (.reg false ydge) (.seq (.cond (.tmp 29) .skip (.exit 2)) (.seq (.block 3 (.seq (.reg false ydtz) (.reg true ydkh))) (.reg false ycom)))))))))) (.reg false ycjb))))))) (.seq (.reg false ycss) .ret))))
theorem ydri:Fn 63 c63 [.t 4]:=fn_0 Tryz.func63 (by kernel_rfl) (by kernel_rfl)
def ycos:LO:=[o3 (.box 91 (.tmp 1)) 4 0,o3 (.mv (ci' 0)) 6 0]
def ycmw:LO:=[mv' 2 8 0,o3 (.idxA 2 1 (.tmp 4) (ci' 0)) 9 0,ld' false 1 9 10 2,bn' .geq 8 10 11 7,mv' 11 12 15,⟨.mv (.tmp 2),some 13,some (12,true),31⟩,⟨.idxA 2 1 (.tmp 4) (ci' 1),some 14,some (12,true),31⟩,⟨.load false 1 (.tmp 14),some 15,some (12,true),95⟩,⟨.bin .leq (.tmp 13) (.tmp 15),some 16,some (12,true),255⟩,o3 (.pick (.tmp 12) (.tmp 16) (.const (.bool false))) 17 511,mv' 17 7 1023]
def ycku:LO:=[mv' 2 18 0,mv' 18 6 1]
def ycno:LO:=[mv' 0 20 0,o3 (.bin .eql (.tmp 20) (ci' 3)) 21 1,mv' 21 19 3]
def yclm:LO:=[o3 (.mv (.const (.int .i64 (-1)))) 6 0]
def ycux:LO:=[mv' 2 23 0,o3 (.idxA 2 1 (.tmp 4) (ci' 0)) 24 0,ld' false 1 24 25 2,bn' .lss 23 25 26 7,mv' 26 22 15]
def ycth:LO:=[o3 (.idxA 2 1 (.tmp 4) (ci' 0)) 27 0,ld' false 1 27 28 1,mv' 28 6 3]
def ycre:LO:=[o3 (.idxA 2 1 (.tmp 4) (ci' 1)) 29 0,ld' false 1 29 30 1,mv' 30 6 3]
def c170:SC:=(.seq (.reg false ycos) (.seq (.block 0 (.seq (.reg false ycmw) (.cond (.tmp 7) (.seq (.reg false ycku) .ret) (.seq (.reg false ycno) (.cond (.tmp 19) (.seq (.reg false yclm) .ret) (.seq (.reg false ycux) (.cond (.tmp 22) (.seq (.reg false ycth) .ret) .skip))))))) (.seq (.reg false ycre) .ret)))
theorem ydbs:Fn 170 c170 [.t 6]:=fn_0 Tryz.func170 (by kernel_rfl) (by kernel_rfl)
def ydld:LO:=[o3 (.box 32 (.tmp 0)) 2 0,o3 (.box 27 (.tmp 1)) 3 0,o3 (.mv (ci' 0)) 4 0]
def ydst:LO:=[ld' true 3 2 9 0,cl' 130 [9] 10 1,o3 (.un .not (.tmp 10)) 11 3]
def ydlz:LO:=[o3 (.mv (ci' 8)) 4 0]
def ydqz:LO:=[ld' true 2 3 12 0,cl' 131 [12] 13 1,o3 (.un .not (.tmp 13)) 14 3]
def ydua:LO:=[o3 (.mv (ci' 1)) 4 0]
def ydpe:LO:=[fa' 1 1 2 15 0,ld' false 1 15 16 1,ln' 16 17 3,o3 (.mv (ci' 0)) 18 0]
def yduf:LO:=[bn' .lss 18 17 19 0]
def ydhl:LO:=[ix' 6 16 18 20 0,ld' true 6 20 21 1,o3 (.alloc 160 1 [.a (.string (ByteArray.mk #[])),.i .i64 0,.i .i64 0,.i .i64 0,.i .i64 0,.i .i64 0]) 6 0,o0 (.store 6 (.tmp 6) (.tmp 21)) 7]
def ydnp:LO:=[fa' 1 1 6 22 0,ld' false 1 22 23 1,o3 (.bin .neq (.tmp 23) (ci' 1)) 24 3]
def ydqm:LO:=[ld' true 6 6 26 0,ld' true 2 3 27 0,o3 (.call (.func 132) [(.tmp 26),(.tmp 27),(ci' 0)]) 28 3,mv' 28 25 7,xt' 25 0 29 15,xt' 25 1 30 15,mv' 29 7 31,mv' 30 8 127]
def ycwa:LO:=[mv' 8 31 0,mv' 7 32 0,bn' .lss 31 32 33 3,mv' 33 34 7,⟨.mv (.tmp 8),some 35,some (34,false),15⟩,⟨.mv (.tmp 7),some 36,some (34,false),15⟩,⟨.bin .sub (.tmp 35) (.tmp 36),some 37,some (34,false),63⟩,⟨.bin .add (.tmp 37) (ci' 1),some 38,some (34,false),127⟩,⟨.bin .gtr (.tmp 38) (ci' 4096),some 39,some (34,false),255⟩,o3 (.pick (.tmp 34) (.const (.bool true)) (.tmp 39)) 40 511]
def ycji:LO:=[o3 (.mv (ci' 9)) 4 0]
def ycqw:LO:=[o3 (.bin .add (.tmp 18) (ci' 1)) 41 0,mv' 41 18 1]
def ycna:LO:=[o3 (.mv (ci' 0)) 4 0]
def c62:SC:=(.seq (.reg false ydld) (.seq (.seq (.reg false ydst) (.cond (.tmp 11) (.seq (.reg false ydlz) .ret) .skip)) (.seq (.seq (.reg false ydqz) (.cond (.tmp 14) (.seq (.reg false ydua) .ret) .skip)) (.seq (.seq (.reg false ydpe) (.block 0 (.loop (.seq (.reg false yduf) (.seq (.cond (.tmp 19) .skip (.exit 0)) (.seq (.block 1 (.seq (.reg false ydhl) (.seq (.seq (.reg false ydnp) (.cond (.tmp 24) (.exit 1) .skip)) (.seq (.reg false ydqm) (.seq (.reg false ycwa) (.cond (.tmp 40) (.seq (.reg false ycji) .ret) .skip)))))) (.reg false ycqw))))))) (.seq (.reg false ycna) .ret)))))
theorem ydnw:Fn 62 c62 [.t 4]:=fn_0 Tryz.func62 (by kernel_rfl) (by kernel_rfl)
def yckk:LO:=[o3 (.box 32 (.tmp 0)) 2 0,o3 (.box 27 (.tmp 1)) 3 0,o3 (.mv (.const (.pointer none))) 4 0]
def ycne:LO:=[ld' true 3 2 5 0,ld' true 3 2 6 0,ld' true 2 3 7 0,cl' 167 [6,7] 8 6,ld' true 3 2 9 0,ld' true 2 3 10 0,cl' 63 [9,10] 11 62,o3 (.build [.a (.string (ByteArray.mk #[])),.a (.slice none 0 0),.a (.slice none 0 0),.a (.pointer none),.a (.slice none 0 0)] [(0,3,(.tmp 5)),(3,1,(.tmp 8)),(4,1,(.tmp 11))]) 12 127,o3 (.box 200 (.tmp 12)) 13 255,mv' 13 4 511]
def c123:SC:=(.seq (.reg false yckk) (.seq (.reg true ycne) .ret))
theorem ydbl:Fn 123 c123 [.t 4]:=fn_0 Tryz.func123 (by kernel_rfl) (by kernel_rfl)
def ycka:LO:=[o3 (.mv (ci' 0)) 6 0]
def ycrg:LO:=[mv' 0 8 0,o3 (.nilck (.tmp 8)) 9 1,fa' 0 3 9 10 3,fa' 2 1 10 11 7,ld' false 1 11 12 15,ln' 12 13 31,o3 (.mv (ci' 0)) 14 0]
def yclb:LO:=[bn' .lss 14 13 15 0]
def ycol:LO:=[mv' 14 16 0,mv' 16 7 1]
def ycle:LO:=[mv' 0 17 0,o3 (.nilck (.tmp 17)) 18 1,fa' 3 1 18 19 3,ld' false 1 19 20 7,mv' 1 21 0,mv' 2 22 0,mv' 7 23 0,cl' 168 [20,21,22,23] 24 127]
def ycoe:LO:=[mv' 7 25 0,mv' 25 6 1]
def ycqj:LO:=[o3 (.bin .add (.tmp 14) (ci' 1)) 26 0,mv' 26 14 1]
def ycod:LO:=[o3 (.mv (.const (.int .i64 (-1)))) 6 0]
def c126:SC:=(.seq (.reg false ycka) (.seq (.seq (.reg false ycrg) (.block 0 (.loop (.seq (.reg false yclb) (.seq (.cond (.tmp 15) .skip (.exit 0)) (.seq (.block 1 (.seq (.reg false ycol) (.seq (.reg false ycle) (.cond (.tmp 24) (.seq (.reg false ycoe) .ret) .skip)))) (.reg false ycqj))))))) (.seq (.reg false ycod) .ret)))
theorem ydan:Fn 126 c126 [.t 6]:=fn_0 Tryz.func126 (by kernel_rfl) (by kernel_rfl)
def ycko:LO:=[o3 (.mv (.const (.slice none 0 0))) 8 0]
def ycvs:LO:=[mv' 1 13 0,mv' 2 14 0,ix' 1 13 14 15 3,ld' false 1 15 16 7,o3 (.app 3 1 8 (.const (.slice none 0 0)) (.tmp 16)) 17 15,mv' 17 9 31]
def ycok:LO:=[mv' 0 18 0,o3 (.nilck (.tmp 18)) 19 1,fa' 0 3 19 20 3,fa' 2 1 20 21 7,ld' false 1 21 22 15,mv' 3 23 0,ix' 3 22 23 24 63,fa' 2 1 24 25 127,ld' false 1 25 26 255,ln' 26 27 511,o3 (.mv (ci' 0)) 28 0]
def ycmc:LO:=[bn' .lss 28 27 29 0]
def ycrd:LO:=[ix' 2 26 28 30 0,ld' true 2 30 31 1,o3 (.alloc 203 1 [.i .i64 0,.a (.slice none 0 0)]) 11 0,o0 (.store 2 (.tmp 11) (.tmp 31)) 7]
def ycue:LO:=[mv' 0 32 0,o3 (.nilck (.tmp 32)) 33 1,fa' 3 1 33 34 3,ld' false 1 34 35 7,mv' 1 36 0,mv' 2 37 0,fa' 1 1 11 38 0,ld' false 1 38 39 64,cl' 169 [35,36,37,39] 40 255,mv' 40 12 511]
def ycvg:LO:=[mv' 9 41 0,fa' 0 1 11 42 0,ld' false 1 42 43 2,mv' 0 44 0,o3 (.nilck (.tmp 44)) 45 8,fa' 0 3 45 46 24,fa' 1 1 46 47 56,ld' false 1 47 48 120,fa' 0 1 11 49 0,ld' false 1 49 50 256,ix' 6 48 50 51 1016,fa' 1 1 51 52 2040,ld' false 1 52 53 4088,mv' 0 54 0,o3 (.nilck (.tmp 54)) 55 8192,fa' 4 1 55 56 24576,ld' false 1 56 57 57344,mv' 2 58 0,ix' 1 57 58 59 253952,ld' false 1 59 60 516096,fa' 0 1 11 61 0,ld' false 1 61 62 1048576,ix' 2 60 62 63 4186112,ld' true 2 63 64 8380416,mv' 12 65 0,cl' 170 [53,64,65] 66 33554424,ix' 1 41 43 67 67108863,o0 (.store 1 (.tmp 67) (.tmp 66)) 134217727]
def ycqb:LO:=[o3 (.bin .add (.tmp 28) (ci' 1)) 68 0,mv' 68 28 1]
def ycpz:LO:=[mv' 9 69 0,mv' 69 8 1]
def c127:SC:=(.seq (.reg false ycko) (.seq (.reg false ycvs) (.seq (.seq (.reg false ycok) (.block 0 (.loop (.seq (.reg false ycmc) (.seq (.cond (.tmp 29) .skip (.exit 0)) (.seq (.block 1 (.seq (.reg false ycrd) (.seq (.reg true ycue) (.reg true ycvg)))) (.reg false ycqb))))))) (.seq (.reg false ycpz) .ret))))
theorem ycfu:FnM 127 c127 [.t 8]:=fn_m Tryz.func127 (by kernel_rfl) (by kernel_rfl)
def ycqf:LO:=[o3 (.mv (ci' 0)) 2 0]
def ycum:LO:=[mv' 0 3 0,o3 (.bin .shr (.tmp 3) (.const (.int .u64 24))) 4 1,o3 (.stri yvr (.tmp 4)) 5 3,mv' 0 6 0,o3 (.bin .shr (.tmp 6) (.const (.int .u64 16))) 7 8,o3 (.bin .and (.tmp 7) (.const (.int .u32 255))) 8 24,o3 (.stri yvr (.tmp 8)) 9 56,bn' .add 5 9 10 127,mv' 0 11 0,o3 (.bin .shr (.tmp 11) (.const (.int .u64 8))) 12 256,o3 (.bin .and (.tmp 12) (.const (.int .u32 255))) 13 768,o3 (.stri yvr (.tmp 13)) 14 1792,bn' .add 10 14 15 4095,mv' 0 16 0,o3 (.bin .and (.tmp 16) (.const (.int .u32 255))) 17 8192,o3 (.stri yvr (.tmp 17)) 18 24576,bn' .add 15 18 19 65535,o3 (.conv .i64 (.tmp 19)) 20 131071,mv' 20 2 262143]
def c113:SC:=(.seq (.reg false ycqf) (.seq (.reg true ycum) .ret))
theorem ydfk:Fn 113 c113 [.t 2]:=fn_0 Tryz.func113 (by kernel_rfl) (by kernel_rfl)
def ycpw:LO:=[o3 (.box 27 (.tmp 0)) 1 0,o3 (.mv (.const (.slice none 0 0))) 2 0]
def ycpi:LO:=[fa' 1 1 1 8 0,ld' false 1 8 9 1,ln' 9 10 3,o3 (.mk 77 1 4 [.i .u32 0] (.tmp 10) (.tmp 10)) 11 7,mv' 11 3 15]
def ycsh:LO:=[fa' 1 1 1 12 0,ld' false 1 12 13 1,ln' 13 14 3,o3 (.mv (ci' 0)) 15 0]
def ycnm:LO:=[bn' .lss 15 14 16 0]
def ycnv:LO:=[mv' 15 17 0,ix' 1 13 15 18 0,ld' false 1 18 19 2,mv' 17 4 7,mv' 19 5 15]
def ycmj:LO:=[mv' 5 20 0,ln' 20 21 1,o3 (.mv (ci' 0)) 22 0]
def ycsp:LO:=[bn' .lss 22 21 23 0]
def ycnt:LO:=[ix' 2 20 22 24 0,ld' true 2 24 25 1,o3 (.alloc 68 1 [.i .i64 0,.i .i64 0]) 7 0,o0 (.store 2 (.tmp 7) (.tmp 25)) 7]
def ycma:LO:=[mv' 3 26 0,mv' 4 27 0,ix' 1 26 27 28 3,ld' false 1 28 29 7,fa' 0 1 7 30 0,ld' false 1 30 31 16,o3 (.bin .shl (.const (.int .u32 1)) (.tmp 31)) 32 48,bn' .or 29 32 33 127,ix' 1 26 27 34 255,o0 (.store 1 (.tmp 34) (.tmp 33)) 511]
def ycmx:LO:=[o3 (.bin .add (.tmp 22) (ci' 1)) 35 0,mv' 35 22 1]
def ycaq:LO:=[o3 (.bin .add (.tmp 15) (ci' 1)) 36 0,mv' 36 15 1]
def ybqx:LO:=[mv' 3 37 0,mv' 37 2 1]
def c124:SC:=(.seq (.reg false ycpw) (.seq (.reg false ycpi) (.seq (.seq (.reg false ycsh) (.block 0 (.loop (.seq (.reg false ycnm) (.seq (.cond (.tmp 16) .skip (.exit 0)) (.seq (.block 1 (.seq (.reg false ycnv) (.seq (.reg false ycmj) (.block 2 (.loop (.seq (.reg false ycsp) (.seq (.cond (.tmp 23) .skip (.exit 2)) (.seq (.block 3 (.seq (.reg false ycnt) (.reg true ycma))) (.reg false ycmx))))))))) (.reg false ycaq))))))) (.seq (.reg false ybqx) .ret))))
theorem yddc:Fn 124 c124 [.t 2]:=fn_0 Tryz.func124 (by kernel_rfl) (by kernel_rfl)
def ycua:LO:=[o3 (.mv (.const (.bool false))) 8 0]
def yclq:LO:=[mv' 3 9 0,o3 (.bin .eql (.tmp 9) (.const (.int .u32 0))) 10 1,mv' 10 11 3,⟨.mv (.tmp 3),some 12,some (11,false),7⟩,⟨.mv (.tmp 2),some 13,some (11,false),7⟩,⟨.bin .andNot (.tmp 12) (.tmp 13),some 14,some (11,false),31⟩,⟨.bin .neq (.tmp 14) (.const (.int .u32 0)),some 15,some (11,false),63⟩,o3 (.pick (.tmp 11) (.const (.bool true)) (.tmp 15)) 16 127]
def ydki:LO:=[o3 (.mv (.const (.bool false))) 8 0]
def ycjj:LO:=[mv' 1 17 0]
def yclg:LO:=[o3 (.bin .eql (.tmp 17) (ci' 1)) 19 0,mv' 19 18 1]
def ydnk:LO:=[mv' 3 20 0,mv' 3 21 0,o3 (.bin .sub (.tmp 21) (.const (.int .u32 1))) 22 2,bn' .and 20 22 23 7,o3 (.bin .eql (.tmp 23) (.const (.int .u32 0))) 24 15,mv' 24 8 31]
def ycvy:LO:=[o3 (.bin .eql (.tmp 17) (ci' 2)) 26 0,mv' 26 25 1]
def ycsk:LO:=[mv' 0 27 0,mv' 3 28 0,cl' 206 [27,28] 29 3,mv' 29 8 7]
def ydjw:LO:=[o3 (.bin .eql (.tmp 17) (ci' 4)) 31 0,mv' 31 30 1]
def ydne:LO:=[mv' 3 32 0,mv' 2 33 0,bn' .eql 32 33 34 3,mv' 34 8 7]
def ydam:LO:=[o3 (.mv (.const (.bool true))) 8 0]
def c171:SC:=(.seq (.reg false ycua) (.seq (.seq (.reg false yclq) (.cond (.tmp 16) (.seq (.reg false ydki) .ret) .skip)) (.seq (.seq (.reg false ycjj) (.block 0 (.seq (.reg false yclg) (.cond (.tmp 18) (.seq (.reg false ydnk) .ret) (.seq (.reg false ycvy) (.cond (.tmp 25) (.seq (.reg false ycsk) .ret) (.seq (.reg false ydjw) (.cond (.tmp 30) (.seq (.reg false ydne) .ret) .skip)))))))) (.seq (.reg false ydam) .ret))))
theorem ydae:Fn 171 c171 [.t 8]:=fn_0 Tryz.func171 (by kernel_rfl) (by kernel_rfl)
def ydiq:LO:=[o3 (.mv (.const (.bool false))) 2 0]
def ydrj:LO:=[mv' 0 3 0,o3 (.bin .geq (.tmp 3) (ci' 1)) 4 1,mv' 4 5 3,⟨.mv (.tmp 0),some 6,some (5,true),7⟩,⟨.bin .leq (.tmp 6) (ci' 4),some 7,some (5,true),15⟩,o3 (.pick (.tmp 5) (.tmp 7) (.const (.bool false))) 8 31,mv' 8 2 63]
def c57:SC:=(.seq (.reg false ydiq) (.seq (.reg false ydrj) .ret))
theorem ydqb:Fn 57 c57 [.t 2]:=fn_0 Tryz.func57 (by kernel_rfl) (by kernel_rfl)
end Sh
end
section
namespace Sh
open Go Ev
theorem mulB{a b:Int}(ha:InB a)(hb:InB b):-1152921504606846976<=a*b/\a*b<=1152921504606846976:=by
 unfold InB at *
 have h:(a*b).natAbs<=1073741824*1073741824:=by
  rw[zAG];exact zAH (by omega) (by omega)
 omega
theorem yem(b:Bool):Returns zF 240 [.b b] (.i .i64 (yfo b)):=by
 refine Returns.of (ycxu _ _ ?_);simp only[c240,ycnn,ycwx,ycws,ycmu,yba,yfo,go_sem,↓reduceIte,reduceCtorEq];cases b<;>simp
theorem yeb(a:Int):Returns zF 242 [.i .i64 a] (.i .i64 (satP a)):=by
 refine Returns.of (ydel _ _ ?_);simp only[c242,yctm,ycnr,yba,satP,go_sem,zA,zB,↓reduceIte,reduceCtorEq]
theorem ydqu{a b:Int}(ha:InB a):-1073741824<=a.tdiv b/\a.tdiv b<=1073741824:=by
 have h1:(a.tdiv b).natAbs=a.natAbs/b.natAbs:=Int.natAbs_tdiv a b;have h2:a.natAbs/b.natAbs<=a.natAbs:=Nat.div_le_self _ _;rw[<-h1]at h2;unfold InB at ha;omega
theorem yceo{a b:Int}(ha:InB a):-1073741825<=yuo a b/\yuo a b<=1073741824:=by
 have:=ydqu (b:=b) ha;unfold yuo;split
 .omega
 .split<;>omega
theorem ybxl{a b:Int}(ha:InB a)(hb:InB b):-1152921505680588800<=b*yuo a b/\b*yuo a b<=1152921505680588800:=by
 have h1:=yceo (b:=b) ha
 have h:(b*yuo a b).natAbs<=1073741824*1073741825:=by
  unfold InB at *;rw[zAG];exact zAH (by omega) (by omega)
 omega
theorem ybxa(op a:Int)(ha:InB a):Returns zF 221 [.i .i64 op,.i .i64 a] (.i .i64 (unP op a)):=by
 refine Returns.of (ydew _ _ ?_);simp only[c221,ycuu,ycvn,ycvx,yciy,yba,unP,IntKind.signed,go_sem,zA,zB,↓reduceIte,reduceCtorEq];unfold InB at ha;refine⟨fun h=>⟨ikw (by omega) (by omega),by rw[if_pos h];omega⟩,fun h=>(yem _).use ?_⟩
 simp only[ybh,yba,go_sem,zA,zB,↓reduceIte,reduceCtorEq];rw[if_neg h]
theorem ypy(a b:Int)(ha:InB a):Returns zF 243 [.i .i64 a,.i .i64 b] (.i .i64 (yuo a b)):=by
 refine Returns.of (ydcs _ _ ?_);simp only[c243,ycuc,ycof,ycwt,yckd,ycpo,ycvu,yclv,yba,yuo,go_sem,zA,zB,↓reduceIte,reduceCtorEq];have:=ydqu (b:=b) ha;refine⟨fun h=>by rw[if_pos h],fun h=>⟨⟨h,ikw (by omega) (by omega)⟩,h,fun h1=>⟨fun h2=>⟨ikw (by omega) (by omega),?_⟩,fun h2=>?_⟩,fun h1=>?_⟩⟩
 .rw[if_neg h,if_pos ⟨h1,h2⟩]
 .rw[if_neg h,if_neg (fun q=>q.2 h2)]
 .rw[if_neg h,if_neg (fun q=>q.1 h1)]
theorem ybbd(op a b:Int):Returns zF 244 [.i .i64 op,.i .i64 a,.i .i64 b] (.b (cmpP op a b)):=by
 refine Returns.of (yczw _ _ ?_);simp only[c244,ycuk,ycmp,ycoj,yclx,ycju,ycjo,ycke,ycri,ycsr,ycti,ybrp,ycad,ybze,yrw,cmpP,go_sem,zA,zB,↓reduceIte,reduceCtorEq];refine⟨fun h=>by rw[if_pos h],fun h35=>⟨fun h=>by rw[if_neg h35,if_pos h],fun h36=>⟨fun h=>by rw[if_neg h35,if_neg h36,if_pos h],fun h37=>⟨fun h=>by rw[if_neg h35,if_neg h36,if_neg h37,if_pos h],fun h38=>⟨fun h=>by rw[if_neg h35,if_neg h36,if_neg h37,if_neg h38,if_pos h],fun h39=>by rw[if_neg h35,if_neg h36,if_neg h37,if_neg h38,if_neg h39]⟩⟩⟩⟩⟩
theorem ybmg(op a b:Int)(ha:InB a)(hb:InB b):Returns zF 223 [.i .i64 op,.i .i64 a,.i .i64 b] (.i .i64 (binP op a b)):=by
 refine Returns.of (ydbq _ _ ?_);simp only[c223,ycus,ycmr,yctt,ycks,ycph,ycwf,ycjh,ycvl,ycwn,ycmz,ybsq,ybth,ybuw,ybqr,ybzz,ycaj,ybuf,ybuc,ycbk,yba,go_sem,zA,zB,↓reduceIte,reduceCtorEq];have hm:=mulB ha hb;have hq:=ybxl ha hb;have hA:=ha;have hB:=hb;unfold InB at hA hB;refine⟨fun h=>⟨ikw (by omega) (by omega),(yeb _).use ?_⟩,fun h30=>⟨fun h=>(ypy a b ha).use ?_,fun h31=>⟨fun h=>⟨fun h0=>?_,fun h0=>(ypy a b ha).use ?_⟩,fun h32=>⟨fun h=>⟨ikw (by omega) (by omega),(yeb _).use ?_⟩,fun h33=>⟨fun h=>⟨ikw (by omega) (by omega),(yeb _).use ?_⟩,fun h34=>?_⟩⟩⟩⟩⟩
 .simp only[ybh,yba,go_sem,zA,zB,↓reduceIte,reduceCtorEq];simp[binP,h]
 .simp only[ybh,go_sem,zA,zB,↓reduceIte,reduceCtorEq];refine(yeb _).use ?_;simp only[yba,go_sem];simp[binP,h]
 .simp[binP,h,h0]
 .simp only[ybh,go_sem,zA,zB,↓reduceIte,reduceCtorEq];refine⟨ikw (by omega) (by omega),ikw (by omega) (by omega),(yeb _).use ?_⟩
  simp only[yba,go_sem];simp[binP,h,h0]
 .simp only[ybh,yba,go_sem,zA,zB,↓reduceIte,reduceCtorEq];simp[binP,h]
 .simp only[ybh,yba,go_sem,zA,zB,↓reduceIte,reduceCtorEq];simp[binP,h]
 .refine⟨fun h=>?_,fun h41=>⟨fun h=>?_,fun h42=>?_⟩⟩
  .refine⟨fun h1=>(yem _).use ?_,fun h1=>(yem _).use ?_⟩
   .simp only[ybh,yba,go_sem,zA,zB,↓reduceIte,reduceCtorEq];simp[binP,h];rw[show(a != 0)=true by simpa using h1];simp
   .simp only[ybh,yba,go_sem,zA,zB,↓reduceIte,reduceCtorEq];simp[binP,h,h1]
  .refine⟨fun h1=>(yem _).use ?_,fun h1=>(yem _).use ?_⟩
   .simp only[ybh,yba,go_sem,zA,zB,↓reduceIte,reduceCtorEq];simp[binP,h,h1]
   .simp only[ybh,yba,go_sem,zA,zB,↓reduceIte,reduceCtorEq];simp[binP,h];rw[show(a != 0)=true by simpa using h1];simp
  .refine(ybbd op a b).use ?_;simp only[ybh,go_sem,zA,zB,↓reduceIte,reduceCtorEq];refine(yem _).use ?_;simp only[yba,go_sem];simp[binP,h30,h31,h32,h33,h34,h41,h42]
end Sh
end
section
namespace Sh
open Go Ev
theorem yrv{l:List Int}{k:Nat}(h:k<l.length):countP (l.take (k+1))=countP (l.take k)+(if l.getD k 0≠0 then 1 else 0):=by
 unfold countP;rw[zI h,List.filter_append,zT,getD_at h]
 by_cases q:l[k]=0
 .simp[q]
 .simp[q]
theorem ybhf{l:List Int}(k:Nat):0<=countP (l.take k)/\countP (l.take k)<=k:=by
 have:=countP_le (l.take k);simp only[List.length_take]at this;omega
theorem ybza(l:List Int)(hl:l.length<=1000):Returns zF 250 [ybc l] (.i .i64 (countP l)):=by
 refine Returns.of (ydez _ _ ?_);simp only[c250,ycms,yckx,yclo,ybc,go_sem,zB,↓reduceIte,reduceCtorEq];refine ybf (σ:=Nat) (fun k=>⟨[(8,.i .i64 k),(3,.i .i64 (countP (l.take k))),(6,ybc l),(7,.i .i64 l.length)],[]⟩) (fun k=>k<=l.length) (fun k=>l.length-k) 0 (zM _) ?_ ?_
 .refine yh [] [] [] ?_;simp only[ybc,allQ,live,yc,yba,zJ,go_sem,zA,↓reduceIte,reduceCtorEq];simp[countP]
 .intro k hk;simp only[ycki,ycoy,ycsm,yckf,ycnx,yctw,ybc,yba,go_sem,zA,zB,↓reduceIte,reduceCtorEq];have hb:=ybhf (l:=l) k;refine⟨fun hlt=>⟨by omega,fun h0=>⟨ikw (by omega) (by omega),ikw (by omega) (by omega),?_⟩,fun h0=>⟨ikw (by omega) (by omega),?_⟩⟩,fun hlt=>?_⟩
  .have hk':k<l.length:=by omega
   refine yj (k+1) (by omega) (by omega) ?_
   refine yh [] [] [] ?_;simp only[yrv hk',if_pos h0,allQ,live,yc,yba,go_sem,zA,↓reduceIte,reduceCtorEq];simp
  .have hk':k<l.length:=by omega
   refine yj (k+1) (by omega) (by omega) ?_
   refine yh [] [] [] ?_;simp only[yrv hk',if_neg (not_not_intro h0),allQ,live,yc,yba,go_sem,zA,↓reduceIte,reduceCtorEq];simp
  .rw[zL (by omega)]
theorem yql{l:List Int}{k:Nat}(h:k<l.length):yeg (l.take (k+1))=(if l.getD k 0>(yeg (l.take k)).1 then(l.getD k 0,(yeg (l.take k)).1)else((yeg (l.take k)).1,max (yeg (l.take k)).2 (l.getD k 0))):=by
 unfold yeg;rw[zI h,zAB,getD_at h];rfl
theorem ytv(l:List Int)(hl:l.length<=1000):Returns zF 253 [ybc l] (.tp [.i .i64 (yeg l).1,.i .i64 (yeg l).2]):=by
 refine Returns.of (ycxg _ _ ?_);simp only[c253,yctf,ycjq,ycmt,ybc,go_sem,zB,↓reduceIte,reduceCtorEq];refine ybf (σ:=Nat) (fun k=>⟨[(8,.i .i64 k),(2,.i .i64 (yeg (l.take k)).1),(3,.i .i64 (yeg (l.take k)).2),(6,ybc l),(7,.i .i64 l.length)],[]⟩) (fun k=>k<=l.length) (fun k=>l.length-k) 0 (zM _) ?_ ?_
 .refine yh [] [] [] ?_;simp only[ybc,allQ,live,yc,yba,zJ,go_sem,zA,↓reduceIte,reduceCtorEq];simp[yeg]
 .intro k hk;simp only[ycnj,ycul,ycrq,ycpy,ycnw,ycqm,ycmm,ybc,go_sem,zA,zB,↓reduceIte,reduceCtorEq];refine⟨fun hlt=>⟨by omega,fun h0=>⟨ikw (by omega) (by omega),?_⟩,fun h0=>⟨ikw (by omega) (by omega),?_⟩⟩,fun hlt=>?_⟩
  .have hk':k<l.length:=by omega
   refine yj (k+1) (by omega) (by omega) ?_
   refine yh [] [] [] ?_;simp only[yql hk',if_pos h0,allQ,live,yc,yba,go_sem,zA,↓reduceIte,reduceCtorEq];simp
  .have hk':k<l.length:=by omega
   refine yj (k+1) (by omega) (by omega) ?_
   refine yh [] [] [] ?_;simp only[yql hk',if_neg h0,allQ,live,yc,yba,go_sem,zA,↓reduceIte,reduceCtorEq];simp
  .rw[zL (by omega)]
   exact Sim.refl _
theorem ybba(l:List Int)(x:Int)(hl:l.length<=100000):Returns zF 258 [ybc l,.i .i64 x] (.b (l.elem x)):=by
 refine Returns.of (ydco _ _ ?_);simp only[c258,yckc,ycwu,ybc,go_sem,zA,zB,↓reduceIte,reduceCtorEq];refine(yccf l x hl).use ?_;simp only[ybh,yrw,go_sem,zA,zB,↓reduceIte,reduceCtorEq];unfold idxP;cases h:l.findIdx? (fun y=>x==y)with
 | none =>
   rw[zV]at h
   have:l.elem x=false:=by
    rw[zAE,decide_eq_false_iff_not];intro hm;have:=h x hm;simp at this
   rw[this];simp
 | some i =>
   obtain⟨h1,h2,_⟩:=List.findIdx?_eq_some_iff_getElem.1 h
   have:l.elem x=true:=by
    rw[zAE,decide_eq_true_eq];have:x=l[i]:=by simpa using h2
    rw[this];exact zZ h1
   rw[this];simp
theorem ybnc{l:List Int}{n:Nat}{r:Int}(h:l.elem r=true):yrc l (n+1) r=yrc l n (r+1):=by
 show(if l.elem r then _ else _)=_;rw[if_pos h]
theorem ybmx{l:List Int}{n:Nat}{r:Int}(h:l.elem r=false):yrc l n r=r:=by
 cases n with
 |zero=>rfl
 |succ n=>show(if l.elem r then _ else _)=_;rw[if_neg (by rw[h];simp)]
theorem ybdp{l:List Int}{k:Nat}(h:∀j:Nat,j<k->l.elem (j:Int)=true):k<=l.length:=by
 have h1:((zW k).map fun(j:Nat)=>(j:Int)).Nodup:=by
  rw[List.Nodup,List.pairwise_map];exact List.nodup_range.imp fun {a b} hab e=>hab (by omega)
 have h2:((zW k).map fun(j:Nat)=>(j:Int)) ⊆ l:=fun x hx=>by
  obtain⟨j,hj,rfl⟩:=List.mem_map.1 hx;have:=h j (List.mem_range.1 hj)
  simpa using this
 have:=List.Nodup.length_le_of_subset h1 h2
 simpa using this
theorem ycyv(l:List Int)(hl:l.length<=1000):Returns zF 254 [ybc l] (.i .i64 (mexP l)):=by
 refine Returns.of (ydej _ _ ?_);simp only[c254,ycuv,ycsc,ybc,go_sem];refine ybf (σ:=Nat) (fun k=>⟨[(3,.i .i64 k),(0,ybc l)],[]⟩) (fun k=>(∀j:Nat,j<k->l.elem (j:Int)=true)/\mexP l=yrc l (l.length+1-k) k) (fun k=>l.length+1-k) 0 ⟨fun j h=>absurd h (Nat.not_lt_zero _),rfl⟩ ?_ ?_
 .refine yh [] [] [] ?_;simp only[ybc,allQ,live,yc,zJ,go_sem,↓reduceIte,reduceCtorEq]
 .intro k ⟨hk,he⟩;have hb:=ybdp hk;simp only[ycsz,ycjt,ycve,ybc,go_sem,zA,zB,↓reduceIte,reduceCtorEq];refine(ybba l k (by omega)).use ?_
  simp only[ybh,yba,go_sem,zA,zB,↓reduceIte,reduceCtorEq];refine⟨fun h=>⟨ikw (by omega) (by omega),?_⟩,fun h=>?_⟩
  .have hk2:∀j:Nat,j<k+1->l.elem (j:Int)=true:=fun j hj=>by
    by_cases q:j<k
    .exact hk j q
    .obtain rfl:j=k:=by omega
     exact h
   have hb2:=ybdp hk2;refine yj (k+1) ⟨hk2,?_⟩ (by omega) ?_
   .rw[he,show l.length+1-k=(l.length+1-(k+1))+1 by omega,ybnc h];simp
   .refine yh [] [] [] ?_;simp only[allQ,live,yc,yba,go_sem,↓reduceIte,reduceCtorEq];simp
  .rw[he,ybmx h]
theorem ycby(x:Int):Returns zF 252 [.i .i64 x] (.b (x != 0)):=by
 refine Returns.of (yddh _ _ ?_);simp only[c252,ycpk,ycla,yrw,go_sem,zA,zB,↓reduceIte,reduceCtorEq]
theorem yxj(l:List Int)(hl:l.length<=1000):Returns zF 251 [ybc l,.fn 252 [] []] (.i .i64 (ygn l)):=by
 refine Returns.of (ydca _ _ ?_);simp only[c251,ycvd,yclp,ybc,go_sem,zB,↓reduceIte,reduceCtorEq];refine ybf (σ:=Nat) (fun k=>⟨[(8,.i .i64 k),(0,ybc l),(1,.fn 252 [] []),(7,.i .i64 l.length)],[]⟩) (fun k=>k<=l.length/\(l.take k).findIdx? (· != 0)=none) (fun k=>l.length-k) 0 ⟨zM _,by simp⟩ ?_ ?_
 .refine yh [] [] [] ?_;simp only[ybc,allQ,live,yc,zJ,go_sem,zA,↓reduceIte,reduceCtorEq]
 .intro k ⟨hk,hno⟩;simp only[ycsl,ycuj,ycub,yckw,ycnz,ycrk,ybc,yba,go_sem,zA,zB,↓reduceIte,reduceCtorEq];refine⟨fun hlt=>⟨by omega,(ycby _).use ?_⟩,fun hlt=>?_⟩
  .have hlt:k<l.length:=by omega
   simp only[ybh,yba,go_sem,zA,zB,↓reduceIte,reduceCtorEq];rw[getD_at hlt];refine⟨fun ha=>?_,fun ha=>⟨ikw (by omega) (by omega),?_⟩⟩
   .have:l.findIdx? (· != 0)=some k:=by
     rw[List.findIdx?_eq_some_iff_getElem];refine⟨hlt,by simpa using ha,fun j hj=>?_⟩
     rw[zV]at hno;have:=hno l[j] (List.mem_take_iff_getElem.2 ⟨j,by omega,rfl⟩)
     simpa using this
    unfold ygn;rw[this]
   .refine yj (k+1) ⟨by omega,?_⟩ (by omega) ?_
    .rw[zI hlt,List.findIdx?_append,hno];simp[ha]
    .refine yh [] [] [] ?_;simp only[allQ,live,yc,yba,go_sem,zA,↓reduceIte,reduceCtorEq];simp
  .obtain rfl:k=l.length:=by omega
   rw[List.take_length]at hno;unfold ygn;rw[hno]
end Sh
end
section
namespace Sh
open Go Ev
theorem ybhk{l:List Int}{k:Nat}(h:k<l.length):yqm (l.take (k+1))=min (yqm (l.take k)) (l.getD k 0):=by
 unfold yqm;rw[zI h,zAB,getD_at h];rfl
theorem yzt{l:List Int}{k:Nat}(h:k<l.length):(l.take (k+1)).sum=(l.take k).sum+l.getD k 0:=by
 rw[zI h,List.sum_append,getD_at h];simp
theorem ybts{l:List Int}(h:∀x∈l,InB x):∀k,k<=l.length -> -1073741824*(k:Int)<=(l.take k).sum/\(l.take k).sum<=1073741824*(k:Int)
 |0,_=>by simp
 | k+1,hk=>by
   have ih:=ybts h k (by omega)
   rw[yzt (by omega)]
   have:=h l[k] (zZ (by omega))
   rw[<-getD_at (d:=0) (show k<l.length by omega)]at this
   unfold InB at this;omega
theorem ycfc(op:Int)(l:List Int)(hl:l.length<=24)(hb:∀x∈l,InB x):Returns zF 241 [.i .i64 op,ybc l] (.i .i64 (yio op l)):=by
 refine Returns.of (ydak _ _ ?_);have hin:∀k,k<l.length->InB (l.getD k 0):=fun k hk=>by rw[getD_at hk];exact hb _ (zZ hk)
 obtain⟨L,hL⟩:∃L,ybc l=L:=⟨_,rfl⟩;have hLs:L = .sl 1 l.length (fun k=>[.i .i64 (l.getD k 0)]):=hL.symm;simp only[c241,ycjc,yckg,ycte,ycpc,ycsn,ycoa,ycnp,ycvh,ycop,ycni,ybto,ybsd,ycbm,ybxs,ybyr,ycco,ycan,ycaa,ybvz,ybrm,ybui,ybwv,ybwt,ybsi,ybzm,ybvm,ybrk,ybvj,ybtp,ybtx,ybrh,yccg,ycak,ybsw,ybzu,ybre,ybrb,ybc,go_sem,Int.reduceToNat,zA,zB,↓reduceIte,reduceCtorEq];have hcount:=ybza l (by omega)
 have htwo:=ytv l (by omega)
 simp only[ybc]at hcount htwo;refine⟨fun h20=>hcount.use ?_,fun h20=>⟨fun h21=>hcount.use ?_,fun h21=>⟨fun h22=>hcount.use ?_,fun h22=>⟨fun h23=>?_,fun h23=>⟨fun h24=>?_,fun h24=>⟨fun h25=>htwo.use ?_,fun h25=>⟨fun h26=>?_,fun h26=>⟨fun h27=>?_,fun h27=>⟨fun h28=>htwo.use ?_,fun h28=>?_⟩⟩⟩⟩⟩⟩⟩⟩⟩
 .simp only[ybh,go_sem,zA,zB,↓reduceIte,reduceCtorEq];refine(yem _).use ?_;simp only[yba,go_sem];simp[yio,h20]
 .simp only[ybh,go_sem,zA,zB,↓reduceIte,reduceCtorEq];refine(yem _).use ?_;simp only[yba,go_sem];simp[yio,h21]
 .simp only[ybh,yba,go_sem,zA,zB,↓reduceIte,reduceCtorEq];simp[yio,h22]
 .have:=yxj l (by omega)
  simp only[ybc]at this;refine this.use ?_;simp only[ybh,yba,go_sem,zA,zB,↓reduceIte,reduceCtorEq];simp[yio,h23]
 .refine ybf (σ:=Nat) (fun k=>⟨[(42,.i .i64 k),(5,.i .i64 (yqm (l.take k))),(40,ybc l),(41,.i .i64 l.length)],[]⟩) (fun k=>k<=l.length) (fun k=>l.length-k) 0 (zM _) ?_ ?_
  .refine yh [] [] [] ?_;simp only[ybc,allQ,live,yc,yba,zJ,go_sem,zA,↓reduceIte,reduceCtorEq];simp[yqm]
  .intro k hk;simp only[ybc,yba,go_sem,zA,zB,↓reduceIte,reduceCtorEq];refine⟨fun hlt=>⟨by omega,ikw (by omega) (by omega),?_⟩,fun hlt=>?_⟩
   .have hk':k<l.length:=by omega
    refine yj (k+1) (by omega) (by omega) ?_
    refine yh [] [] [] ?_;simp only[ybhk hk',allQ,live,yc,yba,go_sem,zA,↓reduceIte,reduceCtorEq];simp
   .rw[zL (by omega)]
    simp[yio,h24]
 .simp only[ybh,yba,go_sem,zA,zB,↓reduceIte,reduceCtorEq];simp[yio,h25]
 .refine ybf (σ:=Nat) (fun k=>⟨[(63,.i .i64 k),(10,.i .i64 (l.take k).sum),(61,ybc l),(62,.i .i64 l.length)],[]⟩) (fun k=>k<=l.length) (fun k=>l.length-k) 0 (zM _) ?_ ?_
  .refine yh [] [] [] ?_;simp only[ybc,allQ,live,yc,yba,zJ,go_sem,zA,↓reduceIte,reduceCtorEq];simp
  .intro k hk;simp only[ybc,go_sem,zA,zB,↓reduceIte,reduceCtorEq];have hs:=ybts hb k hk;refine⟨fun hlt=>?_,fun hlt=>(yeb _).use ?_⟩
   .have hk':k<l.length:=by omega
    have hs2:=ybts hb (k+1) hk';rw[yzt hk']at hs2;refine⟨by omega,ikw (by omega) (by omega),ikw (by omega) (by omega),?_⟩
    refine yj (k+1) (by omega) (by omega) ?_
    refine yh [] [] [] ?_;simp only[yzt hk',allQ,live,yc,yba,go_sem,zA,↓reduceIte,reduceCtorEq];simp
   .simp only[ybh,yba,go_sem,zA,zB,↓reduceIte,reduceCtorEq];rw[zL (by omega)]
    simp[yio,h26]
 .have:=ycyv l (by omega)
  simp only[ybc]at this;refine this.use ?_;simp only[ybh,yba,go_sem,zA,zB,↓reduceIte,reduceCtorEq];simp[yio,h27]
 .simp only[ybh,yba,go_sem,zA,zB,↓reduceIte,reduceCtorEq];simp[yio,h28]
 .refine⟨fun h0=>?_,fun h0=>⟨by omega,?_⟩⟩
  .simp only[yba,go_sem];have:l=[]:=zN (by omega)
   simp[yio,h20,h21,h22,h23,h24,h25,h26,h27,h28,this]
  .cases l with
   |nil=>simp at h0
   | cons x l=>
     simp only[yba,go_sem];simp[yio,h20,h21,h22,h23,h24,h25,h26,h27,h28]
end Sh
end
section
def Ex.shp:Ex->Bool
 |.leaf op _=>decide (1<=op/\op<=17)
 |.un op a=>decide (18<=op/\op<=29)&&a.shp
 |.agg op a=>decide (18<=op/\op<=29)&&a.shp
 |.bin op a b=>decide (30<=op/\op<=42)&&a.shp&&b.shp
 |.ite x a b=>x.shp&&a.shp&&b.shp
theorem Ex.ok_shp{nv:Int}:∀(x:Ex) {bnd:Bool},x.ok nv bnd=true->x.shp=true
 | .leaf op arg,bnd,h=>by
   simp only[Ex.ok,zC]at h;exact h.1.1
 | .un op a,bnd,h=>by
   simp only[Ex.ok,zC,decide_eq_true_eq]at h;simp only[Ex.shp,zC,decide_eq_true_eq];exact⟨by omega,Ex.ok_shp a h.2⟩
 | .agg op a,bnd,h=>by
   simp only[Ex.ok,zC,decide_eq_true_eq]at h;simp only[Ex.shp,zC,decide_eq_true_eq];exact⟨by omega,Ex.ok_shp a h.2⟩
 | .bin op a b,bnd,h=>by
   simp only[Ex.ok,zC,decide_eq_true_eq]at h;simp only[Ex.shp,zC,decide_eq_true_eq];exact⟨⟨h.1.1,Ex.ok_shp a h.1.2⟩,Ex.ok_shp b h.2⟩
 | .ite x a b,bnd,h=>by
   simp only[Ex.ok,zC]at h;simp only[Ex.shp,zC];exact⟨⟨Ex.ok_shp x h.1.1,Ex.ok_shp a h.1.2⟩,Ex.ok_shp b h.2⟩
def ylh(op:Int):Int:=if op<1\/op>43 then -1 else if op<=17 then 0 else if op<=29 then 1 else if op<=42 then 2 else 3
def serL(ts:List Ex):List Tm:=(ts.map Ex.ser).flatten
def Ex.head:Ex->Tm
 |.leaf op arg=>(op,arg)
 |.un op _=>(op,0)
 |.agg op _=>(op,0)
 |.bin op _ _=>(op,0)
 |.ite _ _ _=>(43,0)
def Ex.subs:Ex->List Ex
 |.leaf _ _=>[]
 |.un _ a=>[a]
 |.agg _ a=>[a]
 |.bin _ a b=>[a,b]
 |.ite x a b=>[x,a,b]
theorem Ex.ser_eq(x:Ex):x.ser=x.head::serL x.subs:=by
 cases x<;>simp[Ex.ser,Ex.head,Ex.subs,serL]
theorem ycdc{op:Int}(h:1<=op/\op<=17):ylh op=0:=by
 unfold ylh;rw[if_neg (by omega),if_pos (by omega)]
theorem ybii{op:Int}(h:18<=op/\op<=29):ylh op=1:=by
 unfold ylh;rw[if_neg (by omega),if_neg (by omega),if_pos (by omega)]
theorem ychd{op:Int}(h:30<=op/\op<=42):ylh op=2:=by
 unfold ylh;rw[if_neg (by omega),if_neg (by omega),if_neg (by omega),if_pos (by omega)]
theorem Ex.arity(x:Ex)(h:x.shp=true):ylh x.head.1=x.subs.length:=by
 cases x with
 |leaf op arg=>simp only[Ex.shp,decide_eq_true_eq]at h;exact ycdc h
 |un op a=>simp only[Ex.shp,zC,decide_eq_true_eq]at h;exact ybii h.1
 |agg op a=>simp only[Ex.shp,zC,decide_eq_true_eq]at h;exact ybii h.1
 |bin op a b=>simp only[Ex.shp,zC,decide_eq_true_eq]at h;exact ychd h.1.1
 |ite x a b=>simp[Ex.head,Ex.subs,ylh]
theorem Ex.subs_shp(x:Ex)(h:x.shp=true):∀y∈x.subs,y.shp=true:=by
 cases x with
 |leaf op arg=>intro y hy;cases hy
 |un op a=>simp only[Ex.shp,zC]at h;intro y hy;simp[Ex.subs]at hy;subst hy;exact h.2
 |agg op a=>simp only[Ex.shp,zC]at h;intro y hy;simp[Ex.subs]at hy;subst hy;exact h.2
 |bin op a b=>simp only[Ex.shp,zC]at h;intro y hy;simp[Ex.subs]at hy;rcases hy with rfl|rfl<;>first|exact h.1.2|exact h.2
 |ite x a b=>simp only[Ex.shp,zC]at h;intro y hy;simp[Ex.subs]at hy;rcases hy with rfl|rfl|rfl<;>first|exact h.1.1|exact h.1.2|exact h.2
theorem yfe{e:List Tm}{at_:Nat}{t:Tm}{r:List Tm}(h:e.drop at_=t::r):at_<e.length/\e.getD at_ (0,0)=t/\e.drop (at_+1)=r:=by
 have hlt:at_<e.length:=by
  refine zO fun hc=>?_;rw[List.drop_of_length_le (by omega)]at h;cases h
 refine⟨hlt,?_,?_⟩
 .rw[zX hlt]at h;simp only[List.cons.injEq]at h;simp[zAA,hlt,h.1]
 .rw[zX hlt]at h;simp only[List.cons.injEq]at h;exact h.2
namespace Sh
open Go Ev
theorem ycca(op:Int):Returns zF 231 [.i .i64 op] (.i .i64 (ylh op)):=by
 refine Returns.of (ycxs _ _ ?_);simp only[c231,ycps,ycnu,ycrh,ycto,ycwh,ycvr,ycoo,ycln,ycqc,ycrc,yba,ylh,go_sem,zA,zB,↓reduceIte,reduceCtorEq];refine⟨fun h1=>⟨fun h=>by rw[if_pos (.inr h)],fun h2=>⟨fun h=>by rw[if_neg (by omega),if_pos h],fun h3=>⟨fun h=>by rw[if_neg (by omega),if_neg h3,if_pos h],fun h4=>⟨fun h=>by rw[if_neg (by omega),if_neg h3,if_neg h4,if_pos h],fun h5=>by rw[if_neg (by omega),if_neg h3,if_neg h4,if_neg h5]⟩⟩⟩⟩,fun h=>by rw[if_pos (.inl h)]⟩
theorem ydal(e:List Tm)(x:Ex)(at_:Nat)(rest:List Tm)(hx:x.shp=true)(he:e.drop at_=x.ser++rest)(hl:e.length<=1000):Returns zF 215 [ybb e,.i .i64 at_] (.i .i64 ((at_+x.ser.length:Nat):Int)):=by
 refine Returns.of (ydfd _ _ ?_)
 have h0:at_<e.length:=by
  rw[x.ser_eq]at he;exact(yfe he).1
 simp only[c215,ycpx,ycwi,ycjf,ycvt,ybb,yba,go_sem,zA,zB,↓reduceIte,reduceCtorEq];refine⟨fun _=>⟨fun h=>by omega,fun _=>?_⟩,fun h=>by omega⟩
 refine ybf (σ:=Nat×List Ex) (fun p=>⟨[(1,.i .i64 p.1),(5,.i .i64 p.2.length),(0,ybb e)],[]⟩)
  (fun p=>e.drop p.1=serL p.2++rest/\p.2≠[]/\(∀y∈p.2,y.shp=true)/\p.1+(serL p.2).length=at_+x.ser.length/\p.2.length<=3*p.1+1) (fun p=>e.length-p.1) (at_,[x]) ⟨by simpa[serL]using he,by simp,by simpa using hx,by simp[serL],by simp⟩ ?_ ?_
 .refine yh [] [] [] ?_;simp only[ybb,allQ,live,yc,yba,go_sem,zA,↓reduceIte,reduceCtorEq];simp
 .rintro⟨k,ts⟩ ⟨hk,hne,hsh,hlen,hb⟩;cases ts with
  |nil=>exact absurd rfl hne
  | cons y ts =>
    dsimp only at hk hlen hb ⊢
    have hser:serL (y::ts)=y.head::(serL y.subs++serL ts):=by
     show(y.ser++serL ts)=_;rw[y.ser_eq];rfl
    rw[hser]at hk hlen;obtain⟨d1,d2,d3⟩:=yfe hk;have hy:=hsh y List.mem_cons_self;have har:=y.arity hy;have hsub:y.subs.length<=3:=by cases y<;>simp[Ex.subs]
    simp only[List.length_cons]at hb hlen;simp only[ycny,ycje,yctl,ycrn,ycrs,ycwr,ybqz,ybvb,ybxc,ybb,yba,go_sem,zA,zB,zD,↓reduceIte,reduceCtorEq];refine⟨fun hlt=>⟨by omega,(ycca _).use ?_⟩,fun hlt=>by omega⟩
    rw[d2,har];simp only[ybh,yba,go_sem,zA,zB,↓reduceIte,reduceCtorEq];refine⟨fun h=>by omega,fun _=>⟨ikw (by omega) (by omega),ikw (by simp;omega) (by simp;omega),fun h=>⟨ikw (by omega) (by omega),?_⟩,fun h=>⟨ikw (by omega) (by omega),?_⟩⟩⟩
    .have h1:ts=[]:=zN (by omega)
     have h2:y.subs=[]:=zN (by omega)
     subst h1;rw[h2]at hlen;simp[serL]at hlen;omega
    .have hpos:y.subs++ts≠[]:=fun q=>by
      have q1:=congrArg zAJ q;simp only[zT,List.length_nil]at q1;omega
     refine yj (k+1,y.subs++ts) ⟨?_,hpos,?_,?_,?_⟩ (by dsimp only;omega) ?_
     .dsimp only
      rw[d3];simp[serL]
     .intro z hz;rcases List.mem_append.1 hz with q|q
      .exact y.subs_shp hy z q
      .exact hsh z (List.mem_cons_of_mem _ q)
     .dsimp only
      have:(serL (y.subs++ts)).length=(serL y.subs++serL ts).length:=by simp[serL]
      rw[this];omega
     .dsimp only
      simp only[zT];omega
     .refine yh [] [] [] ?_;simp only[allQ,live,yc,yba,go_sem,zA,↓reduceIte,reduceCtorEq];simp;omega
end Sh
end
section
namespace Sh
open Go Ev
theorem ychq(p:ProgR){g:Gr}(hg:ybg g)(op:Int){v:Nat}(hv:v<g.ports.length)(port:Int)(hp:op=6\/op=7\/op=8\/op=9\/op=10\/op=11\/(0<=port/\port<(g.ports.getD v []).length)) :
 Returns zF 239 [.rf (ygi p g),.i .i64 op,.i .i64 v,.i .i64 port] (.i .i64 (ymw g op v port)):=by
 refine Returns.of (yder _ _ ?_);have hlen:=hg.2.2.1;simp only[c239,ycpj,ycqg,ycpg,ycow,ycsf,ycqu,ycqn,yctz,ycpv,ycwg,ybqt,ybtn,ybzh,ybyv,ybvi,ybqn,ybsr,ybvd,ybut,ybyl,ybty,yccm,ybyy,ybzr,ybwm,ygi,ybc,yu,ybb,ydx,yba,go_sem,zA,zB,zD,zG,↓reduceIte,reduceCtorEq];refine⟨fun h6=>?_,fun h6=>⟨fun h7=>?_,fun h7=>⟨fun h8=>⟨by omega,?_⟩,fun h8=>⟨fun h9=>⟨by omega,?_⟩,fun h9=>⟨fun h10=>(yem _).use ?_,fun h10=>⟨fun h11=>?_,fun h11=>?_⟩⟩⟩⟩⟩⟩
 .simp[ymw,h6]
 .simp[ymw,h7]
 .simp[ymw,h8]
 .simp[ymw,h9]
 .simp only[ybh,yba,go_sem,zA,zB,↓reduceIte,reduceCtorEq];simp[ymw,h10]
 .simp[ymw,h11]
 .have hp:0<=port/\port<(g.ports.getD v []).length:=by omega
  have hpn:port.toNat<(g.ports.getD v []).length:=by omega
  have hl:=hg.ydd hv hpn;unfold ydd at hl;refine⟨by omega,by omega,fun h13=>⟨by omega,?_⟩,fun h13=>⟨fun h14=>⟨by omega,?_⟩,fun h14=>⟨fun h15=>(yem _).use ?_,fun h15=>⟨fun h16=>?_,fun h16=>⟨by omega,?_⟩⟩⟩⟩⟩
  .simp[ymw,h13,ydd]
  .simp[ymw,h14,ydd]
  .simp only[ybh,yba,go_sem,zA,zB,↓reduceIte,reduceCtorEq];simp[ymw,h15,ydd]
  .simp[ymw,h16,ydd]
  .refine⟨by rw[show(yka g v).length=(g.ports.getD v []).length from zAF _];omega,?_⟩
   simp[ymw,h6,h7,h8,h9,h10,h11,h13,h14,h15,h16]
theorem ycdl(p:ProgR){g:Gr}(hg:ybg g){nv:Nat}{c:Conf}(hc:ConfIn g.ports.length nv c){v:Nat}(hv:v<g.ports.length)(e:List Tm){op arg:Int}{bnd:Bool}(ho:(Ex.leaf op arg).ok nv bnd=true)(port:Int)(hp:bnd=true->0<=port/\port<(g.ports.getD v []).length) :
 Returns zF 220 [.rf (yjj p g c v e),.ag [.i .i64 op,.i .i64 arg],.i .i64 port] (.i .i64 (ytu g c op arg v port)):=by
 refine Returns.of (ydad _ _ ?_);simp only[Ex.ok,zC,decide_eq_true_eq]at ho;obtain⟨⟨ho1,ho2⟩,ho3⟩:=ho;have hlen:=hc.len;have hrow:=hc.at_ hv;have hF:=ychq p hg op hv port;simp only[ygi,ybc,yu,ybb,ydx]at hF;simp only[c220,yclh,ycmh,ycsx,ycvk,ycug,ycmv,ycoh,ycsq,ycra,yclf,ybwf,ybso,ybxe,ybvg,ybxh,yjj,ycm,ygi,ybc,yu,ybb,ydx,yba,go_sem,zA,zB,zD,zG,↓reduceIte,reduceCtorEq];refine⟨fun h1=>?_,fun h1=>⟨fun h2=>?_,fun h2=>⟨fun h3=>?_,fun h3=>⟨fun h4=>?_,fun h4=>⟨fun h5=>?_,fun h5=>⟨fun h12=>?_,fun h12=>(hF ?_).use ?_⟩⟩⟩⟩⟩⟩
 .simp[ytu,h1]
 .simp[ytu,h2]
 .simp[ytu,h3]
 .simp[ytu,h4]
 .rw[if_neg (by omega),if_pos (by omega)]at ho2
  have ho2:=of_decide_eq_true ho2;refine⟨by omega,by omega,?_⟩
  simp[ytu,h5]
 .rw[if_neg (by omega),if_pos (by omega)]at ho2
  have ho2:=of_decide_eq_true ho2;rw[if_pos (by omega)]at ho3
  have hp:=hp ho3;have hpn:port.toNat<(g.ports.getD v []).length:=by omega
  have hl:=hg.ydd hv hpn;have hr2:=hc.at_ (v:=(ydd g v port.toNat).1.toNat) (by omega)
  unfold ydd at hl hr2;refine⟨by omega,by omega,by omega,by omega,?_⟩
  simp[ytu,h12,ydd]
 .by_cases q:11<=op
  .rw[if_pos q]at ho3;have:=hp ho3;omega
  .omega
 .simp only[ybh,yba,go_sem,zA,zB,↓reduceIte,reduceCtorEq];simp[ytu,h1,h2,h3,h4,h5,h12]
theorem yrq{e:List Tm}{at_:Nat}{a b:List Tm}(h:e.drop at_=a++b):e.drop (at_+a.length)=b:=by
 rw[<-List.drop_drop,h,List.drop_left]
theorem ycdx{n:Nat}{gg:Nat->List SV}{l:List Int}(hn:n=l.length)(h:∀k,k<n->gg k=[.i .i64 (l.getD k 0)]):Sim (.sl 1 n gg) (ybc l):=by
 subst hn;exact ybix h
def ybrz(p:ProgR)(g:Gr)(nv:Nat)(c:Conf)(v:Nat)(e:List Tm)(x:Ex):Prop :=
 ∀ (bnd:Bool) (port:Int) (at_:Nat) (rest:List Tm),x.ok nv bnd=true->(bnd=true->0<=port/\port<(g.ports.getD v []).length)->InB port->e.drop at_=x.ser++rest ->
   Returns zF 205 [.rf (yjj p g c v e),.i .i64 at_,.i .i64 port] (.tp [.i .i64 (ygr g c v x port),.i .i64 ((at_+x.ser.length:Nat):Int)])
theorem yxl(p:ProgR){g:Gr}(hg:ybg g){nv:Nat}{c:Conf}(hc:ConfIn g.ports.length nv c){v:Nat}(hv:v<g.ports.length)(e:List Tm)(hl:e.length<=1000){op:Int}{a:Ex}(ho:(Ex.agg op a).ok nv true=true)(ih:ybrz p g nv c v e a)(at_:Nat)(rest:List Tm)(he:e.drop at_=(Ex.agg op a).ser++rest) :
 Returns zF 222 [.rf (yjj p g c v e),.i .i64 op,.i .i64 at_] (.tp [.i .i64 (ygr g c v (.agg op a) 0),.i .i64 ((at_+(Ex.agg op a).ser.length:Nat):Int)]):=by
 have ho':=ho;simp only[Ex.ok,zC,decide_eq_true_eq]at ho;have hd:=hg.deg_lt (v:=v);obtain⟨deg,hdeg⟩:∃d,(g.ports.getD v []).length=d:=⟨_,rfl⟩;rw[hdeg]at hd;have hin:∀q:Nat,q<deg->InB (ygr g c v a q):=fun q hq=>yhy hg rfl hc hv a ho.2 (fun _=>by omega) (by unfold InB;omega)
 have hsh:=Ex.ok_shp _ ho';have hdrop:e.drop (at_+1)=a.ser++rest:=(yfe (show e.drop at_=(op,0)::(a.ser++rest)from he)).2.2
 have hat:=(yfe (show e.drop at_=(op,0)::(a.ser++rest)from he)).1
 have hfit:at_+1+a.ser.length<=e.length:=by
  have:=congrArg zAJ hdrop;simp at this;omega
 refine Returns.of (ycxn _ _ ?_);simp only[c222,ycjs,ycuh,yclj,ycqp,yjj,ycm,ygi,ybc,yu,ybb,ydx,hdeg,go_sem,zA,zB,zD,zG,↓reduceIte,reduceCtorEq];refine⟨by omega,?_⟩
 let val:Nat->Int:=fun q=>ygr g c v a q
 refine ybf (σ:=Nat) (fun k=>⟨[(27,.i .i64 k),(26,.i .i64 deg),(9,.i .i64 deg),(0,.rf (yjj p g c v e)),(1,.i .i64 op),(2,.i .i64 at_),(8,.pt (8,0) 0 0),(7,.i .i64 (if k=0 then 0 else((at_+1+a.ser.length:Nat):Int)))],
  [(8,.one (some ⟨150,true,1,24,fun i=>[.i .i64 (if i<k then val i else 0)]⟩))]⟩) (fun k=>k<=deg) (fun k=>deg-k) 0 (zM _) ?_ ?_
 .refine yh [] [] [] ?_;simp only[yjj,ycm,ygi,ybc,yu,ybb,ydx,allQ,live,yc,yba,zJ,go_sem,zA,zG,↓reduceIte,reduceCtorEq];intro i _;rw[if_neg (by omega)]
 .intro k hk;simp only[ycor,ycun,ycsu,ycmf,ycjd,ycqr,ybrg,go_sem,zA,zB,zD,zG,↓reduceIte,reduceCtorEq];refine⟨fun hlt=>⟨ikw (by omega) (by omega),?_⟩,fun hlt=>?_⟩
  .have hk':k<deg:=by omega
   have hv1:=ih true (k:Int) (at_+1) rest ho.2 (fun _=>by rw[hdeg];omega) (by unfold InB;omega) hdrop
   rw[show((at_+1:Nat):Int)=(at_:Int)+1 by omega]at hv1
   refine hv1.use ?_;simp only[ybh,splice,go_sem,zA,zB,↓reduceIte,reduceCtorEq];refine⟨by omega,by omega,ikw (by omega) (by omega),?_⟩
   refine yj (k+1) (by omega) (by omega) ?_
   refine yh [] [] [] ?_;simp only[allQ,live,yc,yba,go_sem,zA,zG,↓reduceIte,reduceCtorEq];refine⟨by omega,?_⟩
   intro i hi
   by_cases q:i=k
   .rw[if_pos q,if_pos (by omega)]
    subst q;simp only[val,live,yc,go_sem,reduceCtorEq]
   .rw[if_neg q]
    by_cases q2:i<k
    .rw[if_pos q2,if_pos (by omega)]
     simp only[live,yc,go_sem,reduceCtorEq]
    .rw[if_neg q2,if_neg (by omega)]
     simp only[live,yc,go_sem,reduceCtorEq]
  .obtain rfl:k=deg:=by omega
   have hE:=ydal e _ at_ rest hsh he hl
   have hF:=ycfc op ((zW k).map val) (by simp;omega) (fun x hx=>by
    obtain⟨q,hq,rfl⟩:=List.mem_map.1 hx;exact hin q (List.mem_range.1 hq))
   have hres:ygr g c v (.agg op a) 0=yio op ((zW k).map val):=by
    show yio op _=_;rw[hdeg]
   rw[hres];simp only[yjj,ybb,go_sem,zA,zB,↓reduceIte,reduceCtorEq];simp only[ybb]at hE
   have hsim:SimL [.i .i64 op,.sl 1 (k-0) fun i=>[.i .i64 (if i<k then val i else 0)]] [.i .i64 op,ybc ((zW k).map val)]:=by
    refine⟨Sim.refl _,ycdx (by simp) fun i hi=>?_,trivial⟩
    rw[if_pos (by omega)]
    simp[zAA,show i<k by omega]
   refine⟨fun h0=>hE.use ?_,fun h0=>?_⟩
   .simp only[ybh,go_sem,zA,zB,zD,zG,↓reduceIte,reduceCtorEq];refine⟨by simp;omega,.inl ⟨by omega,hF.useS hsim ?_⟩⟩
    simp only[go_sem];exact Sim.refl _
   .refine⟨by simp;omega,.inl ⟨by omega,hF.useS hsim ?_⟩⟩
    simp only[ybh,if_neg (show ¬k=0 by omega),go_sem,zA,zB,↓reduceIte,reduceCtorEq]
    rw[show at_+(Ex.agg op a).ser.length=at_+1+a.ser.length by simp[Ex.ser];omega]
    exact Sim.refl _
end Sh
end
section
namespace Sh
open Go Ev
theorem ybme(g:Gr)(v:Nat)(hv:v<g.ports.length)(u:Int)(hl:(g.ports.getD v []).length<=100000):Returns zF 204 [grV g,.i .i64 v,.i .i64 u] (.i .i64 (ylm (g.ports.getD v []) u)):=by
 refine Returns.of (ycyj _ _ ?_);simp only[c204,ycwo,ycpe,grV,yu,ybb,ybc,go_sem,zA,zB,zG,↓reduceIte,reduceCtorEq];refine⟨by omega,?_⟩
 obtain⟨ls,hls⟩:∃ls,g.ports.getD v []=ls:=⟨_,rfl⟩;rw[hls]at hl ⊢;refine ybf (σ:=Nat) (fun k=>⟨[(15,.i .i64 k),(13,ybb ls),(14,.i .i64 ls.length),(2,.i .i64 u)],[]⟩) (fun k=>k<=ls.length/\(ls.take k).findIdx? (fun l=>l.1==u)=none) (fun k=>ls.length-k) 0 ⟨zM _,by simp⟩ ?_ ?_
 .refine yh [] [] [] ?_;simp only[ybb,allQ,live,yc,zJ,go_sem,zA,↓reduceIte,reduceCtorEq]
 .intro k ⟨hk,hno⟩;simp only[ycoc,ycpa,ycmb,ycpm,ycpn,ycot,ybb,yba,splice,go_sem,zA,zB,zD,zG,↓reduceIte,reduceCtorEq];refine⟨fun hlt=>⟨by omega,fun he=>?_,fun he=>⟨ikw (by omega) (by omega),?_⟩⟩,fun hlt=>?_⟩
  .have hlt:k<ls.length:=by omega
   rw[getD_at hlt]at he;rw[ybod ls u k hlt he hno]
  .have hlt:k<ls.length:=by omega
   rw[getD_at hlt]at he;refine yj (k+1) ⟨by omega,ybad ls u k hlt he hno⟩ (by omega) ?_
   refine yh [] [] [] ?_;simp only[allQ,live,yc,yba,go_sem,zA,↓reduceIte,reduceCtorEq];simp
  .obtain rfl:k=ls.length:=by omega
   rw[ybfn ls u hno]
theorem ybmf{ids:List Int}{k:Nat}(h:k<ids.length):(ids.take (k+1)).foldl max 0=max ((ids.take k).foldl max 0) (ids.getD k 0):=by
 rw[ybpe ids k h,getD_at h]
theorem ybcv(p:ProgR){g:Gr}(hg:ybg g):Returns zF 167 [.ag (yma p),grV g] (.rf (ygi p g)):=by
 refine Returns.of (ydaw _ _ ?_);have h24:=hg.2.1;have hid:=hg.2.2.1;obtain⟨n,hn⟩:∃n,g.ports.length=n:=⟨_,rfl⟩;rw[hn]at h24 hid;simp only[c167,yctx,ycme,ycsy,grV,yu,ybb,ybc,yma,splice,hn,go_sem,zA,zB,zD,zG,↓reduceIte,reduceCtorEq];refine⟨by omega,?_⟩
 refine ybf (σ:=Nat) (fun k=>⟨[(21,.i .i64 k),(19,yu g.ports),(20,.i .i64 n),(3,.pt (3,0) 0 0),(5,.pt (17,0) 0 0)],
  [(3,.one (some ⟨27,true,2,1,fun _=>[ybc g.ids,yu g.ports]⟩)),(17,.one (some ⟨235,true,7,1,fun _=>[.a (.string p.name),yer p.vars,ydf p.rules,ybc g.ids,yu g.ports,.i .i64 ((g.ids.take k).foldl max 0),.os (15,0) 0 n true]⟩)),
   (15,.one (some ⟨22,false,1,n,fun i=>[if i<k then ybc (yka g i)else .a (.slice none 0 0)]⟩))]⟩) (fun k=>k<=n) (fun k=>n-k) 0 (zM _) ?_ ?_
 .refine yh [] [] [] ?_;simp only[yu,ybb,ybc,hn,allQ,live,yc,yba,zJ,go_sem,zA,zG,↓reduceIte,reduceCtorEq];refine⟨fun i _=>by simp,fun i _=>?_⟩
  rw[if_neg (by omega)]
  simp only[yc,go_sem]
 .intro k hk;simp only[yctn,yckm,ycqo,ycqt,yu,ybb,ybc,splice,hn,go_sem,zA,zB,zD,↓reduceIte,reduceCtorEq];refine⟨fun hlt=>⟨by omega,by omega,by decide,?_⟩,fun hlt=>?_⟩
  .have hk':k<n:=by omega
   obtain⟨ls,hls⟩:∃ls,g.ports.getD k []=ls:=⟨_,rfl⟩;have hdeg:=hg.deg_lt (v:=k);rw[hls]at hdeg;rw[hls]
   have hback:∀j,j<ls.length->(yka g k).getD j 0=ylm (g.ports.getD (ls.getD j (0,0)).1.toNat []) k:=fun j hj=>by
    unfold yka;rw[hls];simp[zAA,hj]
   have hbl:(yka g k).length=ls.length:=by unfold yka;rw[hls,zAF]
   refine ybf (σ:=Nat) (fun j=>⟨[(41,.i .i64 j),(39,ybb ls),(40,.i .i64 ls.length),(6,.i .i64 k),(21,.i .i64 k),(19,yu g.ports),(20,.i .i64 n),(3,.pt (3,0) 0 0),(5,.pt (17,0) 0 0)],
    [(3,.one (some ⟨27,true,2,1,fun _=>[ybc g.ids,yu g.ports]⟩)),(17,.one (some ⟨235,true,7,1,fun _=>[.a (.string p.name),yer p.vars,ydf p.rules,ybc g.ids,yu g.ports,.i .i64 ((g.ids.take (k+1)).foldl max 0),.os (15,0) 0 n true]⟩)),
     (15,.one (some ⟨22,false,1,n,fun i=>[if i<k then ybc (yka g i)else if i=k then .os (100,0) 0 j true else .a (.slice none 0 0)]⟩)),
     (100,.one (some ⟨3,false,1,j,fun q=>[.i .i64 ((yka g k).getD q 0)]⟩))]⟩) (fun j=>j<=ls.length) (fun j=>ls.length-j) 0 (zM _) ?_ ?_
   .refine yh [] [100] [] ?_;simp only[yu,ybb,ybc,hn,ybmf (show k<g.ids.length by omega),allQ,live,yc,zJ,go_sem,zA,zG,Nat.reduceBEq,↓reduceIte,reduceCtorEq]
    intro i hi
    by_cases q1:i<k
    .simp only[if_pos q1];simp only[yc,go_sem,reduceCtorEq]
    .by_cases q2:i=k
     .simp only[if_neg q1,if_pos q2];simp only[live,go_sem,zA,↓reduceIte];simp
     .simp only[if_neg q1,if_neg q2];simp only[yc,go_sem,reduceCtorEq]
   .intro j hj;simp only[ycoz,ycql,ycky,ybvf,ybvr,yu,ybb,ybc,splice,hn,go_sem,zA,zB,zD,zG,↓reduceIte,reduceCtorEq]
    have hP:=fun hlt:j<ls.length=>ybme g (ls.getD j (0,0)).1.toNat (by
     have:=hg.ydd (v:=k) (p:=j) (by omega) (by rw[hls];omega)
     unfold ydd at this;rw[hls]at this;omega) (k:Int) (by have:=hg.deg_lt (v:=(ls.getD j (0,0)).1.toNat);omega)
    have hto:j<ls.length->((ls.getD j (0,0)).1.toNat:Int)=(ls.getD j (0,0)).1:=fun hlt=>by
     have:=hg.ydd (v:=k) (p:=j) (by omega) (by rw[hls];omega)
     unfold ydd at this;rw[hls]at this;omega
    refine⟨fun hlt=>⟨by omega,by omega,by omega,?_⟩,fun hlt=>?_⟩
    .have hj':j<ls.length:=by omega
     have hP:=hP hj';rw[hto hj']at hP;simp only[grV,yu,ybb,ybc,hn]at hP;refine hP.use ?_;simp only[ybh,splice,go_sem,zA,zB,zD,zG,↓reduceIte,reduceCtorEq];refine⟨by decide,by omega,by decide,by omega,by omega,by decide,ikw (by omega) (by omega),?_⟩
     refine yj (j+1) (by omega) (by omega) ?_
     refine yh [(100,fun _=>(63,0))] [] [] ?_;simp only[allQ,live,yc,yba,go_sem,zA,zG,↓reduceIte,reduceCtorEq];refine⟨by omega,fun i hi=>?_,fun i hi=>?_⟩
     .by_cases q2:i=k
      .simp only[if_pos q2,if_neg (show ¬i<k by omega)]
       simp only[live,yc,go_sem,zA,↓reduceIte,reduceCtorEq]
      .simp only[if_neg q2]
       by_cases q1:i<k
       .simp only[if_pos q1];simp only[live,yc,go_sem,reduceCtorEq]
       .simp only[if_neg q1];simp only[live,yc,go_sem,reduceCtorEq]
     .by_cases q2:i<j
      .simp only[if_pos q2];simp only[live,yc,go_sem,reduceCtorEq]
      .obtain rfl:i=j:=by omega
       simp only[if_neg q2,Nat.sub_self,Nat.zero_mul];simp only[live,yba,go_sem,reduceCtorEq];rw[hback i hj']
    .obtain rfl:j=ls.length:=by omega
     refine⟨ikw (by omega) (by omega),?_⟩
     refine yj (k+1) (by omega) (by omega) ?_
     refine yh [] [] [(100,0)] ?_;simp only[allQ,live,yc,yba,go_sem,zA,zD,zG,↓reduceIte,reduceCtorEq];refine⟨by omega,fun i hi=>?_⟩
     by_cases q1:i<k
     .simp only[if_pos q1,if_pos (show i<k+1 by omega)]
      simp only[yc,go_sem]
     .by_cases q2:i=k
      .simp only[if_neg q1,if_pos q2,if_pos (show i<k+1 by omega)]
       subst q2;simp only[hbl,yc,go_sem,zA,↓reduceIte]
      .simp only[if_neg q1,if_neg q2,if_neg (show ¬i<k+1 by omega)]
       simp only[yc,go_sem]
  .obtain rfl:k=n:=by omega
   simp only[ybqs,go_sem,zA,zB,zD,↓reduceIte,reduceCtorEq];refine⟨fun q hq=>by simp only[if_pos hq];simp only[go_sem],?_⟩
   refine yckb ?_ (by simp only[ygi,go_sem])
   simp only[SimL,ygi,ybc,yu,ybb,ydx,hn,yc,true_and,and_true];refine⟨?_,?_⟩
   .rw[yba];refine⟨rfl,?_⟩;unfold ybmh;rw[zL (by omega)]
   .refine ydo fun q hq=>?_;simp only[if_pos hq];simp only[SimL,yc,go_sem]
end Sh
end
section
def ylo(f:Nat->Bool):Nat->Nat
 |0=>0
 |n+1=>if f n then ylo f n|||2^n else ylo f n
theorem ymt(f:Nat->Bool):∀(n i:Nat),(ylo f n).testBit i=(decide (i<n)&&f i)
 |0,i=>by simp[ylo]
 | n + 1,i=>by
   unfold ylo;have ih:=ymt f n i
   by_cases h:f n=true
   .rw[if_pos h,Nat.testBit_or,ih,Nat.testBit_two_pow]
    by_cases e:n=i
    .subst e;simp[h]
    .have:(i<n+1)=(i<n):=propext (by omega)
     simp[e,this]
   .rw[if_neg h,ih]
    by_cases e:n=i
    .subst e;simp[h]
    .have:(i<n+1)=(i<n):=propext (by omega)
     simp[this]
theorem ybko(f:Nat->Bool)(n:Nat):ylo f n<2^n:=by
 refine zY _ fun i hi=>?_;rw[ymt];simp;omega
def difB(a b:Nat):Nat:=a ^^^ (a&&&b)
theorem yyp(a b i:Nat):(difB a b).testBit i=(a.testBit i && !(b.testBit i)):=by
 unfold difB;rw[Nat.testBit_xor,Nat.testBit_and];cases a.testBit i<;>cases b.testBit i<;>rfl
theorem yeq(a:Nat):a=0↔∀i,a.testBit i=false:=by
 constructor
 .rintro rfl i;simp
 .intro h;exact Nat.eq_of_testBit_eq fun i=>by rw[h i];simp
theorem ybsn{a b n:Nat}(h:a<2^n):a&&&b<2^n:=by
 have:=Nat.and_le_left (n:=a) (m:=b);omega
theorem ysn{a b n:Nat}(h:a<2^n):difB a b<2^n:=by
 refine zY _ fun i hi=>?_;rw[yyp,zQ (zU h (zS (by omega) hi))]
 rfl
structure Cnt where
 steps:Nat
 moves:Nat
 rounds:Nat
 begun:Nat
 pend:Nat
def yen(s:Nat):Nat->Nat
 |0=>0
 |n+1=>yen s n+(s.testBit n).toNat
def popP(s:Nat):Nat:=yen s 32
def ysd(e:Nat):Cnt:=⟨0,0,0,0,e⟩
def addP(k:Cnt)(chosen after:Nat):Cnt :=
 let p:=difB k.pend chosen&&&after
 ⟨k.steps+1,k.moves+popP chosen,if p=0 then k.rounds+1 else k.rounds,k.rounds+1,if p=0 then after else p⟩
def Cnt.ok(k:Cnt):Prop:=k.rounds<=k.begun/\k.begun<=k.rounds+1/\k.begun<=k.steps/\k.steps<=k.moves/\k.moves<=24*k.steps/\k.pend<2^24
theorem yjf(s:Nat):∀n,yen s n<=n
 |0=>zAD _
 | n+1=>by
   have:=yjf s n;unfold yen;cases s.testBit n<;>simp[Bool.toNat]<;>omega
theorem yve(s:Nat)(h:s<2^24):∀k,yen s (24+k)=yen s 24
 |0=>rfl
 | k+1=>by
   have e:s.testBit (24+k)=false:=zQ (zU h (zS (by omega) (by omega)))
   show yen s (24+k)+(s.testBit (24+k)).toNat=_;rw[yve s h k,e];rfl
theorem ydap(s:Nat)(h:s<2^24):popP s<=24:=by
 have:=yve s h 8;unfold popP;rw[this];exact yjf s 24
theorem ybbz{s i:Nat}(hs:s.testBit i=true):∀n,i<n->1<=yen s n
 |0,h=>by omega
 | n+1,h=>by
   unfold yen
   by_cases e:i=n
   .subst e;rw[hs];simp
   .have:=ybbz hs n (by omega);omega
theorem ychy(s:Nat)(h:s<2^32)(h0:s≠0):1<=popP s:=by
 refine zO fun hc=>h0 ?_;rw[yeq];intro i;cases hb:s.testBit i with
 |false=>rfl
 | true =>
   exfalso
   have hi:i<32:=by
    refine zO fun hi=>?_;rw[zQ (zU h (zS (by omega) (by omega)))]at hb
    cases hb
   exact hc (ybbz hb 32 hi)
structure Sys where
 n:Nat
 en:Conf->Nat
 mv:Conf->Nat->Conf
def Sys.run(S:Sys)(res:Nat->Nat->Nat):List Nat->Conf->Cnt->List (Conf×Cnt)
 |[],_,_=>[]
 | w::ws,c,k=>if S.en c=0 then[]else(let s:=res (S.en c) w
   let d:=S.mv c s
   (d,addP k s (S.en d))::S.run res ws d (addP k s (S.en d)))
def Sys.runs(S:Sys)(res:Nat->Nat->Nat)(ws:List Nat)(c:Conf):List (Conf×Cnt):=(c,ysd (S.en c))::S.run res ws c (ysd (S.en c))
def subB(a b:Nat):Prop:=∀i,a.testBit i=true->b.testBit i=true
structure ByRounds(S:Sys)(V:Conf->Prop)(P:Nat->Nat->List Int->Prop):Prop where
 valid:∀c s,V c->s≠0->subB s (S.en c)->V (S.mv c s)
 stay:∀c s v,V c->v<S.n->s.testBit v=false->(S.mv c s).getD v []=c.getD v []
 move:∀c s v r,V c->v<S.n->s.testBit v=true->subB s (S.en c)->(∀u,u<S.n->P r u (c.getD u []))->P (r+1) v ((S.mv c s).getD v [])
 rest:∀c v r,V c->v<S.n->(S.en c).testBit v=false->(∀u,u<S.n->P r u (c.getD u []))->P (r+1) v (c.getD v [])
 less:∀r v s,P (r+1) v s->P r v s
structure RInv(S:Sys)(V:Conf->Prop)(P:Nat->Nat->List Int->Prop)(c:Conf)(k:Cnt):Prop where
 valid:V c
 all:∀v,v<S.n->P k.rounds v (c.getD v [])
 done:∀v,v<S.n->k.pend.testBit v=false->P (k.rounds+1) v (c.getD v [])
 begun:k.begun<=k.rounds+1
end
section
structure RuleT where
 name:ByteArray
 guard:Ex
 sets:List (Int×Ex)
structure ProgT where
 name:ByteArray
 vars:List VarR
 rules:List RuleT
instance:Inhabited Ex:=⟨.leaf 0 0⟩
instance:Inhabited RuleT:=⟨⟨.empty,default,[]⟩⟩
def RuleT.raw(r:RuleT):RuleR:=⟨r.name,r.guard.ser,r.sets.map fun s=>⟨s.1,s.2.ser⟩⟩
def ProgT.raw(p:ProgT):ProgR:=⟨p.name,p.vars,p.rules.map RuleT.raw⟩
def RuleT.ok(nv:Nat)(r:RuleT):Bool:=r.guard.ok nv false&&decide (r.guard.ser.length<=1000)&&decide (r.sets.length<=100)&&r.sets.all fun s=>decide (0<=s.1/\s.1<nv)&&s.2.ok nv false&&decide (s.2.ser.length<=1000)
def VarR.ok(x:VarR):Bool:=decide (x.kind=1\/x.kind=2\/x.kind=3)&&decide (0<=x.lo/\x.lo<=4096)&&decide (-4096<=x.hi/\x.hi<=4096)&&decide (0<=x.perNode/\x.perNode<=255)&&decide (0<=x.perID/\x.perID<=255)
def ProgT.ok(p:ProgT):Bool:=decide (1<=p.vars.length/\p.vars.length<=6)&&p.vars.all VarR.ok&&decide (p.rules.length<=12)&&p.rules.all (RuleT.ok p.vars.length)
def ynv(g:Gr)(c:Conf)(v:Nat)(r:RuleT):Bool:=ygr g c v r.guard (-1)!=0
def ydw(p:ProgT)(g:Gr)(c:Conf)(v:Nat):Int:=match p.rules.findIdx? (ynv g c v)with|some i=>i|none=>-1
def ybo(g:Gr)(v:Nat)(x:VarR):Int×Int :=
 if x.kind=1 then(x.lo,x.hi+x.perNode*(g.ids.length:Int)+x.perID*maxI g.ids)else if x.kind=2 then(0,1)else if x.kind=3 then(-1,((g.ports.getD v []).length:Int)-1)else(0,-1)
def ylf(kind:Int)(b:Int×Int)(x:Int):Int:=if x>=b.1/\x<=b.2 then x else if kind=3 then -1 else if x<b.1 then b.1 else b.2
def yqw(p:ProgT)(g:Gr)(c:Conf)(v:Nat)(s0:List Int)(sets:List (Int×Ex)):List Int :=
 sets.foldl (fun s a=>s.set a.1.toNat (ylf (p.vars.getD a.1.toNat default).kind (ybo g v (p.vars.getD a.1.toNat default)) (ygr g c v a.2 (-1)))) s0
def yiz(p:ProgT)(g:Gr)(c:Conf)(v:Nat)(r:Nat):List Int:=yqw p g c v (c.getD v []) (p.rules.getD r default).sets
def ybj(p:ProgT)(g:Gr)(c:Conf):Nat:=ylo (fun v=>decide (ydw p g c v>=0)) g.ids.length
def yei(p:ProgT)(g:Gr)(c:Conf)(s:Nat):Conf:=c.zipIdx.map fun q=>if s.testBit q.2 then yiz p g c q.2 (ydw p g c q.2).toNat else q.1
def yjp(p:ProgT)(g:Gr):Sys:=⟨g.ids.length,ybj p g,yei p g⟩
def yev(p:ProgT)(g:Gr)(c:Conf):Bool:=yuv g.ids.length (fun v=>p.vars.map (ybo g v)) c
end
end Go.Proofs.YthclbjjgfcgbgaaGreatDoor
