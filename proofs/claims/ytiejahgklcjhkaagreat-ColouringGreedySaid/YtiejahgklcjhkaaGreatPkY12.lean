/- Joined. -/
import Derived.Test.YtiejahgklcjhkaaGreatPkY11
set_option linter.unusedSimpArgs false
set_option linter.unusedVariables false
set_option maxRecDepth 8000
open Nat renaming reduceEqDiff→zA,reduceAdd→zB,reduceLeDiff→zD,zero_le→zL,reduceLT→zM,lt_pow_two_of_testBit→zU,le_refl→zZ,testBit_and→zAC,mul_le_mul→zAE
open Bool renaming and_eq_true→zC
open Go.Proofs.Tryz renaming prog→zF,func41→zY,ntmps41→zAG
open Go.Lib renaming hid→zG
open List renaming take_succ_eq_append_getElem→zH,getElem?_eq_getElem→zJ,take_of_length_le→zK,eq_nil_of_length_eq_zero→zN,length_append→zO,findIdx?_eq_none_iff→zQ,range→zS,drop_eq_getElem_cons→zT,getElem_mem→zV,getD→zW,foldl_append→zX,elem_eq_mem→zAA,length_map→zAB,length→zAH
open Int renaming natCast_zero→zI,natAbs_mul→zAD
open Classical renaming byContradiction→zAF
open Go
namespace Go.Proofs.YtiejahgklcjhkaaGreat
section
namespace Sh
open Go Ev
def varC(x:VarR):List SV:=[.a (.string x.name),.i .i64 x.kind,.i .i64 x.lo,.i .i64 x.hi,.i .i64 x.perNode,.i .i64 x.perID]
def ydw(l:List VarR):SV:=.sl 6 l.length (fun k=>varC (l.getD k default))
def ygz(l:List SetR):SV:=.sl 2 l.length (fun k=>[.i .i64 (l.getD k default).var,ybd (l.getD k default).val])
def ycq(l:List RuleR):SV:=.sl 3 l.length (fun k=>[.a (.string (l.getD k default).name),ybd (l.getD k default).guard,ygz (l.getD k default).sets])
def ymf(p:ProgR):List SV:=[.a (.string p.name),ydw p.vars,ycq p.rules]
def yda(g:Gr):SV:=.sl 1 g.ports.length (fun v=>[yj (yih g v)])
def yeo(p:ProgR)(g:Gr):List SV:=[.a (.string p.name),ydw p.vars,ycq p.rules,yj g.ids,ybf g.ports,.i .i64 (ybah g),yda g]
def yhe(p:ProgR)(g:Gr)(c:Conf)(v:Nat)(e:List Tm):List SV:=[.rf (yeo p g),ybk c,.i .i64 v,ybd e]
theorem ybgo(l:List Int):one1 (yj l)=true:=rfl
theorem ybax{n:Nat}(l:List Int):owned (n+1) (yj l)=false:=rfl
theorem yyb{n:Nat}(l:List Int):scalar (n+1) (yj l)=false:=rfl
theorem ybgh{n:Nat}(o:Own)(l:List Int):view o (n+1) (yj l)=yj l:=rfl
theorem ybhc{n:Nat}(o:Own)(l:List Int):vok o (n+1) (yj l)=True:=rfl
theorem ybib{n:Nat}(h:Nm->Nm)(l:List Int):ren h (n+1) (yj l)=yj l:=rfl
theorem ybmv{n:Nat}(L:Nm->Bool)(l:List Int):cln L (n+1) (yj l)=true:=rfl
theorem ybaq(l:List (Int×Int)):one1 (ybd l)=true:=rfl
theorem yxt{n:Nat}(l:List (Int×Int)):owned (n+1) (ybd l)=false:=rfl
theorem ytv{n:Nat}(l:List (Int×Int)):scalar (n+1) (ybd l)=false:=rfl
theorem yzk{n:Nat}(o:Own)(l:List (Int×Int)):view o (n+1) (ybd l)=ybd l:=rfl
theorem ybgm{n:Nat}(o:Own)(l:List (Int×Int)):vok o (n+1) (ybd l)=True:=rfl
theorem ybfl{n:Nat}(h:Nm->Nm)(l:List (Int×Int)):ren h (n+1) (ybd l)=ybd l:=rfl
theorem ybgy{n:Nat}(L:Nm->Bool)(l:List (Int×Int)):cln L (n+1) (ybd l)=true:=rfl
theorem ybbb(l:List (List (Int×Int))):one1 (ybf l)=true:=rfl
theorem ywt{n:Nat}(l:List (List (Int×Int))):owned (n+1) (ybf l)=false:=rfl
theorem ysw{n:Nat}(l:List (List (Int×Int))):scalar (n+1) (ybf l)=false:=rfl
theorem yzu{n:Nat}(o:Own)(l:List (List (Int×Int))):view o (n+1) (ybf l)=ybf l:=rfl
theorem ybex{n:Nat}(o:Own)(l:List (List (Int×Int))):vok o (n+1) (ybf l)=True:=rfl
theorem ybed{n:Nat}(h:Nm->Nm)(l:List (List (Int×Int))):ren h (n+1) (ybf l)=ybf l:=rfl
theorem yben{n:Nat}(L:Nm->Bool)(l:List (List (Int×Int))):cln L (n+1) (ybf l)=true:=rfl
theorem ybeq(l:List (List Int)):one1 (ybk l)=true:=rfl
theorem ybbh{n:Nat}(l:List (List Int)):owned (n+1) (ybk l)=false:=rfl
theorem yxi{n:Nat}(l:List (List Int)):scalar (n+1) (ybk l)=false:=rfl
theorem ybec{n:Nat}(o:Own)(l:List (List Int)):view o (n+1) (ybk l)=ybk l:=rfl
theorem ybiy{n:Nat}(o:Own)(l:List (List Int)):vok o (n+1) (ybk l)=True:=rfl
theorem ybka{n:Nat}(h:Nm->Nm)(l:List (List Int)):ren h (n+1) (ybk l)=ybk l:=rfl
theorem ybow{n:Nat}(L:Nm->Bool)(l:List (List Int)):cln L (n+1) (ybk l)=true:=rfl
theorem ybgu(l:List VarR):one1 (ydw l)=true:=rfl
theorem ybbo{n:Nat}(l:List VarR):owned (n+1) (ydw l)=false:=rfl
theorem yxq{n:Nat}(l:List VarR):scalar (n+1) (ydw l)=false:=rfl
theorem ybei{n:Nat}(o:Own)(l:List VarR):view o (n+1) (ydw l)=ydw l:=rfl
theorem ybnx{n:Nat}(o:Own)(l:List VarR):vok o (n+1) (ydw l)=True:=rfl
theorem ybnl{n:Nat}(h:Nm->Nm)(l:List VarR):ren h (n+1) (ydw l)=ydw l:=rfl
theorem ybhe{n:Nat}(L:Nm->Bool)(l:List VarR):cln L (n+1) (ydw l)=true:=rfl
theorem ybfj(l:List SetR):one1 (ygz l)=true:=rfl
theorem ybaa{n:Nat}(l:List SetR):owned (n+1) (ygz l)=false:=rfl
theorem yux{n:Nat}(l:List SetR):scalar (n+1) (ygz l)=false:=rfl
theorem ybhb{n:Nat}(o:Own)(l:List SetR):view o (n+1) (ygz l)=ygz l:=rfl
theorem ybhl{n:Nat}(o:Own)(l:List SetR):vok o (n+1) (ygz l)=True:=rfl
theorem ybjt{n:Nat}(h:Nm->Nm)(l:List SetR):ren h (n+1) (ygz l)=ygz l:=rfl
theorem ybnp{n:Nat}(L:Nm->Bool)(l:List SetR):cln L (n+1) (ygz l)=true:=rfl
theorem yyx(l:List RuleR):one1 (ycq l)=true:=rfl
theorem yxw{n:Nat}(l:List RuleR):owned (n+1) (ycq l)=false:=rfl
theorem ytr{n:Nat}(l:List RuleR):scalar (n+1) (ycq l)=false:=rfl
theorem yyw{n:Nat}(o:Own)(l:List RuleR):view o (n+1) (ycq l)=ycq l:=rfl
theorem ybha{n:Nat}(o:Own)(l:List RuleR):vok o (n+1) (ycq l)=True:=rfl
theorem ybek{n:Nat}(h:Nm->Nm)(l:List RuleR):ren h (n+1) (ycq l)=ycq l:=rfl
theorem ybev{n:Nat}(L:Nm->Bool)(l:List RuleR):cln L (n+1) (ycq l)=true:=rfl
theorem yzn(l:Gr):one1 (yda l)=true:=rfl
theorem yvb{n:Nat}(l:Gr):owned (n+1) (yda l)=false:=rfl
theorem yui{n:Nat}(l:Gr):scalar (n+1) (yda l)=false:=rfl
theorem yzt{n:Nat}(o:Own)(l:Gr):view o (n+1) (yda l)=yda l:=rfl
theorem ybej{n:Nat}(o:Own)(l:Gr):vok o (n+1) (yda l)=True:=rfl
theorem ybgb{n:Nat}(h:Nm->Nm)(l:Gr):ren h (n+1) (yda l)=yda l:=rfl
theorem ybfu{n:Nat}(L:Nm->Bool)(l:Gr):cln L (n+1) (yda l)=true:=rfl
theorem ybau{n:Nat}(fr:List Nm)(o:Own)(l:List Int):yct fr o (n+1) (yj l)=yj l:=rfl
theorem ybhf{n:Nat}(fr:List Nm)(o:Own)(l:List Int):pok fr o (n+1) (yj l)=True:=rfl
theorem yvk{n:Nat}(fr:List Nm)(o:Own)(l:List (Int×Int)):yct fr o (n+1) (ybd l)=ybd l:=rfl
theorem ybgt{n:Nat}(fr:List Nm)(o:Own)(l:List (Int×Int)):pok fr o (n+1) (ybd l)=True:=rfl
theorem yxe{n:Nat}(fr:List Nm)(o:Own)(l:List (List (Int×Int))):yct fr o (n+1) (ybf l)=ybf l:=rfl
theorem ybff{n:Nat}(fr:List Nm)(o:Own)(l:List (List (Int×Int))):pok fr o (n+1) (ybf l)=True:=rfl
theorem ybaj{n:Nat}(fr:List Nm)(o:Own)(l:List (List Int)):yct fr o (n+1) (ybk l)=ybk l:=rfl
theorem ybln{n:Nat}(fr:List Nm)(o:Own)(l:List (List Int)):pok fr o (n+1) (ybk l)=True:=rfl
theorem ybaz{n:Nat}(fr:List Nm)(o:Own)(l:List VarR):yct fr o (n+1) (ydw l)=ydw l:=rfl
theorem ybmr{n:Nat}(fr:List Nm)(o:Own)(l:List VarR):pok fr o (n+1) (ydw l)=True:=rfl
theorem yym{n:Nat}(fr:List Nm)(o:Own)(l:List SetR):yct fr o (n+1) (ygz l)=ygz l:=rfl
theorem ybjk{n:Nat}(fr:List Nm)(o:Own)(l:List SetR):pok fr o (n+1) (ygz l)=True:=rfl
theorem yuy{n:Nat}(fr:List Nm)(o:Own)(l:List RuleR):yct fr o (n+1) (ycq l)=ycq l:=rfl
theorem ybeo{n:Nat}(fr:List Nm)(o:Own)(l:List RuleR):pok fr o (n+1) (ycq l)=True:=rfl
theorem yva{n:Nat}(fr:List Nm)(o:Own)(l:Gr):yct fr o (n+1) (yda l)=yda l:=rfl
theorem ybge{n:Nat}(fr:List Nm)(o:Own)(l:Gr):pok fr o (n+1) (yda l)=True:=rfl
theorem yyn(l:List Int):SV.cells (yj l)=[yj l]:=rfl
theorem yvx(l:List (Int×Int)):SV.cells (ybd l)=[ybd l]:=rfl
theorem yww(l:List (List (Int×Int))):SV.cells (ybf l)=[ybf l]:=rfl
theorem yzi(l:List (List Int)):SV.cells (ybk l)=[ybk l]:=rfl
theorem ybbp(l:List VarR):SV.cells (ydw l)=[ydw l]:=rfl
theorem yzx(l:List SetR):SV.cells (ygz l)=[ygz l]:=rfl
theorem yxz(l:List RuleR):SV.cells (ycq l)=[ycq l]:=rfl
theorem ywo(l:Gr):SV.cells (yda l)=[yda l]:=rfl
attribute [go_sem] ybgo ybax yyb ybgh ybhc ybib ybmv ybaq yxt ytv yzk ybgm ybfl ybgy
attribute [go_sem] ybbb ywt ysw yzu ybex ybed yben ybeq ybbh yxi ybec ybiy ybka
attribute [go_sem] ybow ybgu ybbo yxq ybei ybnx ybnl ybhe ybfj ybaa yux ybhb ybhl ybjt
attribute [go_sem] ybnp yyx yxw ytr yyw ybha ybek ybev yzn yvb yui yzt ybej
attribute [go_sem] ybgb ybfu ybau ybhf yvk ybgt yxe ybff ybaj ybln ybaz ybmr yym ybjk
attribute [go_sem] yuy ybeo yva ybge yyn yvx yww yzi ybbp yzx yxz ywo
end Sh
end
section
open Go.RowKit
end
section
namespace Sh
open Ev Go.RowKit
end Sh
end
section
open Go.RowKit
theorem yjh(g:Gr)(G:List Int)(v:Nat):(ydk g G v).length=G.length:=by simp[ydk]
set_option maxHeartbeats 2000000 in
theorem yld(gv cv Gv:Value)(g:Gr)(c:Conf)(G:List Int)(w:World)(hg:GrAt w gv g)(hc:ycbw w cv c)(hG:ykc w Gv G)(hgood:ybc g) :
 Calls zF 41 #[gv,cv,Gv] w fun e w'=>e = .returned (.bool (ynk g.ports.length (ydk g G) c))/\Below w.heap.size w w':=by
 have hn24:=hgood.2.1;have hid:=hgood.2.2.1;have Hid':=zG hid
 clear hgood
 obtain⟨i,p,rfl,hi,hp⟩:=hg;obtain⟨A,c0,rfl,hA1,hA2⟩:=ycp hi;obtain⟨A2,c2,rfl,hB1,hB2⟩:=ycp hp;obtain⟨A3,c3,rfl,hC1,hC2⟩:=ycp hc;obtain⟨A4,c4,rfl,hD1,hD2⟩:=ycp hG;have Hp:=zG hp;have Hc:=zG hc;have HG:=zG hG
 clear hi hp hc hG
 by_cases n1:c.length=g.ids.length
 ·have n1':((c.length:Int)!=(g.ids.length:Int))=false:=by simp[n1]
  have Hn:=zG (n1.trans hid);have hcn:c.length<=24:=by omega
  clear n1 hid
  go_enter zY,zAG
  go_wp2
  obtain⟨W1,hW1⟩:∃W,W=w.alloc (.cells #[.slice A g.ids.length c0,.slice A2 g.ports.length c2] 25):=⟨_,rfl⟩;have hbox:W1.cell? ⟨w.heap.size,1,none⟩=some (.slice A2 g.ports.length c2):=by subst hW1;simp
  have HbW:=zG (show Below w.heap.size w W1 by subst hW1;exact(Below.refl _ _).alloc (zZ _) _)
  rw[<-hW1]
  clear hW1
  go_loopg [21] c.length (fun q t wr=>∃v n:Nat,q+v=c.length/\t = .int .i64 v/\wr=W1.drewN n/\Hid (∀(u:Nat) s,u<v->c[u]?=some s->yfq (ydk g G u) s))
  case atStart=>exact⟨0,0,by omega,rfl,rfl,zG (fun u s hu=>absurd hu (by omega))⟩
  case round =>
   obtain⟨v,n,hq,rfl,rfl,hok⟩:=hrel
   by_cases hlt:v<c.length
   ·obtain⟨b3,off3,sv,rfl,hb3,hcs,hs⟩:=yos (Hc.out.below (Stable.sl Stable.int) HbW.out) (zJ hlt);obtain⟨A5,c5,rfl,hE1,hE2⟩:=ycp hs;obtain⟨s,hse⟩:∃s,c[v]=s:=⟨_,rfl⟩;have Hs?:=zG (show c[v]?=some s by rw[zJ hlt,hse])
    rw[hse]at hs hcs hE1;have Hbad:=zG (show ¬yfq (ydk g G v) s->ynk g.ports.length (ydk g G) c=false from fun h=>yhc (fun hc=>h (hc.2 v s Hs?.out)))
    have Hs:=zG hs
    clear hs hse
    by_cases c1:s.length=G.length
    ·have c1':((s.length:Int)!=(G.length:Int))=false:=by simp[c1]
     have Hsl:=zG c1
     clear c1
     have hvp:v<g.ports.length:=by rw[<-Hn.out];exact hlt
     go_wp2
     obtain⟨go,rfl⟩:∃go,go=gk:=⟨_,rfl⟩
     go_loopg [33] s.length (fun q t wr=>∃x n:Nat,q+x=s.length/\t = .int .i64 x/\wr=W1.drewN n/\Hid (∀(j:Nat) b z,j<x->(ydk g G v)[j]?=some b->s[j]?=some z->b.1<=z/\z<=b.2))
     case atStart=>exact⟨0,n,by omega,rfl,rfl,zG (fun j b z hj=>absurd hj (by omega))⟩
     case round =>
      obtain⟨x,n,hqx,rfl,rfl,hst⟩:=hrel
      by_cases hxl:x<s.length
      ·have hxG:x<G.length:=by rw[<-Hsl.out];exact hxl
       obtain⟨b5,o5,rfl,hb5,hc5,hr5⟩:=ypr (Hs.out) hxl;obtain⟨b6,o6,rfl,hb6,hc6,hr6⟩:=ypr (HG.out.below Stable.int HbW.out) hxG;obtain⟨b7,o7,lv,rfl,hb7,hc7,hl7⟩:=yos (Hp.out.below (Stable.sl Stable.link) HbW.out) (zJ hvp);obtain⟨A8,c8,rfl,hF1,hF2⟩:=ycp hl7;obtain⟨ds,hds⟩:∃ds,g.ports[v]=ds:=⟨_,rfl⟩;have hdeg:ycix g v=ds.length:=by simp[ycix,zW,zJ hvp,hds]
       rw[hds]at hc7 hF1;obtain⟨y,hy⟩:∃y,s[x]=y:=⟨_,rfl⟩;obtain⟨h,hh⟩:∃h,G[x]=h:=⟨_,rfl⟩;have Hy?:=zG (show s[x]?=some y by rw[zJ hxl,hy])
       have hb?:(ydk g G v)[x]?=some (if h = -1 then(-1,(ds.length:Int)-1)else(0,h)):=by
        simp[ydk,hxG,hh,hdeg]
       rw[hy]at hc5 hr5;rw[hh]at hc6 hr6;obtain⟨hr5a,hr5b⟩:=hr5;obtain⟨hr6a,hr6b⟩:=hr6
       clear hl7 hds hdeg hy hh
       by_cases c2:h = -1
       ·have c2':(h == -1)=true:=by simp[c2]
        rw[if_pos c2]at hb?;have Hb?:=zG hb?
        clear hb? c2
        by_cases c3:y < -1
        ·have Hf:=zG (Hbad.out (fun h=>by have:=h.2 x _ y Hb?.out Hy?.out;simp only at this;omega))
         go_wp2
         go_quiet (fail)
         go_wp2
         go_quiet (fail)
         go_wp2
         go_ret
         exact⟨ybm Hf.out.symm,below_drewN HbW.out _⟩
        ·by_cases c4:(ds.length:Int)-1<y
         ·have Hf:=zG (Hbad.out (fun h=>by have:=h.2 x _ y Hb?.out Hy?.out;simp only at this;omega))
          go_wp2
          go_quiet (fail)
          go_wp2
          go_quiet (fail)
          go_wp2
          go_ret
          exact⟨ybm Hf.out.symm,below_drewN HbW.out _⟩
         ·have c4d:decide ((ds.length:Int)-1<y)=false:=by simp;omega
          go_wp2
          go_quiet (fail)
          go_wp2
          go_quiet (fail)
          go_wp2
          go_roundg (gk-1)
          case measure=>omega
          case rel =>
           refine⟨x+1,_,by omega,by go_num,rfl,zG (fun j b z hj hb hz=>?_)⟩
           by_cases hjx:j<x
           ·exact hst.out j b z hjx hb hz
           ·obtain rfl:j=x:=by omega
            rw[Hb?.out]at hb;rw[Hy?.out]at hz;cases hb
            cases hz
            simp only;omega
       ·have c2':(h == -1)=false:=by simp[c2]
        rw[if_neg c2]at hb?;have Hb?:=zG hb?
        clear hb? c2
        by_cases c3:y<0
        ·have Hf:=zG (Hbad.out (fun h=>by have:=h.2 x _ y Hb?.out Hy?.out;simp only at this;omega))
         go_wp2
         go_quiet (fail)
         go_wp2
         go_ret
         exact⟨ybm Hf.out.symm,below_drewN HbW.out _⟩
        ·by_cases c4:h<y
         ·have Hf:=zG (Hbad.out (fun h=>by have:=h.2 x _ y Hb?.out Hy?.out;simp only at this;omega))
          go_wp2
          go_quiet (fail)
          go_wp2
          go_ret
          exact⟨ybm Hf.out.symm,below_drewN HbW.out _⟩
         ·have c4d:decide (h<y)=false:=by simp;omega
          go_wp2
          go_quiet (fail)
          go_wp2
          go_roundg (gk-1)
          case measure=>omega
          case rel =>
           refine⟨x+1,_,by omega,by go_num,rfl,zG (fun j b z hj hb hz=>?_)⟩
           by_cases hjx:j<x
           ·exact hst.out j b z hjx hb hz
           ·obtain rfl:j=x:=by omega
            rw[Hb?.out]at hb;rw[Hy?.out]at hz;cases hb
            cases hz
            simp only;omega
      ·obtain rfl:x=s.length:=by omega
       go_wp2
       go_roundg (go-1)
       case measure=>omega
       case rel =>
        refine⟨v+1,_,by omega,by go_num,rfl,zG (fun u s' hu hs'=>?_)⟩
        by_cases huv:u<v
        ·exact hok.out u s' huv hs'
        ·obtain rfl:u=v:=by omega
         rw[Hs?.out]at hs';cases hs'
         refine⟨by rw[yjh,Hsl.out],fun j b z hb hz=>hst.out j b z (List.getElem?_eq_some_iff.1 hz).1 hb hz⟩
    ·have c1':((s.length:Int)!=(G.length:Int))=true:=by simp;omega
     have Hf:=zG (Hbad.out (fun h=>c1 (by rw[h.1,yjh])))
     clear c1
     go_wp2
     go_ret
     exact⟨ybm Hf.out.symm,below_drewN HbW.out _⟩
   ·obtain rfl:v=c.length:=by omega
    have Ht:=zG (yqy (n:=g.ports.length) (bs:=ydk g G) (c:=c) ⟨Hn.out,fun v s hs=>hok.out v s (List.getElem?_eq_some_iff.1 hs).1 hs⟩)
    go_wp2
    go_ret
    exact⟨ybm Ht.out.symm,below_drewN HbW.out _⟩
 ·have n1':((c.length:Int)!=(g.ids.length:Int))=true:=by simp;omega
  have Hf:=zG (yhc (n:=g.ports.length) (bs:=ydk g G) (c:=c) (fun h=>n1 (h.1.trans hid.symm)))
  clear n1 hid
  go_enter zY,zAG
  go_wp2
  go_ret
  exact⟨ybm Hf.out.symm,(Below.refl _ _).alloc (zZ _) _⟩
end
section
namespace Sh
open Ev Go.RowKit
theorem ybsk{g:Gr}(hg:ybc g){c:Conf}(hR:ybes c){G:List Int}(hG:∀x∈G,I64 x):Returns zF 41 [grV g,ybk c,yj G] (.b (ynk g.ports.length (ydk g G) c)):=by
 refine ybnj ⟨_,_,zY,rfl⟩ (fun _=>.b) (fun _=>.simple rfl) fun H m us hH hr φ M w us' hRl hs hv=>?_
 obtain⟨u,us2,rfl,h1,h2⟩:∃u us2,us=u::us2/\RV H om0 (grV g) u/\RVL H om0 [ybk c,yj G] us2:=by
  cases hr with|cons x y=>exact⟨_,_,rfl,x,y⟩
 obtain⟨u2,u3,rfl,h3,h4⟩:=rvl2 h2
 obtain⟨u',us3,rfl,h5,h6⟩:∃u' us3,us'=u'::us3/\VR φ u u'/\VRL φ [u2,u3] us3:=by
  cases hv with|cons x y=>exact⟨_,_,rfl,x,y⟩
 obtain⟨u2',u3',rfl,h7,h8⟩:=yuo h6;exact yld u' u2' u3' g c G w (yclw hH h1 h5 hRl hs (yckc hg)) (yciw hH h3 h7 hRl hs hR) (ints_at hH h4 h8 hRl hs hG) hg
end Sh
end
section
open Go.RowKit
end
section
open Go.RowKit
end
section
namespace Sh
open Ev Go.RowKit
end Sh
end
section
namespace Sh
open Go Ev
def ycdh:LO:=[o3 (.box 93 (.tmp 0)) 3 0,o3 (.box 25 (.tmp 1)) 4 0,o3 (.mv (ci' 0)) 6 0,o3 (.mv (ci' 0)) 7 4]
def ybxc:LO:=[o3 (.build [.i .i64 0,.a (.nilFunc)] [(0,1,(ci' 1)),(1,1,(.func 157))]) 11 0,o3 (.build [.i .i64 0,.a (.nilFunc)] [(0,1,(ci' 2)),(1,1,(.func 159))]) 12 0,o3 (.build [.i .i64 0,.a (.nilFunc)] [(0,1,(ci' 3)),(1,1,(.func 160))]) 13 0,o3 (.bslice 178 2 3 [.i .i64 0,.a (.nilFunc),.i .i64 0,.a (.nilFunc),.i .i64 0,.a (.nilFunc)] [(0,2,(.tmp 11)),(2,2,(.tmp 12)),(4,2,(.tmp 13))]) 14 7,mv' 14 8 15]
def ybyv:LO:=[mv' 8 15 0,ln' 15 16 1,o3 (.mv (ci' 0)) 17 0]
def ybcf:LO:=[bn' .lss 17 16 18 0]
def ybby:LO:=[ix' 2 15 17 19 0,ld' true 2 19 20 1,o3 (.alloc 178 1 [.i .i64 0,.a (.nilFunc)]) 10 0,o0 (.store 2 (.tmp 10) (.tmp 20)) 7]
def ybbt:LO:=[fa' 0 1 10 21 0,ld' false 1 21 22 1,fa' 1 1 3 23 0,ld' false 1 23 24 4,bn' .eql 22 24 25 15]
def ybdj:LO:=[fa' 1 1 10 26 0,ld' false 1 26 27 1,ld' true 6 3 28 0,ld' true 2 4 29 0,mv' 2 30 0,o3 (.call (.tmp 27) [(.tmp 28),(.tmp 29),(.tmp 30)]) 31 31,xt' 31 0 32 63,xt' 31 1 33 63,mv' 32 6 255,mv' 33 7 511]
def ybcs:LO:=[o3 (.bin .add (.tmp 17) (ci' 1)) 34 0,mv' 34 17 1]
def ybct:LO:=[o3 (.mv (ci' 0)) 6 0,o3 (.mv (.const (.int .i64 (-1)))) 7 1]
def c131:SC:=(.seq (.reg false ycdh) (.seq (.reg false ybxc) (.seq (.seq (.reg false ybyv) (.block 0 (.loop (.seq (.reg false ybcf) (.seq (.cond (.tmp 18) .skip (.exit 0)) (.seq (.block 1 (.seq (.reg false ybby) (.seq (.reg false ybbt) (.cond (.tmp 25) (.seq (.reg false ybdj) .ret) .skip)))) (.reg false ybcs))))))) (.seq (.reg false ybct) .ret))))
theorem ycih:Fn 131 c131 [.t 6,.t 7]:=fn_0 Tryz.func131 (by kernel_rfl) (by kernel_rfl)
def ybza:LO:=[o3 (.box 93 (.tmp 0)) 3 0,o3 (.box 25 (.tmp 1)) 4 0,o3 (.mv (ci' 0)) 6 0,o3 (.mv (ci' 0)) 7 4]
def ybxr:LO:=[fa' 2 1 3 8 0,ld' false 1 8 9 1,fa' 3 1 3 10 0,ld' false 1 10 11 4,fa' 4 1 3 12 0,ld' false 1 12 13 16,fa' 0 1 4 14 0,ld' false 1 14 15 64,ln' 15 16 192,bn' .mul 13 16 17 496,bn' .add 11 17 18 1020,fa' 5 1 3 19 0,ld' false 1 19 20 2048,fa' 0 1 4 21 0,ld' false 1 21 22 8192,cl' 158 [22] 23 24576,bn' .mul 20 23 24 63488,bn' .add 18 24 25 131068,mv' 9 6 57347,mv' 25 7 524287]
def c157:SC:=(.seq (.reg false ybza) (.seq (.reg true ybxr) .ret))
theorem ycfv:Fn 157 c157 [.t 6,.t 7]:=fn_0 Tryz.func157 (by kernel_rfl) (by kernel_rfl)
def yccf:LO:=[o3 (.box 93 (.tmp 0)) 3 0,o3 (.box 25 (.tmp 1)) 4 0,o3 (.mv (ci' 0)) 6 0,o3 (.mv (ci' 0)) 7 4]
def ycbs:LO:=[o3 (.mv (ci' 0)) 6 0,o3 (.mv (ci' 1)) 7 1]
def c159:SC:=(.seq (.reg false yccf) (.seq (.reg false ycbs) .ret))
theorem ycft:Fn 159 c159 [.t 6,.t 7]:=fn_0 Tryz.func159 (by kernel_rfl) (by kernel_rfl)
def yccy:LO:=[o3 (.box 93 (.tmp 0)) 3 0,o3 (.box 25 (.tmp 1)) 4 0,o3 (.mv (ci' 0)) 6 0,o3 (.mv (ci' 0)) 7 4]
def ycbt:LO:=[fa' 1 1 4 8 0,ld' false 1 8 9 1,mv' 2 10 0,ix' 1 9 10 11 7,ld' false 1 11 12 15,ln' 12 13 31,o3 (.bin .sub (.tmp 13) (ci' 1)) 14 63,o3 (.mv (.const (.int .i64 (-1)))) 6 0,mv' 14 7 255]
def c160:SC:=(.seq (.reg false yccy) (.seq (.reg true ycbt) .ret))
theorem ychy:Fn 160 c160 [.t 6,.t 7]:=fn_0 Tryz.func160 (by kernel_rfl) (by kernel_rfl)
def ycld:LO:=[o3 (.box 42 (.tmp 0)) 2 0,o3 (.box 25 (.tmp 1)) 3 0,o3 (.mv (.const (.slice none 0 0))) 4 0]
def ycpo:LO:=[fa' 0 1 3 9 0,ld' false 1 9 10 1,ln' 10 11 3,o3 (.mk 54 1 24 [.a (.slice none 0 0)] (.tmp 11) (.tmp 11)) 12 7,mv' 12 5 15]
def ycsw:LO:=[mv' 5 13 0,ln' 13 14 1,o3 (.mv (ci' 0)) 15 0]
def ycpg:LO:=[bn' .lss 15 14 16 0]
def ycma:LO:=[mv' 15 17 0,mv' 17 6 1]
def ycrf:LO:=[mv' 5 18 0,mv' 6 19 0,fa' 1 1 2 20 0,ld' false 1 20 21 4,ln' 21 22 12,o3 (.mk 75 2 16 [.i .i64 0,.i .i64 0] (.tmp 22) (.tmp 22)) 23 28,ix' 1 18 19 24 63,o0 (.store 1 (.tmp 24) (.tmp 23)) 127]
def ycrv:LO:=[fa' 1 1 2 25 0,ld' false 1 25 26 1,ln' 26 27 3,o3 (.mv (ci' 0)) 28 0]
def ycsq:LO:=[bn' .lss 28 27 29 0]
def ycle:LO:=[mv' 28 30 0,ix' 6 26 28 31 0,ld' true 6 31 32 2,o3 (.alloc 93 1 [.a (.string (ByteArray.mk #[])),.i .i64 0,.i .i64 0,.i .i64 0,.i .i64 0,.i .i64 0]) 8 0,mv' 30 7 15,o0 (.store 6 (.tmp 8) (.tmp 32)) 31]
def ycqb:LO:=[mv' 5 34 0,mv' 6 35 0,ix' 1 34 35 36 3,ld' false 1 36 37 7,mv' 7 38 0,mv' 5 39 0,mv' 6 40 0,ix' 1 39 40 41 96,ld' false 1 41 42 224,mv' 7 43 0,ld' true 6 8 44 0,ld' true 2 3 45 0,mv' 6 46 0,cl' 131 [44,45,46] 47 7168,mv' 47 33 15360,xt' 33 0 48 31744,xt' 33 1 49 31744,ix' 2 37 38 50 31,o3 (.idxA 2 1 (.tmp 50) (ci' 0)) 51 196095,o0 (.store 1 (.tmp 51) (.tmp 48)) 458239,ix' 2 42 43 52 992,o3 (.idxA 2 1 (.tmp 52) (ci' 1)) 53 2097151,o0 (.store 1 (.tmp 53) (.tmp 49)) 4194303]
def ybvw:LO:=[o3 (.bin .add (.tmp 28) (ci' 1)) 54 0,mv' 54 28 1]
def ybvm:LO:=[o3 (.bin .add (.tmp 15) (ci' 1)) 55 0,mv' 55 15 1]
def ycej:LO:=[mv' 5 56 0,mv' 56 4 1]
def c96:SC:=(.seq (.reg false ycld) (.seq (.reg false ycpo) (.seq (.seq (.reg false ycsw) (.block 0 (.loop (.seq (.reg false ycpg) (.seq (.cond (.tmp 16) .skip (.exit 0)) (.seq (.block 1 (.seq (.reg false ycma) (.seq (.reg false ycrf) (.seq (.reg false ycrv) (.block 2 (.loop (.seq (.reg false ycsq) (.seq (.cond (.tmp 29) .skip (.exit 2)) (.seq (.block 3 (.seq (.reg false ycle) (.reg true ycqb))) (.reg false ybvw)))))))))) (.reg false ybvm))))))) (.seq (.reg false ycej) .ret))))
theorem yckq:Fn 96 c96 [.t 4]:=fn_0 Tryz.func96 (by kernel_rfl) (by kernel_rfl)
def ycdr:LO:=[o3 (.box 75 (.tmp 1)) 4 0,o3 (.mv (ci' 0)) 6 0]
def ybvh:LO:=[mv' 2 8 0,o3 (.idxA 2 1 (.tmp 4) (ci' 0)) 9 0,ld' false 1 9 10 2,bn' .geq 8 10 11 7,mv' 11 12 15,⟨.mv (.tmp 2),some 13,some (12,true),31⟩,⟨.idxA 2 1 (.tmp 4) (ci' 1),some 14,some (12,true),31⟩,⟨.load false 1 (.tmp 14),some 15,some (12,true),95⟩,⟨.bin .leq (.tmp 13) (.tmp 15),some 16,some (12,true),255⟩,o3 (.pick (.tmp 12) (.tmp 16) (.const (.bool false))) 17 511,mv' 17 7 1023]
def ycco:LO:=[mv' 2 18 0,mv' 18 6 1]
def ybzr:LO:=[mv' 0 20 0,o3 (.bin .eql (.tmp 20) (ci' 3)) 21 1,mv' 21 19 3]
def ycdq:LO:=[o3 (.mv (.const (.int .i64 (-1)))) 6 0]
def ycbh:LO:=[mv' 2 23 0,o3 (.idxA 2 1 (.tmp 4) (ci' 0)) 24 0,ld' false 1 24 25 2,bn' .lss 23 25 26 7,mv' 26 22 15]
def yceg:LO:=[o3 (.idxA 2 1 (.tmp 4) (ci' 0)) 27 0,ld' false 1 27 28 1,mv' 28 6 3]
def ybyk:LO:=[o3 (.idxA 2 1 (.tmp 4) (ci' 1)) 29 0,ld' false 1 29 30 1,mv' 30 6 3]
def c136:SC:=(.seq (.reg false ycdr) (.seq (.block 0 (.seq (.reg false ybvh) (.cond (.tmp 7) (.seq (.reg false ycco) .ret) (.seq (.reg false ybzr) (.cond (.tmp 19) (.seq (.reg false ycdq) .ret) (.seq (.reg false ycbh) (.cond (.tmp 22) (.seq (.reg false yceg) .ret) .skip))))))) (.seq (.reg false ybyk) .ret)))
theorem ycgr:Fn 136 c136 [.t 6]:=fn_0 Tryz.func136 (by kernel_rfl) (by kernel_rfl)
def ycmt:LO:=[o3 (.box 42 (.tmp 0)) 2 0,o3 (.box 25 (.tmp 1)) 3 0,o3 (.mv (ci' 0)) 4 0]
def ycpr:LO:=[ld' true 3 2 9 0,cl' 130 [9] 10 1,o3 (.un .not (.tmp 10)) 11 3]
def ycru:LO:=[o3 (.mv (ci' 8)) 4 0]
def ycre:LO:=[ld' true 2 3 12 0,cl' 64 [12] 13 1,o3 (.un .not (.tmp 13)) 14 3]
def yclz:LO:=[o3 (.mv (ci' 1)) 4 0]
def ycor:LO:=[fa' 1 1 2 15 0,ld' false 1 15 16 1,ln' 16 17 3,o3 (.mv (ci' 0)) 18 0]
def ycow:LO:=[bn' .lss 18 17 19 0]
def ycpy:LO:=[ix' 6 16 18 20 0,ld' true 6 20 21 1,o3 (.alloc 93 1 [.a (.string (ByteArray.mk #[])),.i .i64 0,.i .i64 0,.i .i64 0,.i .i64 0,.i .i64 0]) 6 0,o0 (.store 6 (.tmp 6) (.tmp 21)) 7]
def ycql:LO:=[fa' 1 1 6 22 0,ld' false 1 22 23 1,o3 (.bin .neq (.tmp 23) (ci' 1)) 24 3]
def ycqk:LO:=[ld' true 6 6 26 0,ld' true 2 3 27 0,o3 (.call (.func 131) [(.tmp 26),(.tmp 27),(ci' 0)]) 28 3,mv' 28 25 7,xt' 25 0 29 15,xt' 25 1 30 15,mv' 29 7 31,mv' 30 8 127]
def ybwd:LO:=[mv' 8 31 0,mv' 7 32 0,bn' .lss 31 32 33 3,mv' 33 34 7,⟨.mv (.tmp 8),some 35,some (34,false),15⟩,⟨.mv (.tmp 7),some 36,some (34,false),15⟩,⟨.bin .sub (.tmp 35) (.tmp 36),some 37,some (34,false),63⟩,⟨.bin .add (.tmp 37) (ci' 1),some 38,some (34,false),127⟩,⟨.bin .gtr (.tmp 38) (ci' 4096),some 39,some (34,false),255⟩,o3 (.pick (.tmp 34) (.const (.bool true)) (.tmp 39)) 40 511]
def ycea:LO:=[o3 (.mv (ci' 9)) 4 0]
def ybvq:LO:=[o3 (.bin .add (.tmp 18) (ci' 1)) 41 0,mv' 41 18 1]
def ycao:LO:=[o3 (.mv (ci' 0)) 4 0]
def c94:SC:=(.seq (.reg false ycmt) (.seq (.seq (.reg false ycpr) (.cond (.tmp 11) (.seq (.reg false ycru) .ret) .skip)) (.seq (.seq (.reg false ycre) (.cond (.tmp 14) (.seq (.reg false yclz) .ret) .skip)) (.seq (.seq (.reg false ycor) (.block 0 (.loop (.seq (.reg false ycow) (.seq (.cond (.tmp 19) .skip (.exit 0)) (.seq (.block 1 (.seq (.reg false ycpy) (.seq (.seq (.reg false ycql) (.cond (.tmp 24) (.exit 1) .skip)) (.seq (.reg false ycqk) (.seq (.reg false ybwd) (.cond (.tmp 40) (.seq (.reg false ycea) .ret) .skip)))))) (.reg false ybvq))))))) (.seq (.reg false ycao) .ret)))))
theorem ycqc:Fn 94 c94 [.t 4]:=fn_0 Tryz.func94 (by kernel_rfl) (by kernel_rfl)
def ycng:LO:=[o3 (.box 42 (.tmp 0)) 3 0,o3 (.box 25 (.tmp 1)) 4 0,o3 (.mv (ci' 0)) 6 0]
def yctd:LO:=[ld' true 3 3 8 0,ld' true 2 4 9 0,cl' 94 [8,9] 10 3,mv' 10 7 7]
def ycqw:LO:=[mv' 7 11 0,o3 (.bin .neq (.tmp 11) (ci' 0)) 12 1]
def yclb:LO:=[mv' 7 13 0,mv' 13 6 1]
def ycmu:LO:=[ld' true 3 3 14 0,ld' true 2 4 15 0,cl' 96 [14,15] 16 3,mv' 2 17 0,cl' 95 [16,17] 18 15,o3 (.un .not (.tmp 18)) 19 31]
def ycod:LO:=[o3 (.mv (ci' 10)) 6 0]
def yckl:LO:=[o3 (.mv (ci' 0)) 6 0]
def c59:SC:=(.seq (.reg false ycng) (.seq (.seq (.reg false yctd) (.seq (.reg false ycqw) (.cond (.tmp 12) (.seq (.reg false yclb) .ret) .skip))) (.seq (.seq (.reg false ycmu) (.cond (.tmp 19) (.seq (.reg false ycod) .ret) .skip)) (.seq (.reg false yckl) .ret))))
theorem ycpk:Fn 59 c59 [.t 6]:=fn_0 Tryz.func59 (by kernel_rfl) (by kernel_rfl)
def ycqi:LO:=[o3 (.mv (.const (.bool false))) 4 0]
def ycoq:LO:=[mv' 1 7 0,ln' 7 8 1,mv' 0 9 0,ln' 9 10 4,bn' .neq 8 10 11 15]
def ycrh:LO:=[o3 (.mv (.const (.bool false))) 4 0]
def ycqg:LO:=[mv' 0 12 0,ln' 12 13 1,o3 (.mv (ci' 0)) 14 0]
def ycll:LO:=[bn' .lss 14 13 15 0]
def ycrx:LO:=[mv' 14 16 0,ix' 1 12 14 17 0,ld' false 1 17 18 2,mv' 16 5 7,mv' 18 6 15]
def yckw:LO:=[mv' 6 19 0,mv' 1 20 0,mv' 5 21 0,ix' 1 20 21 22 6,ld' false 1 22 23 14,cl' 132 [19,23] 24 31,o3 (.un .not (.tmp 24)) 25 63]
def ycny:LO:=[o3 (.mv (.const (.bool false))) 4 0]
def ycnc:LO:=[o3 (.bin .add (.tmp 14) (ci' 1)) 26 0,mv' 26 14 1]
def yckm:LO:=[o3 (.mv (.const (.bool true))) 4 0]
def c95:SC:=(.seq (.reg false ycqi) (.seq (.seq (.reg false ycoq) (.cond (.tmp 11) (.seq (.reg false ycrh) .ret) .skip)) (.seq (.seq (.reg false ycqg) (.block 0 (.loop (.seq (.reg false ycll) (.seq (.cond (.tmp 15) .skip (.exit 0)) (.seq (.block 1 (.seq (.reg false ycrx) (.seq (.reg false yckw) (.cond (.tmp 25) (.seq (.reg false ycny) .ret) .skip)))) (.reg false ycnc))))))) (.seq (.reg false yckm) .ret))))
theorem ycna:Fn 95 c95 [.t 4]:=fn_0 Tryz.func95 (by kernel_rfl) (by kernel_rfl)
def ybwu:LO:=[o3 (.mv (.const (.bool false))) 4 0]
def ybvx:LO:=[mv' 1 7 0,ln' 7 8 1,mv' 0 9 0,ln' 9 10 4,bn' .neq 8 10 11 15]
def ybzj:LO:=[o3 (.mv (.const (.bool false))) 4 0]
def ybzs:LO:=[mv' 1 12 0,ln' 12 13 1,o3 (.mv (ci' 0)) 14 0]
def ycde:LO:=[bn' .lss 14 13 15 0]
def ybxk:LO:=[mv' 14 16 0,ix' 1 12 14 17 0,ld' false 1 17 18 2,mv' 16 5 7,mv' 18 6 15]
def ycam:LO:=[mv' 6 19 0,mv' 0 20 0,mv' 5 21 0,ix' 2 20 21 22 6,o3 (.idxA 2 1 (.tmp 22) (ci' 0)) 23 14,ld' false 1 23 24 30,bn' .lss 19 24 25 63,mv' 25 26 127,⟨.mv (.tmp 6),some 27,some (26,false),255⟩,⟨.mv (.tmp 0),some 28,some (26,false),255⟩,⟨.mv (.tmp 5),some 29,some (26,false),255⟩,⟨.idx 2 (.tmp 28) (.tmp 29),some 30,some (26,false),1791⟩,⟨.idxA 2 1 (.tmp 30) (ci' 1),some 31,some (26,false),3839⟩,⟨.load false 1 (.tmp 31),some 32,some (26,false),7935⟩,⟨.bin .gtr (.tmp 27) (.tmp 32),some 33,some (26,false),16383⟩,o3 (.pick (.tmp 26) (.const (.bool true)) (.tmp 33)) 34 32767]
def ybya:LO:=[o3 (.mv (.const (.bool false))) 4 0]
def ycdp:LO:=[o3 (.bin .add (.tmp 14) (ci' 1)) 35 0,mv' 35 14 1]
def ybyf:LO:=[o3 (.mv (.const (.bool true))) 4 0]
def c132:SC:=(.seq (.reg false ybwu) (.seq (.seq (.reg false ybvx) (.cond (.tmp 11) (.seq (.reg false ybzj) .ret) .skip)) (.seq (.seq (.reg false ybzs) (.block 0 (.loop (.seq (.reg false ycde) (.seq (.cond (.tmp 15) .skip (.exit 0)) (.seq (.block 1 (.seq (.reg false ybxk) (.seq (.reg false ycam) (.cond (.tmp 34) (.seq (.reg false ybya) .ret) .skip)))) (.reg false ycdp))))))) (.seq (.reg false ybyf) .ret))))
theorem ychq:Fn 132 c132 [.t 4]:=fn_0 Tryz.func132 (by kernel_rfl) (by kernel_rfl)
def yccp:LO:=[o3 (.mv (.const (.slice none 0 0))) 2 0]
def ycdo:LO:=[mv' 0 6 0,ln' 6 7 1,o3 (.mk 22 1 24 [.a (.slice none 0 0)] (.tmp 7) (.tmp 7)) 8 3,mv' 8 3 7]
def yccg:LO:=[mv' 0 9 0,ln' 9 10 1,o3 (.mv (ci' 0)) 11 0]
def ybhh:LO:=[bn' .lss 11 10 12 0]
def ybos:LO:=[mv' 11 13 0,ix' 1 9 11 14 0,ld' false 1 14 15 2,mv' 13 4 7,mv' 15 5 15]
def ybkc:LO:=[mv' 3 16 0,mv' 4 17 0,mv' 5 18 0,o3 (.app 3 1 8 (.const (.slice none 0 0)) (.tmp 18)) 19 4,ix' 1 16 17 20 15,o0 (.store 1 (.tmp 20) (.tmp 19)) 31]
def ybpj:LO:=[o3 (.bin .add (.tmp 11) (ci' 1)) 21 0,mv' 21 11 1]
def ybmo:LO:=[mv' 3 22 0,mv' 22 2 1]
def c101:SC:=(.seq (.reg false yccp) (.seq (.reg false ycdo) (.seq (.seq (.reg false yccg) (.block 0 (.loop (.seq (.reg false ybhh) (.seq (.cond (.tmp 12) .skip (.exit 0)) (.seq (.block 1 (.seq (.reg false ybos) (.reg false ybkc))) (.reg false ybpj))))))) (.seq (.reg false ybmo) .ret))))
theorem ybrw:FnM 101 c101 [.t 2]:=fn_m Tryz.func101 (by kernel_rfl) (by kernel_rfl)
def ycrd:LO:=[o3 (.box 42 (.tmp 0)) 2 0,o3 (.box 25 (.tmp 1)) 3 0,o3 (.mv (.const (.pointer none))) 4 0]
def yctb:LO:=[ld' true 3 2 5 0,ld' true 3 2 6 0,ld' true 2 3 7 0,cl' 97 [6,7] 8 6,ld' true 3 2 9 0,ld' true 2 3 10 0,cl' 96 [9,10] 11 62,o3 (.build [.a (.string (ByteArray.mk #[])),.a (.slice none 0 0),.a (.slice none 0 0),.a (.pointer none),.a (.slice none 0 0)] [(0,3,(.tmp 5)),(3,1,(.tmp 8)),(4,1,(.tmp 11))]) 12 127,o3 (.box 117 (.tmp 12)) 13 255,mv' 13 4 511]
def c60:SC:=(.seq (.reg false ycrd) (.seq (.reg true yctb) .ret))
theorem ycoo:Fn 60 c60 [.t 4]:=fn_0 Tryz.func60 (by kernel_rfl) (by kernel_rfl)
def ycab:LO:=[o3 (.mv (ci' 0)) 6 0]
def ycbm:LO:=[mv' 0 8 0,o3 (.nilck (.tmp 8)) 9 1,fa' 0 3 9 10 3,fa' 2 1 10 11 7,ld' false 1 11 12 15,ln' 12 13 31,o3 (.mv (ci' 0)) 14 0]
def ycdf:LO:=[bn' .lss 14 13 15 0]
def ybvf:LO:=[mv' 14 16 0,mv' 16 7 1]
def ycdt:LO:=[mv' 0 17 0,o3 (.nilck (.tmp 17)) 18 1,fa' 3 1 18 19 3,ld' false 1 19 20 7,mv' 1 21 0,mv' 2 22 0,mv' 7 23 0,cl' 134 [20,21,22,23] 24 127]
def ybzm:LO:=[mv' 7 25 0,mv' 25 6 1]
def ybwe:LO:=[o3 (.bin .add (.tmp 14) (ci' 1)) 26 0,mv' 26 14 1]
def ybwf:LO:=[o3 (.mv (.const (.int .i64 (-1)))) 6 0]
def c100:SC:=(.seq (.reg false ycab) (.seq (.seq (.reg false ycbm) (.block 0 (.loop (.seq (.reg false ycdf) (.seq (.cond (.tmp 15) .skip (.exit 0)) (.seq (.block 1 (.seq (.reg false ybvf) (.seq (.reg false ycdt) (.cond (.tmp 24) (.seq (.reg false ybzm) .ret) .skip)))) (.reg false ybwe))))))) (.seq (.reg false ybwf) .ret)))
theorem ycik:Fn 100 c100 [.t 6]:=fn_0 Tryz.func100 (by kernel_rfl) (by kernel_rfl)
def ycpb:LO:=[o3 (.box 71 (.tmp 0)) 2 0,o3 (.box 26 (.tmp 1)) 3 0,o3 (.mv (.const (.int .u32 0))) 4 0]
def ycok:LO:=[ld' false 1 2 5 0,o3 (.nilck (.tmp 5)) 6 1,fa' 4 1 6 7 3,ld' false 1 7 8 7,ln' 8 9 15,o3 (.mkfn 99 [] [(.tmp 2),(.tmp 3)]) 10 0,cl' 98 [9,10] 11 63,mv' 11 4 127]
def c61:SC:=(.seq (.reg false ycpb) (.seq (.reg false ycok) .ret))
theorem ycmz:Fn 61 c61 [.t 4]:=fn_0 Tryz.func61 (by kernel_rfl) (by kernel_rfl)
def ycph:LO:=[o3 (.mv (.const (.bool false))) 4 0]
def ycpj:LO:=[ld' false 1 1 5 0,ld' false 1 2 6 0,mv' 0 7 0,cl' 100 [5,6,7] 8 7,o3 (.bin .geq (.tmp 8) (ci' 0)) 9 15,mv' 9 4 31]
def c99:SC:=(.seq (.reg false ycph) (.seq (.reg false ycpj) .ret))
theorem yclv:Fn 99 c99 [.t 4]:=fn_0 Tryz.func99 (by kernel_rfl) (by kernel_rfl)
def ycbj:LO:=[o3 (.mv (.const (.slice none 0 0))) 8 0]
def ycas:LO:=[mv' 1 13 0,mv' 2 14 0,ix' 1 13 14 15 3,ld' false 1 15 16 7,o3 (.app 3 1 8 (.const (.slice none 0 0)) (.tmp 16)) 17 15,mv' 17 9 31]
def ybww:LO:=[mv' 0 18 0,o3 (.nilck (.tmp 18)) 19 1,fa' 0 3 19 20 3,fa' 2 1 20 21 7,ld' false 1 21 22 15,mv' 3 23 0,ix' 3 22 23 24 63,fa' 2 1 24 25 127,ld' false 1 25 26 255,ln' 26 27 511,o3 (.mv (ci' 0)) 28 0]
def ybwn:LO:=[bn' .lss 28 27 29 0]
def ybye:LO:=[ix' 2 26 28 30 0,ld' true 2 30 31 1,o3 (.alloc 156 1 [.i .i64 0,.a (.slice none 0 0)]) 11 0,o0 (.store 2 (.tmp 11) (.tmp 31)) 7]
def ybva:LO:=[mv' 0 32 0,o3 (.nilck (.tmp 32)) 33 1,fa' 3 1 33 34 3,ld' false 1 34 35 7,mv' 1 36 0,mv' 2 37 0,fa' 1 1 11 38 0,ld' false 1 38 39 64,cl' 135 [35,36,37,39] 40 255,mv' 40 12 511]
def ybxf:LO:=[mv' 9 41 0,fa' 0 1 11 42 0,ld' false 1 42 43 2,mv' 0 44 0,o3 (.nilck (.tmp 44)) 45 8,fa' 0 3 45 46 24,fa' 1 1 46 47 56,ld' false 1 47 48 120,fa' 0 1 11 49 0,ld' false 1 49 50 256,ix' 6 48 50 51 1016,fa' 1 1 51 52 2040,ld' false 1 52 53 4088,mv' 0 54 0,o3 (.nilck (.tmp 54)) 55 8192,fa' 4 1 55 56 24576,ld' false 1 56 57 57344,mv' 2 58 0,ix' 1 57 58 59 253952,ld' false 1 59 60 516096,fa' 0 1 11 61 0,ld' false 1 61 62 1048576,ix' 2 60 62 63 4186112,ld' true 2 63 64 8380416,mv' 12 65 0,cl' 136 [53,64,65] 66 33554424,ix' 1 41 43 67 67108863,o0 (.store 1 (.tmp 67) (.tmp 66)) 134217727]
def ybvc:LO:=[o3 (.bin .add (.tmp 28) (ci' 1)) 68 0,mv' 68 28 1]
def ycck:LO:=[mv' 9 69 0,mv' 69 8 1]
def c102:SC:=(.seq (.reg false ycbj) (.seq (.reg false ycas) (.seq (.seq (.reg false ybww) (.block 0 (.loop (.seq (.reg false ybwn) (.seq (.cond (.tmp 29) .skip (.exit 0)) (.seq (.block 1 (.seq (.reg false ybye) (.seq (.reg true ybva) (.reg true ybxf)))) (.reg false ybvc))))))) (.seq (.reg false ycck) .ret))))
theorem ycht:Fn 102 c102 [.t 8]:=fn_0 Tryz.func102 (by kernel_rfl) (by kernel_rfl)
def ycmp:LO:=[o3 (.mv (.const (.slice none 0 0))) 6 0]
def yclu:LO:=[mv' 1 9 0,cl' 101 [9] 10 1,mv' 10 7 3]
def ycnu:LO:=[mv' 1 11 0,ln' 11 12 1,o3 (.mv (ci' 0)) 13 0]
def ycsk:LO:=[bn' .lss 13 12 14 0]
def ycta:LO:=[mv' 13 15 0,mv' 15 8 1]
def ycmc:LO:=[mv' 2 16 0,mv' 8 17 0,bn' .shr 16 17 18 3,o3 (.bin .and (.tmp 18) (.const (.int .u32 1))) 19 7,o3 (.bin .eql (.tmp 19) (.const (.int .u32 1))) 20 15]
def ycry:LO:=[mv' 7 21 0,mv' 8 22 0,mv' 0 23 0,mv' 1 24 0,mv' 8 25 0,mv' 0 26 0,mv' 1 27 0,mv' 8 28 0,cl' 100 [26,27,28] 29 224,cl' 102 [23,24,25,29] 30 508,ix' 1 21 22 31 1023,o0 (.store 1 (.tmp 31) (.tmp 30)) 2047]
def yckx:LO:=[o3 (.bin .add (.tmp 13) (ci' 1)) 32 0,mv' 32 13 1]
def ycon:LO:=[mv' 7 33 0,mv' 33 6 1]
def c62:SC:=(.seq (.reg false ycmp) (.seq (.reg false yclu) (.seq (.seq (.reg false ycnu) (.block 0 (.loop (.seq (.reg false ycsk) (.seq (.cond (.tmp 14) .skip (.exit 0)) (.seq (.block 1 (.seq (.reg false ycta) (.seq (.reg false ycmc) (.cond (.tmp 20) (.reg false ycry) .skip)))) (.reg false yckx))))))) (.seq (.reg false ycon) .ret))))
theorem ycjq:FnU 62 c62 [.t 6]:=fn_u Tryz.func62 (by kernel_rfl) (by kernel_rfl)
def ycqt:LO:=[o3 (.mv (.const (.int .u32 0))) 4 0]
def ycsj:LO:=[o3 (.mv (.const (.int .u32 0))) 5 0]
def ycqj:LO:=[mv' 0 7 0,o3 (.mv (ci' 0)) 8 0]
def yckp:LO:=[bn' .lss 8 7 9 0]
def ycpv:LO:=[mv' 8 10 0,mv' 10 6 1]
def ycrg:LO:=[mv' 1 11 0,mv' 6 12 0,o3 (.call (.tmp 11) [(.tmp 12)]) 13 3]
def ycoa:LO:=[mv' 5 14 0,mv' 6 15 0,o3 (.bin .shl (.const (.int .u32 1)) (.tmp 15)) 16 2,bn' .or 14 16 17 7,mv' 17 5 15]
def ycoe:LO:=[o3 (.bin .add (.tmp 8) (ci' 1)) 18 0,mv' 18 8 1]
def yckn:LO:=[mv' 5 19 0,mv' 19 4 1]
def c98:SC:=(.seq (.reg false ycqt) (.seq (.reg false ycsj) (.seq (.seq (.reg false ycqj) (.block 0 (.loop (.seq (.reg false yckp) (.seq (.cond (.tmp 9) .skip (.exit 0)) (.seq (.block 1 (.seq (.reg false ycpv) (.seq (.reg false ycrg) (.cond (.tmp 13) (.reg false ycoa) .skip)))) (.reg false ycoe))))))) (.seq (.reg false yckn) .ret))))
theorem ycpe:Fn 98 c98 [.t 4]:=fn_0 Tryz.func98 (by kernel_rfl) (by kernel_rfl)
end Sh
end
section
namespace Sh
open Go Ev
theorem mulB{a b:Int}(ha:InB a)(hb:InB b):-1152921504606846976<=a*b/\a*b<=1152921504606846976:=by
 unfold InB at *
 have h:(a*b).natAbs<=1073741824*1073741824:=by
  rw[zAD];exact zAE (by omega) (by omega)
 omega
theorem ydl(b:Bool):Returns zF 194 [.b b] (.i .i64 (yeh b)):=by
 refine Returns.of (ycgc _ _ ?_);simp only[c194,ybxp,ycdz,ybxm,yccl,ybb,yeh,go_sem,↓reduceIte,reduceCtorEq];cases b<;>simp
theorem ydc(a:Int):Returns zF 196 [.i .i64 a] (.i .i64 (satP a)):=by
 refine Returns.of (ycha _ _ ?_);simp only[c196,ybyc,ybzo,ybb,satP,go_sem,zA,zB,↓reduceIte,reduceCtorEq]
theorem ycmr{a b:Int}(ha:InB a):-1073741824<=a.tdiv b/\a.tdiv b<=1073741824:=by
 have h1:(a.tdiv b).natAbs=a.natAbs/b.natAbs:=Int.natAbs_tdiv a b;have h2:a.natAbs/b.natAbs<=a.natAbs:=Nat.div_le_self _ _;rw[<-h1]at h2;unfold InB at ha;omega
theorem ybsc{a b:Int}(ha:InB a):-1073741825<=yqq a b/\yqq a b<=1073741824:=by
 have:=ycmr (b:=b) ha;unfold yqq;split
 ·omega
 ·split<;>omega
theorem ybll{a b:Int}(ha:InB a)(hb:InB b):-1152921505680588800<=b*yqq a b/\b*yqq a b<=1152921505680588800:=by
 have h1:=ybsc (b:=b) ha
 have h:(b*yqq a b).natAbs<=1073741824*1073741825:=by
  unfold InB at *;rw[zAD];exact zAE (by omega) (by omega)
 omega
theorem ybpk(op a:Int)(ha:InB a):Returns zF 175 [.i .i64 op,.i .i64 a] (.i .i64 (unP op a)):=by
 refine Returns.of (ycgn _ _ ?_);simp only[c175,ybwi,ybvp,ycbp,ycbu,ybb,unP,IntKind.signed,go_sem,zA,zB,↓reduceIte,reduceCtorEq];unfold InB at ha;refine⟨fun h=>⟨ikw (by omega) (by omega),by rw[if_pos h];omega⟩,fun h=>(ydl _).use ?_⟩
 simp only[ybe,ybb,go_sem,zA,zB,↓reduceIte,reduceCtorEq];rw[if_neg h]
theorem ymn(a b:Int)(ha:InB a):Returns zF 197 [.i .i64 a,.i .i64 b] (.i .i64 (yqq a b)):=by
 refine Returns.of (ycfd _ _ ?_);simp only[c197,ycbk,ycbe,ybxj,ycca,ycae,ycby,yccz,ybb,yqq,go_sem,zA,zB,↓reduceIte,reduceCtorEq];have:=ycmr (b:=b) ha;refine⟨fun h=>by rw[if_pos h],fun h=>⟨⟨h,ikw (by omega) (by omega)⟩,h,fun h1=>⟨fun h2=>⟨ikw (by omega) (by omega),?_⟩,fun h2=>?_⟩,fun h1=>?_⟩⟩
 ·rw[if_neg h,if_pos ⟨h1,h2⟩]
 ·rw[if_neg h,if_neg (fun q=>q.2 h2)]
 ·rw[if_neg h,if_neg (fun q=>q.1 h1)]
theorem yxk(op a b:Int):Returns zF 198 [.i .i64 op,.i .i64 a,.i .i64 b] (.b (cmpP op a b)):=by
 refine Returns.of (ycfm _ _ ?_);simp only[c198,ycbf,ycdk,ybxq,ycdw,yccb,ybzf,ycbc,ybvi,ycak,ybwz,ybpp,yblm,yblz,yer,cmpP,go_sem,zA,zB,↓reduceIte,reduceCtorEq];refine⟨fun h=>by rw[if_pos h],fun h35=>⟨fun h=>by rw[if_neg h35,if_pos h],fun h36=>⟨fun h=>by rw[if_neg h35,if_neg h36,if_pos h],fun h37=>⟨fun h=>by rw[if_neg h35,if_neg h36,if_neg h37,if_pos h],fun h38=>⟨fun h=>by rw[if_neg h35,if_neg h36,if_neg h37,if_neg h38,if_pos h],fun h39=>by rw[if_neg h35,if_neg h36,if_neg h37,if_neg h38,if_neg h39]⟩⟩⟩⟩⟩
theorem ybgf(op a b:Int)(ha:InB a)(hb:InB b):Returns zF 177 [.i .i64 op,.i .i64 a,.i .i64 b] (.i .i64 (binP op a b)):=by
 refine Returns.of (ycgb _ _ ?_);simp only[c177,ycbv,ybwx,ycdd,ycbq,yccd,ybwk,ybwq,ycbl,ybvg,ybvy,ybpo,ybhs,ybmw,yblp,ybmc,ybiz,ybnb,ybpi,ybpr,ybb,go_sem,zA,zB,↓reduceIte,reduceCtorEq];have hm:=mulB ha hb;have hq:=ybll ha hb;have hA:=ha;have hB:=hb;unfold InB at hA hB;refine⟨fun h=>⟨ikw (by omega) (by omega),(ydc _).use ?_⟩,fun h30=>⟨fun h=>(ymn a b ha).use ?_,fun h31=>⟨fun h=>⟨fun h0=>?_,fun h0=>(ymn a b ha).use ?_⟩,fun h32=>⟨fun h=>⟨ikw (by omega) (by omega),(ydc _).use ?_⟩,fun h33=>⟨fun h=>⟨ikw (by omega) (by omega),(ydc _).use ?_⟩,fun h34=>?_⟩⟩⟩⟩⟩
 ·simp only[ybe,ybb,go_sem,zA,zB,↓reduceIte,reduceCtorEq];simp[binP,h]
 ·simp only[ybe,go_sem,zA,zB,↓reduceIte,reduceCtorEq];refine(ydc _).use ?_;simp only[ybb,go_sem];simp[binP,h]
 ·simp[binP,h,h0]
 ·simp only[ybe,go_sem,zA,zB,↓reduceIte,reduceCtorEq];refine⟨ikw (by omega) (by omega),ikw (by omega) (by omega),(ydc _).use ?_⟩
  simp only[ybb,go_sem];simp[binP,h,h0]
 ·simp only[ybe,ybb,go_sem,zA,zB,↓reduceIte,reduceCtorEq];simp[binP,h]
 ·simp only[ybe,ybb,go_sem,zA,zB,↓reduceIte,reduceCtorEq];simp[binP,h]
 ·refine⟨fun h=>?_,fun h41=>⟨fun h=>?_,fun h42=>?_⟩⟩
  ·refine⟨fun h1=>(ydl _).use ?_,fun h1=>(ydl _).use ?_⟩
   ·simp only[ybe,ybb,go_sem,zA,zB,↓reduceIte,reduceCtorEq];simp[binP,h];rw[show(a != 0)=true by simpa using h1];simp
   ·simp only[ybe,ybb,go_sem,zA,zB,↓reduceIte,reduceCtorEq];simp[binP,h,h1]
  ·refine⟨fun h1=>(ydl _).use ?_,fun h1=>(ydl _).use ?_⟩
   ·simp only[ybe,ybb,go_sem,zA,zB,↓reduceIte,reduceCtorEq];simp[binP,h,h1]
   ·simp only[ybe,ybb,go_sem,zA,zB,↓reduceIte,reduceCtorEq];simp[binP,h];rw[show(a != 0)=true by simpa using h1];simp
  ·refine(yxk op a b).use ?_;simp only[ybe,go_sem,zA,zB,↓reduceIte,reduceCtorEq];refine(ydl _).use ?_;simp only[ybb,go_sem];simp[binP,h30,h31,h32,h33,h34,h41,h42]
end Sh
end
section
namespace Sh
open Go Ev
theorem yqd{l:List Int}{k:Nat}(h:k<l.length):countP (l.take (k+1))=countP (l.take k)+(if l.getD k 0≠0 then 1 else 0):=by
 unfold countP;rw[zH h,List.filter_append,zO,getD_at h]
 by_cases q:l[k]=0
 ·simp[q]
 ·simp[q]
theorem ybat{l:List Int}(k:Nat):0<=countP (l.take k)/\countP (l.take k)<=k:=by
 have:=countP_le (l.take k);simp only[List.length_take]at this;omega
theorem ybja(l:List Int)(hl:l.length<=1000):Returns zF 204 [yj l] (.i .i64 (countP l)):=by
 refine Returns.of (ycgo _ _ ?_);simp only[c204,ybzi,ybxi,ybuz,yj,go_sem,zB,↓reduceIte,reduceCtorEq];refine ybj (σ:=Nat) (fun k=>⟨[(8,.i .i64 k),(3,.i .i64 (countP (l.take k))),(6,yj l),(7,.i .i64 l.length)],[]⟩) (fun k=>k<=l.length) (fun k=>l.length-k) 0 (zL _) ?_ ?_
 ·refine yh [] [] [] ?_;simp only[yj,allQ,live,yg,ybb,zI,go_sem,zA,↓reduceIte,reduceCtorEq];simp[countP]
 ·intro k hk;simp only[ybyz,ycdl,ybyq,ycek,ybzy,ycem,yj,ybb,go_sem,zA,zB,↓reduceIte,reduceCtorEq];have hb:=ybat (l:=l) k;refine⟨fun hlt=>⟨by omega,fun h0=>⟨ikw (by omega) (by omega),ikw (by omega) (by omega),?_⟩,fun h0=>⟨ikw (by omega) (by omega),?_⟩⟩,fun hlt=>?_⟩
  ·have hk':k<l.length:=by omega
   refine yu (k+1) (by omega) (by omega) ?_
   refine yh [] [] [] ?_;simp only[yqd hk',if_pos h0,allQ,live,yg,ybb,go_sem,zA,↓reduceIte,reduceCtorEq];simp
  ·have hk':k<l.length:=by omega
   refine yu (k+1) (by omega) (by omega) ?_
   refine yh [] [] [] ?_;simp only[yqd hk',if_neg (not_not_intro h0),allQ,live,yg,ybb,go_sem,zA,↓reduceIte,reduceCtorEq];simp
  ·rw[zK (by omega)]
theorem ymx{l:List Int}{k:Nat}(h:k<l.length):ydj (l.take (k+1))=(if l.getD k 0>(ydj (l.take k)).1 then(l.getD k 0,(ydj (l.take k)).1)else((ydj (l.take k)).1,max (ydj (l.take k)).2 (l.getD k 0))):=by
 unfold ydj;rw[zH h,zX,getD_at h];rfl
theorem yqb(l:List Int)(hl:l.length<=1000):Returns zF 207 [yj l] (.tp [.i .i64 (ydj l).1,.i .i64 (ydj l).2]):=by
 refine Returns.of (ycid _ _ ?_);simp only[c207,ybwl,ycdj,ycay,yj,go_sem,zB,↓reduceIte,reduceCtorEq];refine ybj (σ:=Nat) (fun k=>⟨[(8,.i .i64 k),(2,.i .i64 (ydj (l.take k)).1),(3,.i .i64 (ydj (l.take k)).2),(6,yj l),(7,.i .i64 l.length)],[]⟩) (fun k=>k<=l.length) (fun k=>l.length-k) 0 (zL _) ?_ ?_
 ·refine yh [] [] [] ?_;simp only[yj,allQ,live,yg,ybb,zI,go_sem,zA,↓reduceIte,reduceCtorEq];simp[ydj]
 ·intro k hk;simp only[ybyh,ybxv,ycdx,ycdu,yccm,ycav,ybwy,yj,go_sem,zA,zB,↓reduceIte,reduceCtorEq];refine⟨fun hlt=>⟨by omega,fun h0=>⟨ikw (by omega) (by omega),?_⟩,fun h0=>⟨ikw (by omega) (by omega),?_⟩⟩,fun hlt=>?_⟩
  ·have hk':k<l.length:=by omega
   refine yu (k+1) (by omega) (by omega) ?_
   refine yh [] [] [] ?_;simp only[ymx hk',if_pos h0,allQ,live,yg,ybb,go_sem,zA,↓reduceIte,reduceCtorEq];simp
  ·have hk':k<l.length:=by omega
   refine yu (k+1) (by omega) (by omega) ?_
   refine yh [] [] [] ?_;simp only[ymx hk',if_neg h0,allQ,live,yg,ybb,go_sem,zA,↓reduceIte,reduceCtorEq];simp
  ·rw[zK (by omega)]
   exact Sim.refl _
theorem yvh(l:List Int)(x:Int)(hl:l.length<=100000):Returns zF 212 [yj l,.i .i64 x] (.b (l.elem x)):=by
 refine Returns.of (ycga _ _ ?_);simp only[c212,ybzu,ybyl,yj,go_sem,zA,zB,↓reduceIte,reduceCtorEq];refine(ybhg l x hl).use ?_;simp only[ybe,yer,go_sem,zA,zB,↓reduceIte,reduceCtorEq];unfold idxP;cases h:l.findIdx? (fun y=>x==y)with
 | none =>
   rw[zQ]at h
   have:l.elem x=false:=by
    rw[zAA,decide_eq_false_iff_not];intro hm;have:=h x hm;simp at this
   rw[this];simp
 | some i =>
   obtain⟨h1,h2,_⟩:=List.findIdx?_eq_some_iff_getElem.1 h
   have:l.elem x=true:=by
    rw[zAA,decide_eq_true_eq];have:x=l[i]:=by simpa using h2
    rw[this];exact zV h1
   rw[this];simp
theorem ybgi{l:List Int}{n:Nat}{r:Int}(h:l.elem r=true):yni l (n+1) r=yni l n (r+1):=by
 show(if l.elem r then _ else _)=_;rw[if_pos h]
theorem ybfh{l:List Int}{n:Nat}{r:Int}(h:l.elem r=false):yni l n r=r:=by
 cases n with
 |zero=>rfl
 |succ n=>show(if l.elem r then _ else _)=_;rw[if_neg (by rw[h];simp)]
theorem yvq{l:List Int}{k:Nat}(h:∀j:Nat,j<k->l.elem (j:Int)=true):k<=l.length:=by
 have h1:((zS k).map fun(j:Nat)=>(j:Int)).Nodup:=by
  rw[List.Nodup,List.pairwise_map];exact List.nodup_range.imp fun {a b} hab e=>hab (by omega)
 have h2:((zS k).map fun(j:Nat)=>(j:Int)) ⊆ l:=fun x hx=>by
  obtain⟨j,hj,rfl⟩:=List.mem_map.1 hx;have:=h j (List.mem_range.1 hj)
  simpa using this
 have:=List.Nodup.length_le_of_subset h1 h2
 simpa using this
theorem ycgf(l:List Int)(hl:l.length<=1000):Returns zF 208 [yj l] (.i .i64 (mexP l)):=by
 refine Returns.of (ycgv _ _ ?_);simp only[c208,ycac,ybwg,yj,go_sem];refine ybj (σ:=Nat) (fun k=>⟨[(3,.i .i64 k),(0,yj l)],[]⟩) (fun k=>(∀j:Nat,j<k->l.elem (j:Int)=true)/\mexP l=yni l (l.length+1-k) k) (fun k=>l.length+1-k) 0 ⟨fun j h=>absurd h (Nat.not_lt_zero _),rfl⟩ ?_ ?_
 ·refine yh [] [] [] ?_;simp only[yj,allQ,live,yg,zI,go_sem,↓reduceIte,reduceCtorEq]
 ·intro k ⟨hk,he⟩;have hb:=yvq hk;simp only[ycad,ybyj,ybyu,yj,go_sem,zA,zB,↓reduceIte,reduceCtorEq];refine(yvh l k (by omega)).use ?_
  simp only[ybe,ybb,go_sem,zA,zB,↓reduceIte,reduceCtorEq];refine⟨fun h=>⟨ikw (by omega) (by omega),?_⟩,fun h=>?_⟩
  ·have hk2:∀j:Nat,j<k+1->l.elem (j:Int)=true:=fun j hj=>by
    by_cases q:j<k
    ·exact hk j q
    ·obtain rfl:j=k:=by omega
     exact h
   have hb2:=yvq hk2;refine yu (k+1) ⟨hk2,?_⟩ (by omega) ?_
   ·rw[he,show l.length+1-k=(l.length+1-(k+1))+1 by omega,ybgi h];simp
   ·refine yh [] [] [] ?_;simp only[allQ,live,yg,ybb,go_sem,↓reduceIte,reduceCtorEq];simp
  ·rw[he,ybfh h]
theorem ybic(x:Int):Returns zF 206 [.i .i64 x] (.b (x != 0)):=by
 refine Returns.of (ycgj _ _ ?_);simp only[c206,ycba,ybzq,yer,go_sem,zA,zB,↓reduceIte,reduceCtorEq]
theorem ytt(l:List Int)(hl:l.length<=1000):Returns zF 205 [yj l,.fn 206 [] []] (.i .i64 (yen l)):=by
 refine Returns.of (ycit _ _ ?_);simp only[c205,ycbz,ybyr,yj,go_sem,zB,↓reduceIte,reduceCtorEq];refine ybj (σ:=Nat) (fun k=>⟨[(8,.i .i64 k),(0,yj l),(1,.fn 206 [] []),(7,.i .i64 l.length)],[]⟩) (fun k=>k<=l.length/\(l.take k).findIdx? (· != 0)=none) (fun k=>l.length-k) 0 ⟨zL _,by simp⟩ ?_ ?_
 ·refine yh [] [] [] ?_;simp only[yj,allQ,live,yg,zI,go_sem,zA,↓reduceIte,reduceCtorEq]
 ·intro k ⟨hk,hno⟩;simp only[ycat,ybze,ybxo,yccx,ycbi,ybzd,yj,ybb,go_sem,zA,zB,↓reduceIte,reduceCtorEq];refine⟨fun hlt=>⟨by omega,(ybic _).use ?_⟩,fun hlt=>?_⟩
  ·have hlt:k<l.length:=by omega
   simp only[ybe,ybb,go_sem,zA,zB,↓reduceIte,reduceCtorEq];rw[getD_at hlt];refine⟨fun ha=>?_,fun ha=>⟨ikw (by omega) (by omega),?_⟩⟩
   ·have:l.findIdx? (· != 0)=some k:=by
     rw[List.findIdx?_eq_some_iff_getElem];refine⟨hlt,by simpa using ha,fun j hj=>?_⟩
     rw[zQ]at hno;have:=hno l[j] (List.mem_take_iff_getElem.2 ⟨j,by omega,rfl⟩)
     simpa using this
    unfold yen;rw[this]
   ·refine yu (k+1) ⟨by omega,?_⟩ (by omega) ?_
    ·rw[zH hlt,List.findIdx?_append,hno];simp[ha]
    ·refine yh [] [] [] ?_;simp only[allQ,live,yg,ybb,go_sem,zA,↓reduceIte,reduceCtorEq];simp
  ·obtain rfl:k=l.length:=by omega
   rw[List.take_length]at hno;unfold yen;rw[hno]
end Sh
end
section
namespace Sh
open Go Ev
theorem ybav{l:List Int}{k:Nat}(h:k<l.length):yms (l.take (k+1))=min (yms (l.take k)) (l.getD k 0):=by
 unfold yms;rw[zH h,zX,getD_at h];rfl
theorem yth{l:List Int}{k:Nat}(h:k<l.length):(l.take (k+1)).sum=(l.take k).sum+l.getD k 0:=by
 rw[zH h,List.sum_append,getD_at h];simp
theorem yblk{l:List Int}(h:∀x∈l,InB x):∀k,k<=l.length -> -1073741824*(k:Int)<=(l.take k).sum/\(l.take k).sum<=1073741824*(k:Int)
 |0,_=>by simp
 | k+1,hk=>by
   have ih:=yblk h k (by omega)
   rw[yth (by omega)]
   have:=h l[k] (zV (by omega))
   rw[<-getD_at (d:=0) (show k<l.length by omega)]at this
   unfold InB at this;omega
theorem ybtf(op:Int)(l:List Int)(hl:l.length<=24)(hb:∀x∈l,InB x):Returns zF 195 [.i .i64 op,yj l] (.i .i64 (yha op l)):=by
 refine Returns.of (ychf _ _ ?_);have hin:∀k,k<l.length->InB (l.getD k 0):=fun k hk=>by rw[getD_at hk];exact hb _ (zV hk)
 obtain⟨L,hL⟩:∃L,yj l=L:=⟨_,rfl⟩;have hLs:L = .sl 1 l.length (fun k=>[.i .i64 (l.getD k 0)]):=hL.symm;simp only[c195,ycap,ybvo,ybvd,ybxe,ycah,yccc,ybzk,ybyt,ycan,ycdb,ybmx,ybjw,ybjg,ybnm,ybov,ybiu,ybjz,ybnn,ybkj,ybnq,ybnt,ybms,ybke,yboe,ybpm,yblr,ybls,ybip,ybhr,ybmb,ybnd,ybir,ybim,ybks,ybjl,ybkm,ybjo,yj,go_sem,Int.reduceToNat,zA,zB,↓reduceIte,reduceCtorEq];have hcount:=ybja l (by omega)
 have htwo:=yqb l (by omega)
 simp only[yj]at hcount htwo;refine⟨fun h20=>hcount.use ?_,fun h20=>⟨fun h21=>hcount.use ?_,fun h21=>⟨fun h22=>hcount.use ?_,fun h22=>⟨fun h23=>?_,fun h23=>⟨fun h24=>?_,fun h24=>⟨fun h25=>htwo.use ?_,fun h25=>⟨fun h26=>?_,fun h26=>⟨fun h27=>?_,fun h27=>⟨fun h28=>htwo.use ?_,fun h28=>?_⟩⟩⟩⟩⟩⟩⟩⟩⟩
 ·simp only[ybe,go_sem,zA,zB,↓reduceIte,reduceCtorEq];refine(ydl _).use ?_;simp only[ybb,go_sem];simp[yha,h20]
 ·simp only[ybe,go_sem,zA,zB,↓reduceIte,reduceCtorEq];refine(ydl _).use ?_;simp only[ybb,go_sem];simp[yha,h21]
 ·simp only[ybe,ybb,go_sem,zA,zB,↓reduceIte,reduceCtorEq];simp[yha,h22]
 ·have:=ytt l (by omega)
  simp only[yj]at this;refine this.use ?_;simp only[ybe,ybb,go_sem,zA,zB,↓reduceIte,reduceCtorEq];simp[yha,h23]
 ·refine ybj (σ:=Nat) (fun k=>⟨[(42,.i .i64 k),(5,.i .i64 (yms (l.take k))),(40,yj l),(41,.i .i64 l.length)],[]⟩) (fun k=>k<=l.length) (fun k=>l.length-k) 0 (zL _) ?_ ?_
  ·refine yh [] [] [] ?_;simp only[yj,allQ,live,yg,ybb,zI,go_sem,zA,↓reduceIte,reduceCtorEq];simp[yms]
  ·intro k hk;simp only[yj,ybb,go_sem,zA,zB,↓reduceIte,reduceCtorEq];refine⟨fun hlt=>⟨by omega,ikw (by omega) (by omega),?_⟩,fun hlt=>?_⟩
   ·have hk':k<l.length:=by omega
    refine yu (k+1) (by omega) (by omega) ?_
    refine yh [] [] [] ?_;simp only[ybav hk',allQ,live,yg,ybb,go_sem,zA,↓reduceIte,reduceCtorEq];simp
   ·rw[zK (by omega)]
    simp[yha,h24]
 ·simp only[ybe,ybb,go_sem,zA,zB,↓reduceIte,reduceCtorEq];simp[yha,h25]
 ·refine ybj (σ:=Nat) (fun k=>⟨[(63,.i .i64 k),(10,.i .i64 (l.take k).sum),(61,yj l),(62,.i .i64 l.length)],[]⟩) (fun k=>k<=l.length) (fun k=>l.length-k) 0 (zL _) ?_ ?_
  ·refine yh [] [] [] ?_;simp only[yj,allQ,live,yg,ybb,zI,go_sem,zA,↓reduceIte,reduceCtorEq];simp
  ·intro k hk;simp only[yj,go_sem,zA,zB,↓reduceIte,reduceCtorEq];have hs:=yblk hb k hk;refine⟨fun hlt=>?_,fun hlt=>(ydc _).use ?_⟩
   ·have hk':k<l.length:=by omega
    have hs2:=yblk hb (k+1) hk';rw[yth hk']at hs2;refine⟨by omega,ikw (by omega) (by omega),ikw (by omega) (by omega),?_⟩
    refine yu (k+1) (by omega) (by omega) ?_
    refine yh [] [] [] ?_;simp only[yth hk',allQ,live,yg,ybb,go_sem,zA,↓reduceIte,reduceCtorEq];simp
   ·simp only[ybe,ybb,go_sem,zA,zB,↓reduceIte,reduceCtorEq];rw[zK (by omega)]
    simp[yha,h26]
 ·have:=ycgf l (by omega)
  simp only[yj]at this;refine this.use ?_;simp only[ybe,ybb,go_sem,zA,zB,↓reduceIte,reduceCtorEq];simp[yha,h27]
 ·simp only[ybe,ybb,go_sem,zA,zB,↓reduceIte,reduceCtorEq];simp[yha,h28]
 ·refine⟨fun h0=>?_,fun h0=>⟨by omega,?_⟩⟩
  ·simp only[ybb,go_sem];have:l=[]:=zN (by omega)
   simp[yha,h20,h21,h22,h23,h24,h25,h26,h27,h28,this]
  ·cases l with
   |nil=>simp at h0
   | cons x l=>
     simp only[ybb,go_sem];simp[yha,h20,h21,h22,h23,h24,h25,h26,h27,h28]
end Sh
end
section
def Ex.shp:Ex->Bool
 |.leaf op _=>decide (1<=op/\op<=17)
 |.un op a=>decide (18<=op/\op<=29)&&a.shp
 |.agg op a=>decide (18<=op/\op<=29)&&a.shp
 |.bin op a b=>decide (30<=op/\op<=42)&&a.shp&&b.shp
 |.ite x a b=>x.shp&&a.shp&&b.shp
theorem Ex.ok_shp{nv:Int}:∀(x:Ex) {bnd:Bool},x.ok nv bnd=true->x.shp=true
 | .leaf op arg,bnd,h=>by
   simp only[Ex.ok,zC]at h;exact h.1.1
 | .un op a,bnd,h=>by
   simp only[Ex.ok,zC,decide_eq_true_eq]at h;simp only[Ex.shp,zC,decide_eq_true_eq];exact⟨by omega,Ex.ok_shp a h.2⟩
 | .agg op a,bnd,h=>by
   simp only[Ex.ok,zC,decide_eq_true_eq]at h;simp only[Ex.shp,zC,decide_eq_true_eq];exact⟨by omega,Ex.ok_shp a h.2⟩
 | .bin op a b,bnd,h=>by
   simp only[Ex.ok,zC,decide_eq_true_eq]at h;simp only[Ex.shp,zC,decide_eq_true_eq];exact⟨⟨h.1.1,Ex.ok_shp a h.1.2⟩,Ex.ok_shp b h.2⟩
 | .ite x a b,bnd,h=>by
   simp only[Ex.ok,zC]at h;simp only[Ex.shp,zC];exact⟨⟨Ex.ok_shp x h.1.1,Ex.ok_shp a h.1.2⟩,Ex.ok_shp b h.2⟩
def yje(op:Int):Int:=if op<1\/op>43 then -1 else if op<=17 then 0 else if op<=29 then 1 else if op<=42 then 2 else 3
def serL(ts:List Ex):List Tm:=(ts.map Ex.ser).flatten
def Ex.head:Ex->Tm
 |.leaf op arg=>(op,arg)
 |.un op _=>(op,0)
 |.agg op _=>(op,0)
 |.bin op _ _=>(op,0)
 |.ite _ _ _=>(43,0)
def Ex.subs:Ex->List Ex
 |.leaf _ _=>[]
 |.un _ a=>[a]
 |.agg _ a=>[a]
 |.bin _ a b=>[a,b]
 |.ite x a b=>[x,a,b]
theorem Ex.ser_eq(x:Ex):x.ser=x.head::serL x.subs:=by
 cases x<;>simp[Ex.ser,Ex.head,Ex.subs,serL]
theorem ybuv{op:Int}(h:1<=op/\op<=17):yje op=0:=by
 unfold yje;rw[if_neg (by omega),if_pos (by omega)]
theorem ybci{op:Int}(h:18<=op/\op<=29):yje op=1:=by
 unfold yje;rw[if_neg (by omega),if_neg (by omega),if_pos (by omega)]
theorem ybul{op:Int}(h:30<=op/\op<=42):yje op=2:=by
 unfold yje;rw[if_neg (by omega),if_neg (by omega),if_neg (by omega),if_pos (by omega)]
theorem Ex.arity(x:Ex)(h:x.shp=true):yje x.head.1=x.subs.length:=by
 cases x with
 |leaf op arg=>simp only[Ex.shp,decide_eq_true_eq]at h;exact ybuv h
 |un op a=>simp only[Ex.shp,zC,decide_eq_true_eq]at h;exact ybci h.1
 |agg op a=>simp only[Ex.shp,zC,decide_eq_true_eq]at h;exact ybci h.1
 |bin op a b=>simp only[Ex.shp,zC,decide_eq_true_eq]at h;exact ybul h.1.1
 |ite x a b=>simp[Ex.head,Ex.subs,yje]
theorem Ex.subs_shp(x:Ex)(h:x.shp=true):∀y∈x.subs,y.shp=true:=by
 cases x with
 |leaf op arg=>intro y hy;cases hy
 |un op a=>simp only[Ex.shp,zC]at h;intro y hy;simp[Ex.subs]at hy;subst hy;exact h.2
 |agg op a=>simp only[Ex.shp,zC]at h;intro y hy;simp[Ex.subs]at hy;subst hy;exact h.2
 |bin op a b=>simp only[Ex.shp,zC]at h;intro y hy;simp[Ex.subs]at hy;rcases hy with rfl|rfl<;>first|exact h.1.2|exact h.2
 |ite x a b=>simp only[Ex.shp,zC]at h;intro y hy;simp[Ex.subs]at hy;rcases hy with rfl|rfl|rfl<;>first|exact h.1.1|exact h.1.2|exact h.2
theorem yeb{e:List Tm}{at_:Nat}{t:Tm}{r:List Tm}(h:e.drop at_=t::r):at_<e.length/\e.getD at_ (0,0)=t/\e.drop (at_+1)=r:=by
 have hlt:at_<e.length:=by
  refine zAF fun hc=>?_;rw[List.drop_of_length_le (by omega)]at h;cases h
 refine⟨hlt,?_,?_⟩
 ·rw[zT hlt]at h;simp only[List.cons.injEq]at h;simp[zW,hlt,h.1]
 ·rw[zT hlt]at h;simp only[List.cons.injEq]at h;exact h.2
namespace Sh
open Go Ev
theorem ybng(op:Int):Returns zF 185 [.i .i64 op] (.i .i64 (yje op)):=by
 refine Returns.of (ycet _ _ ?_);simp only[c185,ybvk,ybyo,ycdm,ybzt,ybxt,ybvz,ybxz,ybxx,ybxa,ycag,ybb,yje,go_sem,zA,zB,↓reduceIte,reduceCtorEq];refine⟨fun h1=>⟨fun h=>by rw[if_pos (.inr h)],fun h2=>⟨fun h=>by rw[if_neg (by omega),if_pos h],fun h3=>⟨fun h=>by rw[if_neg (by omega),if_neg h3,if_pos h],fun h4=>⟨fun h=>by rw[if_neg (by omega),if_neg h3,if_neg h4,if_pos h],fun h5=>by rw[if_neg (by omega),if_neg h3,if_neg h4,if_neg h5]⟩⟩⟩⟩,fun h=>by rw[if_pos (.inl h)]⟩
theorem ycfa(e:List Tm)(x:Ex)(at_:Nat)(rest:List Tm)(hx:x.shp=true)(he:e.drop at_=x.ser++rest)(hl:e.length<=1000):Returns zF 169 [ybd e,.i .i64 at_] (.i .i64 ((at_+x.ser.length:Nat):Int)):=by
 refine Returns.of (ycjk _ _ ?_)
 have h0:at_<e.length:=by
  rw[x.ser_eq]at he;exact(yeb he).1
 simp only[c169,ybyd,yccu,yccs,ybzh,ybd,ybb,go_sem,zA,zB,↓reduceIte,reduceCtorEq];refine⟨fun _=>⟨fun h=>by omega,fun _=>?_⟩,fun h=>by omega⟩
 refine ybj (σ:=Nat×List Ex) (fun p=>⟨[(1,.i .i64 p.1),(5,.i .i64 p.2.length),(0,ybd e)],[]⟩)
  (fun p=>e.drop p.1=serL p.2++rest/\p.2≠[]/\(∀y∈p.2,y.shp=true)/\p.1+(serL p.2).length=at_+x.ser.length/\p.2.length<=3*p.1+1) (fun p=>e.length-p.1) (at_,[x]) ⟨by simpa[serL]using he,by simp,by simpa using hx,by simp[serL],by simp⟩ ?_ ?_
 ·refine yh [] [] [] ?_;simp only[ybd,allQ,live,yg,ybb,go_sem,zA,↓reduceIte,reduceCtorEq];simp
 ·rintro⟨k,ts⟩ ⟨hk,hne,hsh,hlen,hb⟩;cases ts with
  |nil=>exact absurd rfl hne
  | cons y ts =>
    dsimp only at hk hlen hb ⊢
    have hser:serL (y::ts)=y.head::(serL y.subs++serL ts):=by
     show(y.ser++serL ts)=_;rw[y.ser_eq];rfl
    rw[hser]at hk hlen;obtain⟨d1,d2,d3⟩:=yeb hk;have hy:=hsh y List.mem_cons_self;have har:=y.arity hy;have hsub:y.subs.length<=3:=by cases y<;>simp[Ex.subs]
    simp only[List.length_cons]at hb hlen;simp only[ybxn,ybzp,ycbo,yceb,ycbr,ybxy,ybia,ybif,ybix,ybd,ybb,go_sem,zA,zB,zD,↓reduceIte,reduceCtorEq];refine⟨fun hlt=>⟨by omega,(ybng _).use ?_⟩,fun hlt=>by omega⟩
    rw[d2,har];simp only[ybe,ybb,go_sem,zA,zB,↓reduceIte,reduceCtorEq];refine⟨fun h=>by omega,fun _=>⟨ikw (by omega) (by omega),ikw (by simp;omega) (by simp;omega),fun h=>⟨ikw (by omega) (by omega),?_⟩,fun h=>⟨ikw (by omega) (by omega),?_⟩⟩⟩
    ·have h1:ts=[]:=zN (by omega)
     have h2:y.subs=[]:=zN (by omega)
     subst h1;rw[h2]at hlen;simp[serL]at hlen;omega
    ·have hpos:y.subs++ts≠[]:=fun q=>by
      have q1:=congrArg zAH q;simp only[zO,List.length_nil]at q1;omega
     refine yu (k+1,y.subs++ts) ⟨?_,hpos,?_,?_,?_⟩ (by dsimp only;omega) ?_
     ·dsimp only
      rw[d3];simp[serL]
     ·intro z hz;rcases List.mem_append.1 hz with q|q
      ·exact y.subs_shp hy z q
      ·exact hsh z (List.mem_cons_of_mem _ q)
     ·dsimp only
      have:(serL (y.subs++ts)).length=(serL y.subs++serL ts).length:=by simp[serL]
      rw[this];omega
     ·dsimp only
      simp only[zO];omega
     ·refine yh [] [] [] ?_;simp only[allQ,live,yg,ybb,go_sem,zA,↓reduceIte,reduceCtorEq];simp;omega
end Sh
end
section
namespace Sh
open Go Ev
theorem ybud(p:ProgR){g:Gr}(hg:ybc g)(op:Int){v:Nat}(hv:v<g.ports.length)(port:Int)(hp:op=6\/op=7\/op=8\/op=9\/op=10\/op=11\/(0<=port/\port<(g.ports.getD v []).length)) :
 Returns zF 193 [.rf (yeo p g),.i .i64 op,.i .i64 v,.i .i64 port] (.i .i64 (ykp g op v port)):=by
 refine Returns.of (ycfj _ _ ?_);have hlen:=hg.2.2.1;simp only[c193,ybwh,ycau,ybym,yccv,ycaf,ybzg,ybvs,ycce,ycbb,ycda,ybpq,ybnc,ybjr,ybkh,ybho,ybjd,ybjc,ybpv,yblx,ybmg,ybla,yblf,ybkb,ybmd,yboa,yeo,yj,ybf,ybd,yda,ybb,go_sem,zA,zB,zD,zM,↓reduceIte,reduceCtorEq];refine⟨fun h6=>?_,fun h6=>⟨fun h7=>?_,fun h7=>⟨fun h8=>⟨by omega,?_⟩,fun h8=>⟨fun h9=>⟨by omega,?_⟩,fun h9=>⟨fun h10=>(ydl _).use ?_,fun h10=>⟨fun h11=>?_,fun h11=>?_⟩⟩⟩⟩⟩⟩
 ·simp[ykp,h6]
 ·simp[ykp,h7]
 ·simp[ykp,h8]
 ·simp[ykp,h9]
 ·simp only[ybe,ybb,go_sem,zA,zB,↓reduceIte,reduceCtorEq];simp[ykp,h10]
 ·simp[ykp,h11]
 ·have hp:0<=port/\port<(g.ports.getD v []).length:=by omega
  have hpn:port.toNat<(g.ports.getD v []).length:=by omega
  have hl:=hg.ycl hv hpn;unfold ycl at hl;refine⟨by omega,by omega,fun h13=>⟨by omega,?_⟩,fun h13=>⟨fun h14=>⟨by omega,?_⟩,fun h14=>⟨fun h15=>(ydl _).use ?_,fun h15=>⟨fun h16=>?_,fun h16=>⟨by omega,?_⟩⟩⟩⟩⟩
  ·simp[ykp,h13,ycl]
  ·simp[ykp,h14,ycl]
  ·simp only[ybe,ybb,go_sem,zA,zB,↓reduceIte,reduceCtorEq];simp[ykp,h15,ycl]
  ·simp[ykp,h16,ycl]
  ·refine⟨by rw[show(yih g v).length=(g.ports.getD v []).length from zAB _];omega,?_⟩
   simp[ykp,h6,h7,h8,h9,h10,h11,h13,h14,h15,h16]
theorem ybso(p:ProgR){g:Gr}(hg:ybc g){nv:Nat}{c:Conf}(hc:ConfIn g.ports.length nv c){v:Nat}(hv:v<g.ports.length)(e:List Tm){op arg:Int}{bnd:Bool}(ho:(Ex.leaf op arg).ok nv bnd=true)(port:Int)(hp:bnd=true->0<=port/\port<(g.ports.getD v []).length) :
 Returns zF 174 [.rf (yhe p g c v e),.ag [.i .i64 op,.i .i64 arg],.i .i64 port] (.i .i64 (ypw g c op arg v port)):=by
 refine Returns.of (ychu _ _ ?_);simp only[Ex.ok,zC,decide_eq_true_eq]at ho;obtain⟨⟨ho1,ho2⟩,ho3⟩:=ho;have hlen:=hc.len;have hrow:=hc.at_ hv;have hF:=ybud p hg op hv port;simp only[yeo,yj,ybf,ybd,yda]at hF;simp only[c174,ycar,ybuy,ycdv,ybvb,ybws,ybzn,ycaj,ybwo,ybzx,ybxb,ybjf,ybox,ybpa,ybmu,yblg,yhe,ybk,yeo,yj,ybf,ybd,yda,ybb,go_sem,zA,zB,zD,zM,↓reduceIte,reduceCtorEq];refine⟨fun h1=>?_,fun h1=>⟨fun h2=>?_,fun h2=>⟨fun h3=>?_,fun h3=>⟨fun h4=>?_,fun h4=>⟨fun h5=>?_,fun h5=>⟨fun h12=>?_,fun h12=>(hF ?_).use ?_⟩⟩⟩⟩⟩⟩
 ·simp[ypw,h1]
 ·simp[ypw,h2]
 ·simp[ypw,h3]
 ·simp[ypw,h4]
 ·rw[if_neg (by omega),if_pos (by omega)]at ho2
  have ho2:=of_decide_eq_true ho2;refine⟨by omega,by omega,?_⟩
  simp[ypw,h5]
 ·rw[if_neg (by omega),if_pos (by omega)]at ho2
  have ho2:=of_decide_eq_true ho2;rw[if_pos (by omega)]at ho3
  have hp:=hp ho3;have hpn:port.toNat<(g.ports.getD v []).length:=by omega
  have hl:=hg.ycl hv hpn;have hr2:=hc.at_ (v:=(ycl g v port.toNat).1.toNat) (by omega)
  unfold ycl at hl hr2;refine⟨by omega,by omega,by omega,by omega,?_⟩
  simp[ypw,h12,ycl]
 ·by_cases q:11<=op
  ·rw[if_pos q]at ho3;have:=hp ho3;omega
  ·omega
 ·simp only[ybe,ybb,go_sem,zA,zB,↓reduceIte,reduceCtorEq];simp[ypw,h1,h2,h3,h4,h5,h12]
theorem ynt{e:List Tm}{at_:Nat}{a b:List Tm}(h:e.drop at_=a++b):e.drop (at_+a.length)=b:=by
 rw[<-List.drop_drop,h,List.drop_left]
theorem ybty{n:Nat}{gg:Nat->List SV}{l:List Int}(hn:n=l.length)(h:∀k,k<n->gg k=[.i .i64 (l.getD k 0)]):Sim (.sl 1 n gg) (yj l):=by
 subst hn;exact ybbz h
def ybmm(p:ProgR)(g:Gr)(nv:Nat)(c:Conf)(v:Nat)(e:List Tm)(x:Ex):Prop :=
 ∀ (bnd:Bool) (port:Int) (at_:Nat) (rest:List Tm),x.ok nv bnd=true->(bnd=true->0<=port/\port<(g.ports.getD v []).length)->InB port->e.drop at_=x.ser++rest ->
   Returns zF 161 [.rf (yhe p g c v e),.i .i64 at_,.i .i64 port] (.tp [.i .i64 (yfa g c v x port),.i .i64 ((at_+x.ser.length:Nat):Int)])
theorem ysu(p:ProgR){g:Gr}(hg:ybc g){nv:Nat}{c:Conf}(hc:ConfIn g.ports.length nv c){v:Nat}(hv:v<g.ports.length)(e:List Tm)(hl:e.length<=1000){op:Int}{a:Ex}(ho:(Ex.agg op a).ok nv true=true)(ih:ybmm p g nv c v e a)(at_:Nat)(rest:List Tm)(he:e.drop at_=(Ex.agg op a).ser++rest) :
 Returns zF 176 [.rf (yhe p g c v e),.i .i64 op,.i .i64 at_] (.tp [.i .i64 (yfa g c v (.agg op a) 0),.i .i64 ((at_+(Ex.agg op a).ser.length:Nat):Int)]):=by
 have ho':=ho;simp only[Ex.ok,zC,decide_eq_true_eq]at ho;have hd:=hg.deg_lt (v:=v);obtain⟨deg,hdeg⟩:∃d,(g.ports.getD v []).length=d:=⟨_,rfl⟩;rw[hdeg]at hd;have hin:∀q:Nat,q<deg->InB (yfa g c v a q):=fun q hq=>ygi hg rfl hc hv a ho.2 (fun _=>by omega) (by unfold InB;omega)
 have hsh:=Ex.ok_shp _ ho';have hdrop:e.drop (at_+1)=a.ser++rest:=(yeb (show e.drop at_=(op,0)::(a.ser++rest)from he)).2.2
 have hat:=(yeb (show e.drop at_=(op,0)::(a.ser++rest)from he)).1
 have hfit:at_+1+a.ser.length<=e.length:=by
  have:=congrArg zAH hdrop;simp at this;omega
 refine Returns.of (ychm _ _ ?_);simp only[c176,ybwm,ybve,ybvr,ybyb,yhe,ybk,yeo,yj,ybf,ybd,yda,hdeg,go_sem,zA,zB,zD,zM,↓reduceIte,reduceCtorEq];refine⟨by omega,?_⟩
 let val:Nat->Int:=fun q=>yfa g c v a q
 refine ybj (σ:=Nat) (fun k=>⟨[(27,.i .i64 k),(26,.i .i64 deg),(9,.i .i64 deg),(0,.rf (yhe p g c v e)),(1,.i .i64 op),(2,.i .i64 at_),(8,.pt (8,0) 0 0),(7,.i .i64 (if k=0 then 0 else((at_+1+a.ser.length:Nat):Int)))],
  [(8,.one (some ⟨206,true,1,24,fun i=>[.i .i64 (if i<k then val i else 0)]⟩))]⟩) (fun k=>k<=deg) (fun k=>deg-k) 0 (zL _) ?_ ?_
 ·refine yh [] [] [] ?_;simp only[yhe,ybk,yeo,yj,ybf,ybd,yda,allQ,live,yg,ybb,zI,go_sem,zA,↓reduceIte,reduceCtorEq];intro i _;rw[if_neg (by omega)]
 ·intro k hk;simp only[ycdn,ybxs,ybzz,ycaz,ycdc,ybxw,ybog,go_sem,zA,zB,zD,↓reduceIte,reduceCtorEq];refine⟨fun hlt=>⟨ikw (by omega) (by omega),?_⟩,fun hlt=>?_⟩
  ·have hk':k<deg:=by omega
   have hv1:=ih true (k:Int) (at_+1) rest ho.2 (fun _=>by rw[hdeg];omega) (by unfold InB;omega) hdrop
   rw[show((at_+1:Nat):Int)=(at_:Int)+1 by omega]at hv1
   refine hv1.use ?_;simp only[ybe,splice,go_sem,zA,zB,↓reduceIte,reduceCtorEq];refine⟨by omega,by omega,ikw (by omega) (by omega),?_⟩
   refine yu (k+1) (by omega) (by omega) ?_
   refine yh [] [] [] ?_;simp only[allQ,live,yg,ybb,go_sem,zA,↓reduceIte,reduceCtorEq];refine⟨by omega,?_⟩
   intro i hi
   by_cases q:i=k
   ·rw[if_pos q,if_pos (by omega)]
    subst q;simp only[val,live,yg,go_sem,reduceCtorEq]
   ·rw[if_neg q]
    by_cases q2:i<k
    ·rw[if_pos q2,if_pos (by omega)]
     simp only[live,yg,go_sem,reduceCtorEq]
    ·rw[if_neg q2,if_neg (by omega)]
     simp only[live,yg,go_sem,reduceCtorEq]
  ·obtain rfl:k=deg:=by omega
   have hE:=ycfa e _ at_ rest hsh he hl
   have hF:=ybtf op ((zS k).map val) (by simp;omega) (fun x hx=>by
    obtain⟨q,hq,rfl⟩:=List.mem_map.1 hx;exact hin q (List.mem_range.1 hq))
   have hres:yfa g c v (.agg op a) 0=yha op ((zS k).map val):=by
    show yha op _=_;rw[hdeg]
   rw[hres];simp only[yhe,ybd,go_sem,zA,zB,↓reduceIte,reduceCtorEq];simp only[ybd]at hE
   have hsim:SimL [.i .i64 op,.sl 1 (k-0) fun i=>[.i .i64 (if i<k then val i else 0)]] [.i .i64 op,yj ((zS k).map val)]:=by
    refine⟨Sim.refl _,ybty (by simp) fun i hi=>?_,trivial⟩
    rw[if_pos (by omega)]
    simp[zW,show i<k by omega]
   refine⟨fun h0=>hE.use ?_,fun h0=>?_⟩
   ·simp only[ybe,go_sem,zA,zB,zD,↓reduceIte,reduceCtorEq];refine⟨by simp;omega,.inl ⟨by omega,hF.useS hsim ?_⟩⟩
    simp only[go_sem];exact Sim.refl _
   ·refine⟨by simp;omega,.inl ⟨by omega,hF.useS hsim ?_⟩⟩
    simp only[ybe,if_neg (show ¬k=0 by omega),go_sem,zA,zB,↓reduceIte,reduceCtorEq]
    rw[show at_+(Ex.agg op a).ser.length=at_+1+a.ser.length by simp[Ex.ser];omega]
    exact Sim.refl _
end Sh
end
section
namespace Sh
open Go Ev
theorem ybgr(g:Gr)(v:Nat)(hv:v<g.ports.length)(u:Int)(hl:(g.ports.getD v []).length<=100000):Returns zF 133 [grV g,.i .i64 v,.i .i64 u] (.i .i64 (yfz (g.ports.getD v []) u)):=by
 refine Returns.of (ycig _ _ ?_);simp only[c133,ybzb,ybwb,grV,ybf,ybd,yj,go_sem,zA,zB,zM,↓reduceIte,reduceCtorEq];refine⟨by omega,?_⟩
 obtain⟨ls,hls⟩:∃ls,g.ports.getD v []=ls:=⟨_,rfl⟩;rw[hls]at hl ⊢;refine ybj (σ:=Nat) (fun k=>⟨[(15,.i .i64 k),(13,ybd ls),(14,.i .i64 ls.length),(2,.i .i64 u)],[]⟩) (fun k=>k<=ls.length/\(ls.take k).findIdx? (fun l=>l.1==u)=none) (fun k=>ls.length-k) 0 ⟨zL _,by simp⟩ ?_ ?_
 ·refine yh [] [] [] ?_;simp only[ybd,allQ,live,yg,zI,go_sem,zA,↓reduceIte,reduceCtorEq]
 ·intro k ⟨hk,hno⟩;simp only[ycds,ybvl,yceh,ycbg,ycaq,ycax,ybd,ybb,splice,go_sem,zA,zB,zD,zM,↓reduceIte,reduceCtorEq];refine⟨fun hlt=>⟨by omega,fun he=>?_,fun he=>⟨ikw (by omega) (by omega),?_⟩⟩,fun hlt=>?_⟩
  ·have hlt:k<ls.length:=by omega
   rw[getD_at hlt]at he;rw[ysm ls u k hlt he hno]
  ·have hlt:k<ls.length:=by omega
   rw[getD_at hlt]at he;refine yu (k+1) ⟨by omega,ywy ls u k hlt he hno⟩ (by omega) ?_
   refine yh [] [] [] ?_;simp only[allQ,live,yg,ybb,go_sem,zA,↓reduceIte,reduceCtorEq];simp
  ·obtain rfl:k=ls.length:=by omega
   rw[ybbc ls u hno]
theorem ybeg{ids:List Int}{k:Nat}(h:k<ids.length):(ids.take (k+1)).foldl max 0=max ((ids.take k).foldl max 0) (ids.getD k 0):=by
 rw[ybem ids k h,getD_at h]
theorem ywx(p:ProgR){g:Gr}(hg:ybc g):Returns zF 97 [.ag (ymf p),grV g] (.rf (yeo p g)):=by
 refine Returns.of (ycsm _ _ ?_);have h24:=hg.2.1;have hid:=hg.2.2.1;obtain⟨n,hn⟩:∃n,g.ports.length=n:=⟨_,rfl⟩;rw[hn]at h24 hid;simp only[c97,ycsu,ycss,ycth,grV,ybf,ybd,yj,ymf,splice,hn,go_sem,zA,zB,zD,zM,↓reduceIte,reduceCtorEq];refine⟨by omega,?_⟩
 refine ybj (σ:=Nat) (fun k=>⟨[(21,.i .i64 k),(19,ybf g.ports),(20,.i .i64 n),(3,.pt (3,0) 0 0),(5,.pt (17,0) 0 0)],
  [(3,.one (some ⟨25,true,2,1,fun _=>[yj g.ids,ybf g.ports]⟩)),(17,.one (some ⟨153,true,7,1,fun _=>[.a (.string p.name),ydw p.vars,ycq p.rules,yj g.ids,ybf g.ports,.i .i64 ((g.ids.take k).foldl max 0),.os (15,0) 0 n true]⟩)),
   (15,.one (some ⟨22,false,1,n,fun i=>[if i<k then yj (yih g i)else .a (.slice none 0 0)]⟩))]⟩) (fun k=>k<=n) (fun k=>n-k) 0 (zL _) ?_ ?_
 ·refine yh [] [] [] ?_;simp only[ybf,ybd,yj,hn,allQ,live,yg,ybb,zI,go_sem,zA,↓reduceIte,reduceCtorEq];refine⟨fun i _=>by simp,fun i _=>?_⟩
  rw[if_neg (by omega)]
  simp only[yg,go_sem]
 ·intro k hk;simp only[ycsb,ycst,ycli,ycoj,ybf,ybd,yj,splice,hn,go_sem,zA,zB,zD,↓reduceIte,reduceCtorEq];refine⟨fun hlt=>⟨by omega,by omega,by decide,?_⟩,fun hlt=>?_⟩
  ·have hk':k<n:=by omega
   obtain⟨ls,hls⟩:∃ls,g.ports.getD k []=ls:=⟨_,rfl⟩;have hdeg:=hg.deg_lt (v:=k);rw[hls]at hdeg;rw[hls]
   have hback:∀j,j<ls.length->(yih g k).getD j 0=yfz (g.ports.getD (ls.getD j (0,0)).1.toNat []) k:=fun j hj=>by
    unfold yih;rw[hls];simp[zW,hj]
   have hbl:(yih g k).length=ls.length:=by unfold yih;rw[hls,zAB]
   refine ybj (σ:=Nat) (fun j=>⟨[(41,.i .i64 j),(39,ybd ls),(40,.i .i64 ls.length),(6,.i .i64 k),(21,.i .i64 k),(19,ybf g.ports),(20,.i .i64 n),(3,.pt (3,0) 0 0),(5,.pt (17,0) 0 0)],
    [(3,.one (some ⟨25,true,2,1,fun _=>[yj g.ids,ybf g.ports]⟩)),(17,.one (some ⟨153,true,7,1,fun _=>[.a (.string p.name),ydw p.vars,ycq p.rules,yj g.ids,ybf g.ports,.i .i64 ((g.ids.take (k+1)).foldl max 0),.os (15,0) 0 n true]⟩)),
     (15,.one (some ⟨22,false,1,n,fun i=>[if i<k then yj (yih g i)else if i=k then .os (100,0) 0 j true else .a (.slice none 0 0)]⟩)),
     (100,.one (some ⟨3,false,1,j,fun q=>[.i .i64 ((yih g k).getD q 0)]⟩))]⟩) (fun j=>j<=ls.length) (fun j=>ls.length-j) 0 (zL _) ?_ ?_
   ·refine yh [] [100] [] ?_;simp only[ybf,ybd,yj,hn,ybeg (show k<g.ids.length by omega),allQ,live,yg,zI,go_sem,zA,Nat.reduceBEq,↓reduceIte,reduceCtorEq]
    intro i hi
    by_cases q1:i<k
    ·simp only[if_pos q1];simp only[yg,go_sem,reduceCtorEq]
    ·by_cases q2:i=k
     ·simp only[if_neg q1,if_pos q2];simp only[live,go_sem,zA,↓reduceIte];simp
     ·simp only[if_neg q1,if_neg q2];simp only[yg,go_sem,reduceCtorEq]
   ·intro j hj;simp only[ycou,yckt,ycpw,ybzc,ycct,ybf,ybd,yj,splice,hn,go_sem,zA,zB,zD,zM,↓reduceIte,reduceCtorEq]
    have hP:=fun hlt:j<ls.length=>ybgr g (ls.getD j (0,0)).1.toNat (by
     have:=hg.ycl (v:=k) (p:=j) (by omega) (by rw[hls];omega)
     unfold ycl at this;rw[hls]at this;omega) (k:Int) (by have:=hg.deg_lt (v:=(ls.getD j (0,0)).1.toNat);omega)
    have hto:j<ls.length->((ls.getD j (0,0)).1.toNat:Int)=(ls.getD j (0,0)).1:=fun hlt=>by
     have:=hg.ycl (v:=k) (p:=j) (by omega) (by rw[hls];omega)
     unfold ycl at this;rw[hls]at this;omega
    refine⟨fun hlt=>⟨by omega,by omega,by omega,?_⟩,fun hlt=>?_⟩
    ·have hj':j<ls.length:=by omega
     have hP:=hP hj';rw[hto hj']at hP;simp only[grV,ybf,ybd,yj,hn]at hP;refine hP.use ?_;simp only[ybe,splice,go_sem,zA,zB,zD,zM,↓reduceIte,reduceCtorEq];refine⟨by decide,by omega,by decide,by omega,by omega,by decide,ikw (by omega) (by omega),?_⟩
     refine yu (j+1) (by omega) (by omega) ?_
     refine yh [(100,fun _=>(63,0))] [] [] ?_;simp only[allQ,live,yg,ybb,go_sem,zA,↓reduceIte,reduceCtorEq];refine⟨by omega,fun i hi=>?_,fun i hi=>?_⟩
     ·by_cases q2:i=k
      ·simp only[if_pos q2,if_neg (show ¬i<k by omega)]
       simp only[live,yg,go_sem,zA,↓reduceIte,reduceCtorEq]
      ·simp only[if_neg q2]
       by_cases q1:i<k
       ·simp only[if_pos q1];simp only[live,yg,go_sem,reduceCtorEq]
       ·simp only[if_neg q1];simp only[live,yg,go_sem,reduceCtorEq]
     ·by_cases q2:i<j
      ·simp only[if_pos q2];simp only[live,yg,go_sem,reduceCtorEq]
      ·obtain rfl:i=j:=by omega
       simp only[if_neg q2,Nat.sub_self,Nat.zero_mul];simp only[live,ybb,go_sem,reduceCtorEq];rw[hback i hj']
    ·obtain rfl:j=ls.length:=by omega
     refine⟨ikw (by omega) (by omega),?_⟩
     refine yu (k+1) (by omega) (by omega) ?_
     refine yh [] [] [(100,0)] ?_;simp only[allQ,live,yg,ybb,go_sem,zA,zD,↓reduceIte,reduceCtorEq];refine⟨by omega,fun i hi=>?_⟩
     by_cases q1:i<k
     ·simp only[if_pos q1,if_pos (show i<k+1 by omega)]
      simp only[yg,go_sem]
     ·by_cases q2:i=k
      ·simp only[if_neg q1,if_pos q2,if_pos (show i<k+1 by omega)]
       subst q2;simp only[hbl,yg,go_sem,zA,↓reduceIte]
      ·simp only[if_neg q1,if_neg q2,if_neg (show ¬i<k+1 by omega)]
       simp only[yg,go_sem]
  ·obtain rfl:k=n:=by omega
   simp only[ycdi,go_sem,zA,zB,zD,↓reduceIte,reduceCtorEq];refine⟨fun q hq=>by simp only[if_pos hq];simp only[go_sem],?_⟩
   refine ycks ?_ (by simp only[yeo,go_sem])
   simp only[SimL,yeo,yj,ybf,ybd,yda,hn,yg,true_and,and_true];refine⟨?_,?_⟩
   ·rw[ybb];refine⟨rfl,?_⟩;unfold ybah;rw[zK (by omega)]
   ·refine yil fun q hq=>?_;simp only[if_pos hq];simp only[SimL,yg,go_sem]
end Sh
end
section
def yjl(f:Nat->Bool):Nat->Nat
 |0=>0
 |n+1=>if f n then yjl f n|||2^n else yjl f n
theorem ykv(f:Nat->Bool):∀(n i:Nat),(yjl f n).testBit i=(decide (i<n)&&f i)
 |0,i=>by simp[yjl]
 | n + 1,i=>by
   unfold yjl;have ih:=ykv f n i
   by_cases h:f n=true
   ·rw[if_pos h,Nat.testBit_or,ih,Nat.testBit_two_pow]
    by_cases e:n=i
    ·subst e;simp[h]
    ·have:(i<n+1)=(i<n):=propext (by omega)
     simp[e,this]
   ·rw[if_neg h,ih]
    by_cases e:n=i
    ·subst e;simp[h]
    ·have:(i<n+1)=(i<n):=propext (by omega)
     simp[this]
theorem ybcm(f:Nat->Bool)(n:Nat):yjl f n<2^n:=by
 refine zU _ fun i hi=>?_;rw[ykv];simp;omega
def difB(a b:Nat):Nat:=a ^^^ (a&&&b)
theorem ykh(a b i:Nat):(difB a b).testBit i=(a.testBit i && !(b.testBit i)):=by
 unfold difB;rw[Nat.testBit_xor,zAC];cases a.testBit i<;>cases b.testBit i<;>rfl
theorem yhw(a:Nat):a=0↔∀i,a.testBit i=false:=by
 constructor
 ·rintro rfl i;simp
 ·intro h;exact Nat.eq_of_testBit_eq fun i=>by rw[h i];simp
theorem ycgy{a b n:Nat}(h:a<2^n):difB a b<2^n:=by
 refine zU _ fun i hi=>?_;rw[ykh,Nat.testBit_lt_two_pow (Nat.lt_of_lt_of_le h (Nat.pow_le_pow_right (by omega) hi))]
 rfl
structure Cnt where
 steps:Nat
 moves:Nat
 rounds:Nat
 begun:Nat
 pend:Nat
def ycrj(s:Nat):Nat->Nat
 |0=>0
 |n+1=>ycrj s n+(s.testBit n).toNat
def popP(s:Nat):Nat:=ycrj s 32
def ygc(e:Nat):Cnt:=⟨0,0,0,0,e⟩
def addP(k:Cnt)(chosen after:Nat):Cnt :=
 let p:=difB k.pend chosen&&&after
 ⟨k.steps+1,k.moves+popP chosen,if p=0 then k.rounds+1 else k.rounds,k.rounds+1,if p=0 then after else p⟩
def Cnt.ok(k:Cnt):Prop:=k.rounds<=k.begun/\k.begun<=k.rounds+1/\k.begun<=k.steps/\k.steps<=k.moves/\k.moves<=24*k.steps/\k.pend<2^24
structure Sys where
 n:Nat
 en:Conf->Nat
 mv:Conf->Nat->Conf
def Sys.run(S:Sys)(res:Nat->Nat->Nat):List Nat->Conf->Cnt->List (Conf×Cnt)
 |[],_,_=>[]
 | w::ws,c,k=>if S.en c=0 then[]else(let s:=res (S.en c) w
   let d:=S.mv c s
   (d,addP k s (S.en d))::S.run res ws d (addP k s (S.en d)))
def Sys.runs(S:Sys)(res:Nat->Nat->Nat)(ws:List Nat)(c:Conf):List (Conf×Cnt):=(c,ygc (S.en c))::S.run res ws c (ygc (S.en c))
def subB(a b:Nat):Prop:=∀i,a.testBit i=true->b.testBit i=true
def ybua(res:Nat->Nat->Nat):Prop:=∀e w,e≠0->res e w≠0/\subB (res e w) e
theorem Sys.run_all{S:Sys}{res:Nat->Nat->Nat}(hr:ybua res){J:Conf->Cnt->Prop}(hstep:∀c k s,J c k->s≠0->subB s (S.en c)->J (S.mv c s) (addP k s (S.en (S.mv c s)))) :
 ∀(ws:List Nat) (c:Conf) (k:Cnt),J c k->∀p∈S.run res ws c k,J p.1 p.2
 |[],_,_,_,p,hp=>by cases hp
 | w :: ws,c,k,hJ,p,hp=>by
   unfold Sys.run at hp;split at hp
   ·cases hp
   ·rename_i h0
    obtain⟨r1,r2⟩:=hr _ w h0;have hJ':=hstep c k _ hJ r1 r2;rcases List.mem_cons.1 hp with e|e
    ·rw[e];exact hJ'
    ·exact Sys.run_all hr hstep ws _ _ hJ' p e
theorem Sys.runs_all{S:Sys}{res:Nat->Nat->Nat}(hr:ybua res){J:Conf->Cnt->Prop}(hstep:∀c k s,J c k->s≠0->subB s (S.en c)->J (S.mv c s) (addP k s (S.en (S.mv c s)))){ws:List Nat}{c:Conf}(h:J c (ygc (S.en c))):∀p∈S.runs res ws c,J p.1 p.2:=fun p hp=>by
 rcases List.mem_cons.1 hp with e|e
 ·rw[e];exact h
 ·exact Sys.run_all hr hstep ws _ _ h p e
structure ByRounds(S:Sys)(V:Conf->Prop)(P:Nat->Nat->List Int->Prop):Prop where
 valid:∀c s,V c->s≠0->subB s (S.en c)->V (S.mv c s)
 stay:∀c s v,V c->v<S.n->s.testBit v=false->(S.mv c s).getD v []=c.getD v []
 move:∀c s v r,V c->v<S.n->s.testBit v=true->subB s (S.en c)->(∀u,u<S.n->P r u (c.getD u []))->P (r+1) v ((S.mv c s).getD v [])
 rest:∀c v r,V c->v<S.n->(S.en c).testBit v=false->(∀u,u<S.n->P r u (c.getD u []))->P (r+1) v (c.getD v [])
 less:∀r v s,P (r+1) v s->P r v s
structure RInv(S:Sys)(V:Conf->Prop)(P:Nat->Nat->List Int->Prop)(c:Conf)(k:Cnt):Prop where
 valid:V c
 all:∀v,v<S.n->P k.rounds v (c.getD v [])
 done:∀v,v<S.n->k.pend.testBit v=false->P (k.rounds+1) v (c.getD v [])
 begun:k.begun<=k.rounds+1
theorem ByRounds.start{S:Sys}{V:Conf->Prop}{P:Nat->Nat->List Int->Prop}(h:ByRounds S V P){c:Conf}(hv:V c)(h0:∀v,v<S.n->P 0 v (c.getD v [])):RInv S V P c (ygc (S.en c)) :=
 ⟨hv,h0,fun v hn hb=>h.rest c v 0 hv hn hb h0,by simp[ygc]⟩
theorem ByRounds.step{S:Sys}{V:Conf->Prop}{P:Nat->Nat->List Int->Prop}(h:ByRounds S V P)(c:Conf)(k:Cnt)(s:Nat)(hi:RInv S V P c k)(h0:s≠0)(hs:subB s (S.en c)):RInv S V P (S.mv c s) (addP k s (S.en (S.mv c s))):=by
 obtain⟨i1,i2,i3,i4⟩:=hi;have hv:=h.valid c s i1 h0 hs
 have hall:∀v,v<S.n->P k.rounds v ((S.mv c s).getD v []):=fun v hn=>by
  cases hb:s.testBit v with
  |true=>exact h.less _ _ _ (h.move c s v _ i1 hn hb hs i2)
  |false=>rw[h.stay c s v i1 hn hb];exact i2 v hn
 have hnext:∀v,v<S.n->(difB k.pend s&&&S.en (S.mv c s)).testBit v=false->P (k.rounds+1) v ((S.mv c s).getD v []):=fun v hn hb=>by
  rw[zAC,ykh]at hb;cases hb1:s.testBit v with
  |true=>exact h.move c s v _ i1 hn hb1 hs i2
  | false =>
    cases hb2:k.pend.testBit v with
    |false=>rw[h.stay c s v i1 hn hb1];exact i3 v hn hb2
    | true =>
      rw[hb1,hb2]at hb;exact h.rest _ v _ hv hn (by simpa using hb) hall
 unfold addP;simp only
 by_cases hp:difB k.pend s&&&S.en (S.mv c s)=0
 ·simp only[if_pos hp];have hall':∀v,v<S.n->P (k.rounds+1) v ((S.mv c s).getD v []):=fun v hn=>hnext v hn (by rw[hp];simp)
  exact⟨hv,hall',fun v hn hb=>h.rest _ v _ hv hn hb hall',by show k.rounds+1<=_;simp⟩
 ·simp only[if_neg hp];exact⟨hv,hall,hnext,zZ _⟩
theorem ByRounds.runs{S:Sys}{V:Conf->Prop}{P:Nat->Nat->List Int->Prop}(h:ByRounds S V P){res:Nat->Nat->Nat}(hr:ybua res){ws:List Nat}{c:Conf}(hv:V c)(h0:∀v,v<S.n->P 0 v (c.getD v [])):∀p∈S.runs res ws c,RInv S V P p.1 p.2 :=
 Sys.runs_all hr h.step (h.start hv h0)
end
section
structure RuleT where
 name:ByteArray
 guard:Ex
 sets:List (Int×Ex)
structure ProgT where
 name:ByteArray
 vars:List VarR
 rules:List RuleT
instance:Inhabited Ex:=⟨.leaf 0 0⟩
instance:Inhabited RuleT:=⟨⟨.empty,default,[]⟩⟩
def RuleT.raw(r:RuleT):RuleR:=⟨r.name,r.guard.ser,r.sets.map fun s=>⟨s.1,s.2.ser⟩⟩
def ProgT.raw(p:ProgT):ProgR:=⟨p.name,p.vars,p.rules.map RuleT.raw⟩
def RuleT.ok(nv:Nat)(r:RuleT):Bool:=r.guard.ok nv false&&decide (r.guard.ser.length<=1000)&&decide (r.sets.length<=100)&&r.sets.all fun s=>decide (0<=s.1/\s.1<nv)&&s.2.ok nv false&&decide (s.2.ser.length<=1000)
def VarR.ok(x:VarR):Bool:=decide (x.kind=1\/x.kind=2\/x.kind=3)&&decide (0<=x.lo/\x.lo<=4096)&&decide (-4096<=x.hi/\x.hi<=4096)&&decide (0<=x.perNode/\x.perNode<=255)&&decide (0<=x.perID/\x.perID<=255)
def ProgT.ok(p:ProgT):Bool:=decide (1<=p.vars.length/\p.vars.length<=6)&&p.vars.all VarR.ok&&decide (p.rules.length<=12)&&p.rules.all (RuleT.ok p.vars.length)
def ykb(g:Gr)(c:Conf)(v:Nat)(r:RuleT):Bool:=yfa g c v r.guard (-1)!=0
def yfv(p:ProgT)(g:Gr)(c:Conf)(v:Nat):Int:=match p.rules.findIdx? (ykb g c v)with|some i=>i|none=>-1
def ybh(g:Gr)(v:Nat)(x:VarR):Int×Int :=
 if x.kind=1 then(x.lo,x.hi+x.perNode*(g.ids.length:Int)+x.perID*maxI g.ids)else if x.kind=2 then(0,1)else if x.kind=3 then(-1,((g.ports.getD v []).length:Int)-1)else(0,-1)
def yji(kind:Int)(b:Int×Int)(x:Int):Int:=if x>=b.1/\x<=b.2 then x else if kind=3 then -1 else if x<b.1 then b.1 else b.2
def ymk(p:ProgT)(g:Gr)(c:Conf)(v:Nat)(s0:List Int)(sets:List (Int×Ex)):List Int :=
 sets.foldl (fun s a=>s.set a.1.toNat (yji (p.vars.getD a.1.toNat default).kind (ybh g v (p.vars.getD a.1.toNat default)) (yfa g c v a.2 (-1)))) s0
def yyt(p:ProgT)(g:Gr)(c:Conf)(v:Nat)(r:Nat):List Int:=ymk p g c v (c.getD v []) (p.rules.getD r default).sets
def ybu(p:ProgT)(g:Gr)(c:Conf):Nat:=yjl (fun v=>decide (yfv p g c v>=0)) g.ids.length
def yia(p:ProgT)(g:Gr)(c:Conf)(s:Nat):Conf:=c.zipIdx.map fun q=>if s.testBit q.2 then yyt p g c q.2 (yfv p g c q.2).toNat else q.1
def ychd(p:ProgT)(g:Gr):Sys:=⟨g.ids.length,ybu p g,yia p g⟩
def yhs(p:ProgT)(g:Gr)(c:Conf):Bool:=ynk g.ids.length (fun v=>p.vars.map (ybh g v)) c
end
end Go.Proofs.YtiejahgklcjhkaaGreat
