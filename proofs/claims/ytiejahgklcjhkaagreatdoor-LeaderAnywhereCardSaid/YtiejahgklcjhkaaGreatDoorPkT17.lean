/- Joined. -/
import Derived.Test.YtiejahgklcjhkaaGreatDoorPkT16
import Derived.Test.YtiejahgklcjhkaaGreatDoorPkT10
set_option linter.unusedSimpArgs false
set_option linter.unusedVariables false
set_option maxRecDepth 8000
open Nat renaming reduceEqDiff→zA,reduceAdd→zC,reduceLT→zG,beq_refl→zH,reduceLeDiff→zI,beq→zK,le_of_ble_eq_true→zL,eq_of_beq_eq_true→zO,le_refl→zT,ble_eq_true_of_le→zU,blt→zW,zero_le→zZ,ble→zAD,lt_of_lt_of_le→zAP,lt_or_ge→zAS,lt_succ_self→zAY,not_lt_zero→zBC
open Bool renaming and_eq_true→zB,true_and→zAA,not_eq_true'→zAF,and_eq_false_iff→zAO
open List renaming getElem?_eq_getElem→zD,length_map→zM,map_congr_left→zN,getD→zQ,getElem_mem→zS,mem_cons_of_mem→zV,getD_cons_zero→zX,mem_cons_self→zY,map_map→zAB,getD_cons_succ→zAC,getD_eq_getElem?_getD→zAE,pairwise_map→zAG,drop_eq_getElem_cons→zAH,length_cons→zAI,getElem?_cons_zero→zAK,nodup_cons→zAM,drop_eq_nil_of_le→zAN,findIdx?_cons→zAT,getElem?_drop→zAU,all_eq_false→zAV,all_eq_true→zAW,getElem_map→zAX,length_drop→zAZ,foldl_cons→zBA,nodup_nil→zBD,map_cons→zBG,range→zBJ
open Go.Lib renaming hid→zF
open Go.Proofs.Tryz renaming prog→zJ,func137→zAQ,func102→zAR,ntmps137→zBE,ntmps102→zBF,func74→zBI
open Int renaming natCast_zero→zAJ,eq_ofNat_of_zero_le→zAL,reduceToNat→zBB
open Eq renaming trans→zBH
open Go
namespace Go.Proofs.YtiejahgklcjhkaaGreatDoor
section
structure Tgt(S:Sys)(V:Conf->Prop)(T:Conf->Nat->List Int):Prop where
 valid:∀c s,V c->s≠0->subB s (S.en c)->V (S.mv c s)
 stay:∀c s v,V c->v<S.n->s.testBit v=false->(S.mv c s).getD v []=c.getD v []
 move:∀c s v,V c->v<S.n->s.testBit v=true->subB s (S.en c)->(S.mv c s).getD v []=T c v
 en:∀c v,V c->v<S.n->((S.en c).testBit v=false↔c.getD v []=T c v)
theorem Tgt.rounds{S:Sys}{V:Conf->Prop}{T:Conf->Nat->List Int}(h:Tgt S V T){P:Nat->Nat->List Int->Prop}(hT:∀c v r,V c->v<S.n->(∀u,u<S.n->P r u (c.getD u []))->P (r+1) v (T c v))(hl:∀r v s,P (r+1) v s->P r v s):ByRounds S V P where
 valid:=h.valid
 stay:=h.stay
 move:=fun c s v r hv hn hb hs hall=>by rw[h.move c s v hv hn hb hs];exact hT c v r hv hn hall
 rest:=fun c v r hv hn hb hall=>by rw[(h.en c v hv hn).1 hb];exact hT c v r hv hn hall
 less:=hl
theorem Tgt.silent{S:Sys}{V:Conf->Prop}{T:Conf->Nat->List Int}(h:Tgt S V T){P:Nat->Nat->List Int->Prop}(hT:∀c v r,V c->v<S.n->(∀u,u<S.n->P r u (c.getD u []))->P (r+1) v (T c v)){c:Conf}(hv:V c)(h0:∀v,v<S.n->P 0 v (c.getD v []))(he:S.en c=0):∀r v,v<S.n->P r v (c.getD v [])
 |0,v,hn=>h0 v hn
 | r+1,v,hn=>by
   rw[(h.en c v hv hn).1 (by rw[he];simp)]
   exact hT c v r hv hn (Tgt.silent h hT hv h0 he r)
theorem Tgt.en_zero{S:Sys}{V:Conf->Prop}{T:Conf->Nat->List Int}(h:Tgt S V T){c:Conf}(hv:V c)(hlt:S.en c<2^S.n)(ht:∀v,v<S.n->c.getD v []=T c v):S.en c=0:=by
 rw[yel];intro i
 by_cases hi:i<S.n
 ·exact(h.en c i hv hi).2 (ht i hi)
 ·exact Nat.testBit_lt_two_pow (zAP hlt (Nat.pow_le_pow_right (by omega) (by omega)))
theorem Sys.run_last{S:Sys}{res:Nat->Nat->Nat}:∀(ws:List Nat) (c:Conf) (k:Cnt) (i:Nat),i+1<(S.run res ws c k).length->∀p,(S.run res ws c k)[i]?=some p->S.en p.1≠0
 |[],c,k,i,h,p,hp=>by simp[Sys.run]at h
 | w :: ws,c,k,i,h,p,hp=>by
   unfold Sys.run at h hp;split at h
   ·simp at h
   ·rename_i h0
    rw[if_neg h0]at hp;cases i with
    | zero =>
      simp only[zAK]at hp;cases hp
      simp only[zAI]at h;cases ws with
      |nil=>simp[Sys.run]at h
      | cons w' ws =>
        unfold Sys.run at h;split at h
        ·simp at h
        ·assumption
    |succ i=>exact Sys.run_last ws _ _ i (by simpa using h) p (by simpa using hp)
theorem Sys.runs_last{S:Sys}{res:Nat->Nat->Nat}{ws:List Nat}{c:Conf}{i:Nat}(h:i+1<(S.runs res ws c).length){p:Conf×Cnt}(hp:(S.runs res ws c)[i]?=some p):S.en p.1≠0:=by
 unfold Sys.runs at h hp;cases i with
 | zero =>
   simp only[zAK]at hp;cases hp
   cases ws with
   |nil=>simp[Sys.run]at h
   | cons w ws =>
     unfold Sys.run at h;split at h
     ·simp at h
     ·assumption
 |succ i=>exact Sys.run_last ws _ _ i (by simpa using h) p (by simpa using hp)
end
section
open Go.RowKit
theorem ywq(gv:Value)(g:Gr)(w:World)(hg:GrAt w gv g) :
 Calls zJ 137 #[gv] w fun e w'=>e = .returned (.bool (ydf g))/\Below w.heap.size w w':=by
 have hg0:=zF hg;obtain⟨i,p,rfl,hi,hp⟩:=hg
 clear hi hp
 cases hv:yhz g with
 | false =>
   have Hf:=zF (show ydf g=false by unfold ydf;rw[hv];rfl)
   go_enter zAQ,zBE
   go_wp2_with fail
   refine(yrn _ g _ (hg0.out.below ((Below.refl _ _).alloc (zT _) _))).mono ?_;rintro e w1 ⟨rfl,hb1⟩
   go_wp2_with fail
   go_ret
   exact⟨ybo Hf.out.symm,ybqx hb1⟩
 | true =>
   have hgood:=(ydw g).1 hv;have hn1:=hgood.1;have hn24:=hgood.2.1;have Hgood:=zF hgood;have Hd:=zF (yfx hgood (a:=0) (by omega))
   have Hc:=zF (show ydf g=(ybt g 0).all (fun x=>decide (0<=x))by unfold ydf;rw[hv];rfl)
   clear hgood
   go_enter zAQ,zBE
   go_wp2_with fail
   refine(yrn _ g _ (hg0.out.below ((Below.refl _ _).alloc (zT _) _))).mono ?_;rintro e w1 ⟨rfl,hb1⟩;obtain⟨q0,q1⟩:=ydgw hb1;have Hb1:=zF (ybqx hb1)
   clear hb1
   go_wp2_with fail
   refine(ybmn _ g 0 _ (hg0.out.below Hb1.out) Hgood.out (by omega)).mono ?_
   rintro e w2 ⟨v,rfl,hv2,hb2⟩;have Hb2:=zF (Hb1.out.trans (hb2.mono Hb1.out.size));obtain⟨A,c,rfl,hA1,hA2⟩:=ycq hv2;have Hv2:=zF hv2
   clear hb2 hv2
   obtain⟨D,hD⟩:∃D,ybt g 0=D:=⟨_,rfl⟩;rw[hD]at Hv2 Hd hA1 Hc ⊢
   clear hD
   go_wp2
   go_loopg [11] D.length (fun q t wr=>∃k:Nat,q+k=D.length/\t = .int .i64 k/\wr=w2/\Hid (∀j (hj:j<D.length),j<k->0<=D[j]))
   case atStart=>exact⟨0,by omega,rfl,rfl,zF (fun j _ hj=>absurd hj (by omega))⟩
   case round =>
    obtain⟨k,hq,rfl,rfl,hall⟩:=hrel
    by_cases hlt:k<D.length
    ·obtain⟨b,off,rfl,hb,hc,hr⟩:=yna Hv2.out hlt
     by_cases c1:D[k]<0
     ·have Hf:=zF (show ydf g=false by
       rw[Hc.out,zAV];exact⟨D[k],zS hlt,by simp;omega⟩)
      go_wp2
      go_ret
      exact⟨ybo Hf.out.symm,Hb2.out⟩
     ·go_wp2
      go_roundg (gk-1)
      case measure=>omega
      case rel =>
       refine⟨k+1,by omega,by go_num,rfl,zF (fun j hj hjk=>?_)⟩
       by_cases e:j=k
       ·subst e;omega
       ·exact hall.out j hj (by omega)
    ·obtain rfl:k=D.length:=by omega
     have Ht:=zF (show ydf g=true by
      rw[Hc.out,zAW];intro x hx;obtain⟨j,hj,rfl⟩:=List.mem_iff_getElem.1 hx;exact decide_eq_true (hall.out j hj hj))
     go_wp2
     go_ret
     exact⟨ybo Ht.out.symm,Hb2.out⟩
theorem ylo{g:Gr}(h:ydf g=true):yhz g=true:=(zB _ _▸h).1
end
section
open Go.RowKit
theorem ykp(g:Gr)(G:List Int)(v:Nat):(ydz g G v).length=G.length:=by simp[ydz]
set_option maxHeartbeats 2000000 in
theorem yoj(gv cv Gv:Value)(g:Gr)(c:Conf)(G:List Int)(w:World)(hg:GrAt w gv g)(hc:ychj w cv c)(hG:yku w Gv G)(hgood:ybc g) :
 Calls zJ 102 #[gv,cv,Gv] w fun e w'=>e = .returned (.bool (ynt g.ports.length (ydz g G) c))/\Below w.heap.size w w':=by
 have hn24:=hgood.2.1;have hid:=hgood.2.2.1;have Hid':=zF hid
 clear hgood
 obtain⟨i,p,rfl,hi,hp⟩:=hg;obtain⟨A,c0,rfl,hA1,hA2⟩:=ycq hi;obtain⟨A2,c2,rfl,hB1,hB2⟩:=ycq hp;obtain⟨A3,c3,rfl,hC1,hC2⟩:=ycq hc;obtain⟨A4,c4,rfl,hD1,hD2⟩:=ycq hG;have Hp:=zF hp;have Hc:=zF hc;have HG:=zF hG
 clear hi hp hc hG
 by_cases n1:c.length=g.ids.length
 ·have n1':((c.length:Int)!=(g.ids.length:Int))=false:=by simp[n1]
  have Hn:=zF (n1.trans hid);have hcn:c.length<=24:=by omega
  clear n1 hid
  go_enter zAR,zBF
  go_wp2
  obtain⟨W1,hW1⟩:∃W,W=w.alloc (.cells #[.slice A g.ids.length c0,.slice A2 g.ports.length c2] 27):=⟨_,rfl⟩;have hbox:W1.cell? ⟨w.heap.size,1,none⟩=some (.slice A2 g.ports.length c2):=by subst hW1;simp
  have HbW:=zF (show Below w.heap.size w W1 by subst hW1;exact(Below.refl _ _).alloc (zT _) _)
  rw[<-hW1]
  clear hW1
  go_loopg [21] c.length (fun q t wr=>∃v n:Nat,q+v=c.length/\t = .int .i64 v/\wr=W1.drewN n/\Hid (∀(u:Nat) s,u<v->c[u]?=some s->yev (ydz g G u) s))
  case atStart=>exact⟨0,0,by omega,rfl,rfl,zF (fun u s hu=>absurd hu (by omega))⟩
  case round =>
   obtain⟨v,n,hq,rfl,rfl,hok⟩:=hrel
   by_cases hlt:v<c.length
   ·obtain⟨b3,off3,sv,rfl,hb3,hcs,hs⟩:=ymw (Hc.out.below (Stable.sl Stable.int) HbW.out) (zD hlt);obtain⟨A5,c5,rfl,hE1,hE2⟩:=ycq hs;obtain⟨s,hse⟩:∃s,c[v]=s:=⟨_,rfl⟩;have Hs?:=zF (show c[v]?=some s by rw[zD hlt,hse])
    rw[hse]at hs hcs hE1;have Hbad:=zF (show ¬yev (ydz g G v) s->ynt g.ports.length (ydz g G) c=false from fun h=>yin (fun hc=>h (hc.2 v s Hs?.out)))
    have Hs:=zF hs
    clear hs hse
    by_cases c1:s.length=G.length
    ·have c1':((s.length:Int)!=(G.length:Int))=false:=by simp[c1]
     have Hsl:=zF c1
     clear c1
     have hvp:v<g.ports.length:=by rw[<-Hn.out];exact hlt
     go_wp2
     obtain⟨go,rfl⟩:∃go,go=gk:=⟨_,rfl⟩
     go_loopg [33] s.length (fun q t wr=>∃x n:Nat,q+x=s.length/\t = .int .i64 x/\wr=W1.drewN n/\Hid (∀(j:Nat) b z,j<x->(ydz g G v)[j]?=some b->s[j]?=some z->b.1<=z/\z<=b.2))
     case atStart=>exact⟨0,n,by omega,rfl,rfl,zF (fun j b z hj=>absurd hj (by omega))⟩
     case round =>
      obtain⟨x,n,hqx,rfl,rfl,hst⟩:=hrel
      by_cases hxl:x<s.length
      ·have hxG:x<G.length:=by rw[<-Hsl.out];exact hxl
       obtain⟨b5,o5,rfl,hb5,hc5,hr5⟩:=yna (Hs.out) hxl;obtain⟨b6,o6,rfl,hb6,hc6,hr6⟩:=yna (HG.out.below Stable.int HbW.out) hxG;obtain⟨b7,o7,lv,rfl,hb7,hc7,hl7⟩:=ymw (Hp.out.below (Stable.sl Stable.link) HbW.out) (zD hvp);obtain⟨A8,c8,rfl,hF1,hF2⟩:=ycq hl7;obtain⟨ds,hds⟩:∃ds,g.ports[v]=ds:=⟨_,rfl⟩;have hdeg:yccb g v=ds.length:=by simp[yccb,zQ,zD hvp,hds]
       rw[hds]at hc7 hF1;obtain⟨y,hy⟩:∃y,s[x]=y:=⟨_,rfl⟩;obtain⟨h,hh⟩:∃h,G[x]=h:=⟨_,rfl⟩;have Hy?:=zF (show s[x]?=some y by rw[zD hxl,hy])
       have hb?:(ydz g G v)[x]?=some (if h = -1 then(-1,(ds.length:Int)-1)else(0,h)):=by
        simp[ydz,hxG,hh,hdeg]
       rw[hy]at hc5 hr5;rw[hh]at hc6 hr6;obtain⟨hr5a,hr5b⟩:=hr5;obtain⟨hr6a,hr6b⟩:=hr6
       clear hl7 hds hdeg hy hh
       by_cases c2:h = -1
       ·have c2':(h == -1)=true:=by simp[c2]
        rw[if_pos c2]at hb?;have Hb?:=zF hb?
        clear hb? c2
        by_cases c3:y < -1
        ·have Hf:=zF (Hbad.out (fun h=>by have:=h.2 x _ y Hb?.out Hy?.out;simp only at this;omega))
         go_wp2
         go_quiet (fail)
         go_wp2
         go_quiet (fail)
         go_wp2
         go_ret
         exact⟨ybo Hf.out.symm,below_drewN HbW.out _⟩
        ·by_cases c4:(ds.length:Int)-1<y
         ·have Hf:=zF (Hbad.out (fun h=>by have:=h.2 x _ y Hb?.out Hy?.out;simp only at this;omega))
          go_wp2
          go_quiet (fail)
          go_wp2
          go_quiet (fail)
          go_wp2
          go_ret
          exact⟨ybo Hf.out.symm,below_drewN HbW.out _⟩
         ·have c4d:decide ((ds.length:Int)-1<y)=false:=by simp;omega
          go_wp2
          go_quiet (fail)
          go_wp2
          go_quiet (fail)
          go_wp2
          go_roundg (gk-1)
          case measure=>omega
          case rel =>
           refine⟨x+1,_,by omega,by go_num,rfl,zF (fun j b z hj hb hz=>?_)⟩
           by_cases hjx:j<x
           ·exact hst.out j b z hjx hb hz
           ·obtain rfl:j=x:=by omega
            rw[Hb?.out]at hb;rw[Hy?.out]at hz;cases hb
            cases hz
            simp only;omega
       ·have c2':(h == -1)=false:=by simp[c2]
        rw[if_neg c2]at hb?;have Hb?:=zF hb?
        clear hb? c2
        by_cases c3:y<0
        ·have Hf:=zF (Hbad.out (fun h=>by have:=h.2 x _ y Hb?.out Hy?.out;simp only at this;omega))
         go_wp2
         go_quiet (fail)
         go_wp2
         go_ret
         exact⟨ybo Hf.out.symm,below_drewN HbW.out _⟩
        ·by_cases c4:h<y
         ·have Hf:=zF (Hbad.out (fun h=>by have:=h.2 x _ y Hb?.out Hy?.out;simp only at this;omega))
          go_wp2
          go_quiet (fail)
          go_wp2
          go_ret
          exact⟨ybo Hf.out.symm,below_drewN HbW.out _⟩
         ·have c4d:decide (h<y)=false:=by simp;omega
          go_wp2
          go_quiet (fail)
          go_wp2
          go_roundg (gk-1)
          case measure=>omega
          case rel =>
           refine⟨x+1,_,by omega,by go_num,rfl,zF (fun j b z hj hb hz=>?_)⟩
           by_cases hjx:j<x
           ·exact hst.out j b z hjx hb hz
           ·obtain rfl:j=x:=by omega
            rw[Hb?.out]at hb;rw[Hy?.out]at hz;cases hb
            cases hz
            simp only;omega
      ·obtain rfl:x=s.length:=by omega
       go_wp2
       go_roundg (go-1)
       case measure=>omega
       case rel =>
        refine⟨v+1,_,by omega,by go_num,rfl,zF (fun u s' hu hs'=>?_)⟩
        by_cases huv:u<v
        ·exact hok.out u s' huv hs'
        ·obtain rfl:u=v:=by omega
         rw[Hs?.out]at hs';cases hs'
         refine⟨by rw[ykp,Hsl.out],fun j b z hb hz=>hst.out j b z (List.getElem?_eq_some_iff.1 hz).1 hb hz⟩
    ·have c1':((s.length:Int)!=(G.length:Int))=true:=by simp;omega
     have Hf:=zF (Hbad.out (fun h=>c1 (by rw[h.1,ykp])))
     clear c1
     go_wp2
     go_ret
     exact⟨ybo Hf.out.symm,below_drewN HbW.out _⟩
   ·obtain rfl:v=c.length:=by omega
    have Ht:=zF (yvh (n:=g.ports.length) (bs:=ydz g G) (c:=c) ⟨Hn.out,fun v s hs=>hok.out v s (List.getElem?_eq_some_iff.1 hs).1 hs⟩)
    go_wp2
    go_ret
    exact⟨ybo Ht.out.symm,below_drewN HbW.out _⟩
 ·have n1':((c.length:Int)!=(g.ids.length:Int))=true:=by simp;omega
  have Hf:=zF (yin (n:=g.ports.length) (bs:=ydz g G) (c:=c) (fun h=>n1 (h.1.trans hid.symm)))
  clear n1 hid
  go_enter zAR,zBF
  go_wp2
  go_ret
  exact⟨ybo Hf.out.symm,(Below.refl _ _).alloc (zT _) _⟩
end
section
open Go.RowKit
theorem ybsu(g:Gr)(v:Int):-1<=eccP g v/\eccP g v<=1000:=by
 unfold eccP;split
 ·rename_i h
  have hgood:=(ydw g).1 (ylo h.1);refine⟨ywr _,ypg _ _ (by omega) (fun x hx=>?_)⟩
  have:=(ydq hgood (a:=v.toNat) (by omega)).bound hgood (by omega) x hx
  omega
 ·omega
end
section
abbrev eNum(k:Int):Ex:=.leaf 1 k
abbrev yddn:Ex:=.leaf 4 0
abbrev eVar(k:Int):Ex:=.leaf 5 k
abbrev eN:Ex:=.leaf 6 0
abbrev eQ(k:Int):Ex:=.leaf 12 k
theorem yjo(l:List Int):∀a:Int,l.foldl min a<=a/\(∀x∈l,l.foldl min a<=x)/\∀b:Int,b<=a->(∀x∈l,b<=x)->b<=l.foldl min a:=by
 induction l with
 |nil=>intro a;exact⟨Int.le_refl _,fun x hx=>(List.not_mem_nil hx).elim,fun b hb _=>hb⟩
 | cons y l ih =>
   intro a;obtain⟨h1,h2,h3⟩:=ih (min a y);refine⟨by simp only[zBA];omega,fun x hx=>?_,fun b hb hx=>?_⟩
   ·rcases List.mem_cons.1 hx with rfl|hx
    ·simp only[zBA];omega
    ·exact h2 x hx
   ·have:=hx y zY;exact h3 b (by omega) fun x hx'=>hx x (zV _ hx')
theorem ybpy{l:List Int}{x:Int}(h:x∈l):ygq l<=x:=(yjo l 1073741824).2.1 x h
theorem ysf{l:List Int}{b:Int}(hb:b<=1073741824)(h:∀x∈l,b<=x):b<=ygq l:=(yjo l 1073741824).2.2 b hb h
theorem ybck{α:Type}(g:Gr)(v:Nat)(f:Int×Int->α)(h:Nat->α)(e:∀q,q<(g.ports.getD v []).length->h q=f ((g.ports.getD v []).getD q (0,0))):(zBJ (g.ports.getD v []).length).map h=(g.ports.getD v []).map f:=by
 refine List.ext_getElem (by simp) fun i h1 h2=>?_
 have hi:i<(g.ports.getD v []).length:=by simpa using h1
 rw[zAX,List.getElem_range,zAX,e i hi];congr 1;rw[zAE,zD hi];rfl
theorem ywf(f:Int×Int->Bool)(ls:List (Int×Int)):yef (ls.map fun l=>ycm (f l))=yhf f ls:=by
 unfold yef yhf
 have:((fun x:Int=>x != 0) ∘ fun l=>ycm (f l))=f:=by
  funext l
  show(ycm (f l)!=0)=f l;unfold ycm;cases f l<;>rfl
 rw[List.findIdx?_map,this]
 all_goals (cases List.findIdx? f ls<;>rfl)
def endP(c:Conf)(k:Nat)(l:Int×Int):Int:=(c.getD l.1.toNat []).getD k 0
theorem ybbh(b:Bool):(ycm b != 0)=b:=by cases b<;>rfl
section
variable {nm nd np nt nl:ByteArray}{g:Gr}{c:Conf}{v:Nat}
theorem bT3{x:ByteArray}:ybh g v ⟨x,3,0,0,0,0⟩=(-1,((g.ports.getD v []).length:Int)-1):=by
 show(if (3:Int)=1 then _ else if (3:Int)=2 then _ else if (3:Int)=3 then _ else _)=_
 rw[if_neg (by decide),if_neg (by decide),if_pos rfl]
end
end
section
section
variable {g:Gr}{a v:Nat}
theorem yfg(hg:ybc g)(hc:ydf g=true)(ha:a<g.ports.length)(hv:v<g.ports.length):∃k:Nat,(ybt g a).getD v 0=k/\Walk g a k v/\(∀j,j<k->¬Walk g a j v)/\k<g.ports.length:=by
 have h0:0<g.ports.length:=by omega
 have hall:(ybt g a).all (fun x=>decide (0<=x))=true:=ybix hg h0 ha ((zB _ _▸hc).2);have hl:=yfx hg ha;have hvl:v<(ybt g a).length:=by rw[hl];exact hv
 have e:(ybt g a).getD v 0=(ybt g a)[v]:=by simp[zQ,hvl]
 have hpos:0<=(ybt g a)[v]:=by simpa using List.all_eq_true.1 hall _ (zS hvl)
 rcases(ydq hg ha).2 v _ (zD hvl)with⟨h,_⟩|⟨k,h1,h2,h3⟩
 ·omega
 ·exact⟨k,by rw[e,h1],h2,h3,yrq hg ha h2 h3⟩
theorem ydee{k:Nat}(hg:ybc g)(hc:ydf g=true)(ha:a<g.ports.length)(hv:v<g.ports.length)(h1:Walk g a k v)(h2:∀j,j<k->¬Walk g a j v):(ybt g a).getD v 0=k:=by
 obtain⟨j,e,h3,h4,_⟩:=yfg hg hc ha hv;rcases Nat.lt_trichotomy j k with h|h|h
 ·exact absurd h3 (h2 j h)
 ·rw[e,h]
 ·exact absurd h1 (h4 k h)
theorem ytd(hg:ybc g)(hc:ydf g=true)(ha:a<g.ports.length):(ybt g a).getD a 0=0:=ydee hg hc ha ha (k:=0) rfl fun j hj=>by omega
theorem ylf(hg:ybc g)(hc:ydf g=true)(ha:a<g.ports.length)(hv:v<g.ports.length):0<=(ybt g a).getD v 0/\(ybt g a).getD v 0<g.ports.length:=by
 obtain⟨k,e,_,_,h⟩:=yfg hg hc ha hv;omega
theorem ybir(hg:ybc g)(hc:ydf g=true)(ha:a<g.ports.length)(hv:v<g.ports.length)(hne:v≠a):1<=(ybt g a).getD v 0:=by
 obtain⟨k,e,h1,_,_⟩:=yfg hg hc ha hv;cases k with
 |zero=>exact absurd h1 hne
 |succ k=>omega
theorem ybja(hg:ybc g)(hc:ydf g=true)(ha:a<g.ports.length){u:Nat}(h:adj g u v):(ybt g a).getD v 0<=(ybt g a).getD u 0+1:=by
 obtain⟨hu,hv⟩:=hg.adj_lt h;obtain⟨k,e,h1,_,_⟩:=yfg hg hc ha hu;obtain⟨j,e',_,h3,_⟩:=yfg hg hc ha hv;rw[e,e'];rcases zAS (k+1) j with q|q
 ·exact absurd ⟨u,h1,h⟩ (h3 (k+1) q)
 ·omega
theorem yyw(hg:ybc g)(hc:ydf g=true)(ha:a<g.ports.length)(hv:v<g.ports.length)(hne:v≠a):∃u,adj g v u/\(ybt g a).getD u 0=(ybt g a).getD v 0-1:=by
 obtain⟨k,e,h1,h2,_⟩:=yfg hg hc ha hv;cases k with
 |zero=>exact absurd h1 hne
 | succ k =>
   obtain⟨u,h3,h4⟩:=h1;refine⟨u,hg.adj_symm h4,?_⟩;have h5:=ybja hg hc ha h4;obtain⟨hu,_⟩:=hg.adj_lt h4;obtain⟨j,e',_,h6,_⟩:=yfg hg hc ha hu;rw[e,e']at h5;rcases zAS k j with q|q
   ·exact absurd h3 (h6 k q)
   ·rw[e,e'];omega
theorem yhn{l:Int×Int}(hg:ybc g)(hv:v<g.ports.length)(hl:l∈g.ports.getD v []):0<=l.1/\l.1.toNat<g.ports.length/\adj g v l.1.toNat/\1<=l.2/\l.2<=15:=by
 have e:g.ports[v]?=some (g.ports.getD v []):=by simp[zQ,hv]
 have h:=hg.link e hl;exact⟨h.1,by omega,⟨_,e,l,hl,by omega⟩,h.2.2.2.1,h.2.2.2.2⟩
theorem ybez{u:Nat}(h:adj g v u):∃l∈g.ports.getD v [],l.1.toNat=u:=by
 obtain⟨l,hl,e⟩:=yho.1 h;exact⟨l,hl,by rw[e];simp⟩
theorem ybbj{f h:Int×Int->Bool}{ls:List (Int×Int)}(e:∀l∈ls,f l=h l):yhf f ls=yhf h ls:=by
 have:ls.findIdx? f=ls.findIdx? h:=by
  induction ls with
  |nil=>rfl
  | cons x l ih =>
    rw[zAT,zAT,e x zY,ih fun y hy=>e y (zV _ hy)]
 unfold yhf;rw[this]
theorem ybxr{f:Int×Int->Bool}{ls:List (Int×Int)}(h:∀l∈ls,f l=false):yhf f ls = -1:=by
 unfold yhf;rw[List.findIdx?_eq_none_iff.2 (fun x hx=>by simp[h x hx])]
theorem ycaz(hg:ybc g)(hc:ydf g=true)(ha:a<g.ports.length):wayP g (ybt g a) a = -1:=by
 refine ybxr fun l hl=>?_;obtain⟨_,h1,h2,_⟩:=yhn hg ha hl;have h3:=ylf hg hc ha h1;have h4:=ytd hg hc ha;unfold ynr;rw[h4,beq_eq_false_iff_ne];omega
end
section
variable {nm nd np nt nl:ByteArray}{g:Gr}
end
end
section
namespace Sh
section
variable {nm nd np nt nl:ByteArray}{g:Gr}
end
end Sh
end
section
namespace Sh
open Ev Go.RowKit
theorem ycby(l:List Nat):one1 (usV l)=true:=rfl
theorem ybur{n:Nat}(l:List Nat):owned (n+1) (usV l)=false:=rfl
theorem ybkf{n:Nat}(l:List Nat):scalar (n+1) (usV l)=false:=rfl
theorem ycft{n:Nat}(o:Own)(l:List Nat):view o (n+1) (usV l)=usV l:=rfl
theorem ydbe{n:Nat}(o:Own)(l:List Nat):vok o (n+1) (usV l)=True:=rfl
theorem ydbx{n:Nat}(h:Nm->Nm)(l:List Nat):ren h (n+1) (usV l)=usV l:=rfl
theorem yczw{n:Nat}(D:Nm->Bool)(l:List Nat):cln D (n+1) (usV l)=true:=rfl
theorem ybua{n:Nat}(fr:List Nm)(o:Own)(l:List Nat):ydi fr o (n+1) (usV l)=usV l:=rfl
theorem ydbh{n:Nat}(fr:List Nm)(o:Own)(l:List Nat):pok fr o (n+1) (usV l)=True:=rfl
theorem ybvn(l:List Nat):SV.cells (usV l)=[usV l]:=rfl
theorem ybfv(l:List Conf):one1 (yed l)=true:=rfl
theorem yzz{n:Nat}(l:List Conf):owned (n+1) (yed l)=false:=rfl
theorem yxa{n:Nat}(l:List Conf):scalar (n+1) (yed l)=false:=rfl
theorem ybei{n:Nat}(o:Own)(l:List Conf):view o (n+1) (yed l)=yed l:=rfl
theorem ybkd{n:Nat}(o:Own)(l:List Conf):vok o (n+1) (yed l)=True:=rfl
theorem ybmk{n:Nat}(h:Nm->Nm)(l:List Conf):ren h (n+1) (yed l)=yed l:=rfl
theorem ybln{n:Nat}(D:Nm->Bool)(l:List Conf):cln D (n+1) (yed l)=true:=rfl
theorem yzs{n:Nat}(fr:List Nm)(o:Own)(l:List Conf):ydi fr o (n+1) (yed l)=yed l:=rfl
theorem ybkw{n:Nat}(fr:List Nm)(o:Own)(l:List Conf):pok fr o (n+1) (yed l)=True:=rfl
theorem ybbu(l:List Conf):SV.cells (yed l)=[yed l]:=rfl
theorem ybnf(l:List Cnt):one1 (yht l)=true:=rfl
theorem yben{n:Nat}(l:List Cnt):owned (n+1) (yht l)=false:=rfl
theorem ybcp{n:Nat}(l:List Cnt):scalar (n+1) (yht l)=false:=rfl
theorem ybmx{n:Nat}(o:Own)(l:List Cnt):view o (n+1) (yht l)=yht l:=rfl
theorem ybzj{n:Nat}(o:Own)(l:List Cnt):vok o (n+1) (yht l)=True:=rfl
theorem ybtw{n:Nat}(h:Nm->Nm)(l:List Cnt):ren h (n+1) (yht l)=yht l:=rfl
theorem ybqc{n:Nat}(D:Nm->Bool)(l:List Cnt):cln D (n+1) (yht l)=true:=rfl
theorem ybfw{n:Nat}(fr:List Nm)(o:Own)(l:List Cnt):ydi fr o (n+1) (yht l)=yht l:=rfl
theorem ycac{n:Nat}(fr:List Nm)(o:Own)(l:List Cnt):pok fr o (n+1) (yht l)=True:=rfl
theorem ybdu(l:List Cnt):SV.cells (yht l)=[yht l]:=rfl
theorem ycau(l:List Bool):one1 (blV l)=true:=rfl
theorem ybof{n:Nat}(l:List Bool):owned (n+1) (blV l)=false:=rfl
theorem ybkq{n:Nat}(l:List Bool):scalar (n+1) (blV l)=false:=rfl
theorem ycdt{n:Nat}(o:Own)(l:List Bool):view o (n+1) (blV l)=blV l:=rfl
theorem ydcq{n:Nat}(o:Own)(l:List Bool):vok o (n+1) (blV l)=True:=rfl
theorem ydcn{n:Nat}(h:Nm->Nm)(l:List Bool):ren h (n+1) (blV l)=blV l:=rfl
theorem ycyw{n:Nat}(D:Nm->Bool)(l:List Bool):cln D (n+1) (blV l)=true:=rfl
theorem ybyz{n:Nat}(fr:List Nm)(o:Own)(l:List Bool):ydi fr o (n+1) (blV l)=blV l:=rfl
theorem yddo{n:Nat}(fr:List Nm)(o:Own)(l:List Bool):pok fr o (n+1) (blV l)=True:=rfl
theorem yboh(l:List Bool):SV.cells (blV l)=[blV l]:=rfl
attribute [go_sem] ycby ybur ybkf ycft ydbe ydbx yczw ybua ydbh ybvn ybfv yzz yxa ybei ybkd ybmk ybln yzs ybkw ybbu ybnf yben ybcp ybmx ybzj ybtw ybqc ybfw ycac ybdu ycau ybof ybkq ycdt ydcq ydcn ycyw ybyz yddo yboh
theorem Ct.found{P:Program}{g:FuncId}{args:List SV}{α:Type}{R:SV->α->Prop}{V:α->SV}{Q:SV->Prop}(h:Ct P g args fun r=>∃x,R r x)(hs:∀r x,R r x->Sim r (V x))(hq:∀r x,R r x->Q (V x)):Ct P g args Q:=fun G m us h1 h2 h3=>by
 obtain⟨v,m',r,a,b,c,⟨x,hx⟩,e⟩:=h G m us h1 h2 h3;exact⟨v,m',V x,a,b,c,hq r x hx,hs r x hx _ _ _ e⟩
theorem ybgb:ybye resS:=fun e w h0=>⟨h0,fun _ h=>h⟩
theorem Sys.run_len(S:Sys)(res:Nat->Nat->Nat):∀(ws:List Nat) (c:Conf) (k:Cnt),(S.run res ws c k).length<=ws.length
 |[],_,_=>zT _
 | w :: ws,c,k=>by
   unfold Sys.run;split
   ·exact zZ _
   ·simp only[zAI];have:=Sys.run_len S res ws (S.mv c (res (S.en c) w)) (addP k (res (S.en c) w) (S.en (S.mv c (res (S.en c) w))));omega
structure RunD(S:Sys)(res:Nat->Nat->Nat)(ws:List Nat)(c:Conf)(n:Nat)(Cs:List Conf)(Ks:List Cnt):Prop where
 cs:(S.runs res ws c).map (·.1)=Cs
 ks:(S.runs res ws c).map (·.2)=Ks
 len:(S.runs res ws c).length=n
 pos:0<n
 le:n<=ws.length+1
theorem RunD.at_{S:Sys}{res:Nat->Nat->Nat}{ws:List Nat}{c:Conf}{n:Nat}{Cs:List Conf}{Ks:List Cnt}(h:RunD S res ws c n Cs Ks){k:Nat}(hk:k<n):(Cs.getD k [],Ks.getD k default)∈S.runs res ws c/\(S.runs res ws c)[k]?=some (Cs.getD k [],Ks.getD k default):=by
 have hk':k<(S.runs res ws c).length:=by rw[h.len];exact hk
 have e:(S.runs res ws c)[k]=(Cs.getD k [],Ks.getD k default):=by
  rw[<-h.cs,<-h.ks];simp[zQ,hk']
 exact⟨by rw[<-e];exact zS hk',by rw[<-e];exact zD hk'⟩
theorem RunD.lC{S:Sys}{res:Nat->Nat->Nat}{ws:List Nat}{c:Conf}{n:Nat}{Cs:List Conf}{Ks:List Cnt}(h:RunD S res ws c n Cs Ks):Cs.length=n:=by rw[<-h.cs,zM,h.len]
theorem RunD.lK{S:Sys}{res:Nat->Nat->Nat}{ws:List Nat}{c:Conf}{n:Nat}{Cs:List Conf}{Ks:List Cnt}(h:RunD S res ws c n Cs Ks):Ks.length=n:=by rw[<-h.ks,zM,h.len]
theorem runD(S:Sys)(res:Nat->Nat->Nat)(ws:List Nat)(c:Conf):∃n Cs Ks,RunD S res ws c n Cs Ks :=
 ⟨_,_,_,rfl,rfl,rfl,by simp[Sys.runs],by have:=Sys.run_len S res ws c (ydx (S.en c));simp only[Sys.runs,zAI];omega⟩
theorem RunD.last{S:Sys}{res:Nat->Nat->Nat}{ws:List Nat}{c:Conf}{n:Nat}{Cs:List Conf}{Ks:List Cnt}(h:RunD S res ws c n Cs Ks){k:Nat}(hk:k+1<n):S.en (Cs.getD k [])≠0:=by
 have h1:=(h.at_ (show k<n by omega)).2
 exact Sys.runs_last (by rw[h.len];exact hk) h1
end Sh
end
section
namespace Sh
open Go Ev
def ycnf:LO:=[o3 (.mv (ci' 0)) 2 0]
def ychd:LO:=[mv' 0 5 0,ln' 5 6 1,o3 (.bin .lss (.tmp 6) (ci' 1)) 7 3]
def ydjf:LO:=[o3 (.no) 8 0,o0 (.no) 1]
def ycvg:LO:=[mv' 0 9 0,o3 (.idx 1 (.tmp 9) (ci' 0)) 10 1,ld' false 1 10 11 3,mv' 11 3 7]
def yctw:LO:=[o3 (.mv (ci' 1)) 4 0]
def ycpw:LO:=[mv' 4 12 0,mv' 0 13 0,ln' 13 14 2,bn' .lss 12 14 15 7]
def ycqe:LO:=[mv' 3 18 0,mv' 0 19 0,mv' 4 20 0,ix' 1 19 20 21 6,ld' false 1 21 22 14,o3 (.mm false (.tmp 18) (.tmp 22)) 23 31,mv' 23 3 63]
def ycqh:LO:=[mv' 4 16 0,o3 (.bin .add (.tmp 16) (ci' 1)) 17 1,mv' 17 4 3]
def ycmf:LO:=[mv' 3 24 0,mv' 24 2 1]
def c166:SC:=(.seq (.reg false ycnf) (.seq (.seq (.reg false ychd) (.cond (.tmp 7) (.reg false ydjf) .skip)) (.seq (.reg false ycvg) (.seq (.seq (.reg false yctw) (.block 0 (.loop (.seq (.seq (.reg false ycpw) (.cond (.tmp 15) .skip (.exit 0))) (.seq (.block 1 (.reg false ycqe)) (.reg false ycqh)))))) (.seq (.reg false ycmf) .ret)))))
theorem ycxq:Fn 166 c166 [.t 2]:=fn_0 Tryz.func166 (by kernel_rfl) (by kernel_rfl)
def ycqf:LO:=[o3 (.box 27 (.tmp 0)) 1 0,o3 (.mv (.const (.bool false))) 2 0]
def ycvl:LO:=[ld' true 2 1 3 0,cl' 137 [3] 4 1,mv' 4 2 3]
def c159:SC:=(.seq (.reg false ycqf) (.seq (.reg false ycvl) .ret))
theorem yday:Fn 159 c159 [.t 2]:=fn_0 Tryz.func159 (by kernel_rfl) (by kernel_rfl)
def ycjt:LO:=[o3 (.box 27 (.tmp 0)) 1 0,o3 (.mv (ci' 0)) 2 0]
def yckk:LO:=[fa' 0 1 1 3 0,ld' false 1 3 4 1,fa' 0 1 1 5 0,ld' false 1 5 6 4,cl' 166 [6] 7 12,cl' 165 [4,7] 8 31,mv' 8 2 63]
def c126:SC:=(.seq (.reg false ycjt) (.seq (.reg true yckk) .ret))
theorem ycyp:Fn 126 c126 [.t 2]:=fn_0 Tryz.func126 (by kernel_rfl) (by kernel_rfl)
def ybyp:LO:=[o3 (.box 27 (.tmp 0)) 2 0,o3 (.mv (.const (.bool false))) 4 0]
def ybqo:LO:=[ld' true 2 2 10 0,cl' 159 [10] 11 1,o3 (.un .not (.tmp 11)) 12 3,mv' 12 13 7,⟨.load true 2 (.tmp 2),some 14,some (13,false),15⟩,⟨.mv (.tmp 1),some 15,some (13,false),15⟩,⟨.faddr 0 1 (.tmp 2),some 16,some (13,false),15⟩,⟨.load false 1 (.tmp 16),some 17,some (13,false),79⟩,⟨.call (.func 160) [(.tmp 17)],some 18,some (13,false),207⟩,⟨.faddr 0 1 (.tmp 2),some 19,some (13,false),15⟩,⟨.load false 1 (.tmp 19),some 20,some (13,false),527⟩,⟨.len (.tmp 20),some 21,some (13,false),1551⟩,⟨.bin .sub (.tmp 21) (ci' 1),some 22,some (13,false),3599⟩,⟨.bslice 3 1 3 [.i .i64 0,.i .i64 0,.i .i64 0] [(0,1,(.tmp 18)),(1,1,(.tmp 22)),(2,1,(.const (.int .i64 (-1))))],some 23,some (13,false),8143⟩,⟨.call (.func 102) [(.tmp 14),(.tmp 15),(.tmp 23)],some 24,some (13,false),16383⟩,⟨.un .not (.tmp 24),some 25,some (13,false),32767⟩,o3 (.pick (.tmp 13) (.const (.bool true)) (.tmp 25)) 26 65535]
def ybxo:LO:=[o3 (.mv (.const (.bool false))) 4 0]
def ycxh:LO:=[ld' true 2 2 27 0,cl' 126 [27] 28 1,mv' 28 5 3]
def ycrv:LO:=[ld' true 2 2 29 0,mv' 5 30 0,cl' 161 [29,30] 31 3,o3 (.alloc 22 1 [.a (.slice none 0 0)]) 6 0,o0 (.store 1 (.tmp 6) (.tmp 31)) 15]
def ycte:LO:=[mv' 1 32 0,ln' 32 33 1,o3 (.mv (ci' 0)) 34 0]
def ybrs:LO:=[bn' .lss 34 33 35 0]
def ycni:LO:=[mv' 34 36 0,ix' 1 32 34 37 0,ld' false 1 37 38 2,o3 (.alloc 3 1 [.i .i64 0]) 7 0,o0 (.store 1 (.tmp 7) (.tmp 36)) 15,mv' 38 8 31]
def ycvx:LO:=[ld' true 2 2 39 0,ld' false 1 7 40 0,o3 (.mkfn 163 [] [(.tmp 6),(.tmp 7)]) 41 0,cl' 162 [39,40,41] 42 7,mv' 42 9 15]
def ycrp:LO:=[mv' 8 43 0,fa' 0 1 2 44 0,ld' false 1 44 45 2,mv' 5 46 0,ix' 1 45 46 47 14,ld' false 1 47 48 30,ld' false 1 6 49 0,ld' false 1 7 50 0,ix' 1 49 50 51 192,ld' false 1 51 52 448,mv' 9 53 0,o3 (.bslice 3 1 3 [.i .i64 0,.i .i64 0,.i .i64 0] [(0,1,(.tmp 48)),(1,1,(.tmp 52)),(2,1,(.tmp 53))]) 54 2046,cl' 164 [43,54] 55 4095,o3 (.un .not (.tmp 55)) 56 8191]
def ybyx:LO:=[o3 (.mv (.const (.bool false))) 4 0]
def ybsn:LO:=[o3 (.bin .add (.tmp 34) (ci' 1)) 57 0,mv' 57 34 1]
def ybow:LO:=[o3 (.mv (.const (.bool true))) 4 0]
def c125:SC:=(.seq (.reg false ybyp) (.seq (.seq (.reg true ybqo) (.cond (.tmp 26) (.seq (.reg false ybxo) .ret) .skip)) (.seq (.reg false ycxh) (.seq (.reg false ycrv) (.seq (.seq (.reg false ycte) (.block 0 (.loop (.seq (.reg false ybrs) (.seq (.cond (.tmp 35) .skip (.exit 0)) (.seq (.block 1 (.seq (.reg false ycni) (.seq (.reg false ycvx) (.seq (.reg true ycrp) (.cond (.tmp 56) (.seq (.reg false ybyx) .ret) .skip))))) (.reg false ybsn))))))) (.seq (.reg false ybow) .ret))))))
theorem ydat:Fn 125 c125 [.t 4]:=fn_0 Tryz.func125 (by kernel_rfl) (by kernel_rfl)
def ycgv:LO:=[o3 (.box 95 (.tmp 0)) 3 0,o3 (.mv (.const (.bool false))) 4 0]
def ycoo:LO:=[ld' false 1 1 5 0,fa' 0 1 3 6 0,ld' false 1 6 7 2,ix' 1 5 7 8 7,ld' false 1 8 9 15,ld' false 1 1 10 0,ld' false 1 2 11 0,ix' 1 10 11 12 96,ld' false 1 12 13 224,o3 (.bin .sub (.tmp 13) (ci' 1)) 14 480,bn' .eql 9 14 15 1023,mv' 15 4 2047]
def c163:SC:=(.seq (.reg false ycgv) (.seq (.reg true ycoo) .ret))
theorem yddt:Fn 163 c163 [.t 4]:=fn_0 Tryz.func163 (by kernel_rfl) (by kernel_rfl)
def yczt:LO:=[o3 (.box 27 (.tmp 0)) 2 0,o3 (.mv (ci' 0)) 4 0]
def ydbq:LO:=[ld' true 2 2 5 0,mv' 1 6 0,cl' 125 [5,6] 7 3,o3 (.un .not (.tmp 7)) 8 7]
def ydca:LO:=[o3 (.mv (.const (.int .i64 (-1)))) 4 0]
def ycys:LO:=[ld' true 2 2 9 0,cl' 126 [9] 10 1,mv' 10 4 3]
def c73:SC:=(.seq (.reg false yczt) (.seq (.seq (.reg false ydbq) (.cond (.tmp 8) (.seq (.reg false ydca) .ret) .skip)) (.seq (.reg false ycys) .ret)))
theorem ydjg:Fn 73 c73 [.t 4]:=fn_0 Tryz.func73 (by kernel_rfl) (by kernel_rfl)
def ydlk:LO:=[o3 (.mv (.const (.slice none 0 0))) 0 0]
def ydgg:LO:=[o3 (.call (.func 79) [(.const (.string (ByteArray.mk #[108,101,97,100]))),(ci' 0),(ci' 0),(ci' 1)]) 1 0,o3 (.call (.func 79) [(.const (.string (ByteArray.mk #[100]))),(.const (.int .i64 (-1))),(ci' 1),(ci' 0)]) 2 1,o3 (.call (.func 116) [(.const (.string (ByteArray.mk #[112])))]) 3 3,o3 (.bslice 87 6 3 [.a (.string (ByteArray.mk #[])),.i .i64 0,.i .i64 0,.i .i64 0,.i .i64 0,.i .i64 0,.a (.string (ByteArray.mk #[])),.i .i64 0,.i .i64 0,.i .i64 0,.i .i64 0,.i .i64 0,.a (.string (ByteArray.mk #[])),.i .i64 0,.i .i64 0,.i .i64 0,.i .i64 0,.i .i64 0] [(0,6,(.tmp 1)),(6,6,(.tmp 2)),(12,6,(.tmp 3))]) 4 7,mv' 4 0 15]
def c72:SC:=(.seq (.reg false ydlk) (.seq (.reg false ydgg) .ret))
theorem ydmp:Fn 72 c72 [.t 0]:=fn_0 Tryz.func72 (by kernel_rfl) (by kernel_rfl)
def ydns:LO:=[o3 (.alloc 87 1 [.a (.string (ByteArray.mk #[])),.i .i64 0,.i .i64 0,.i .i64 0,.i .i64 0,.i .i64 0]) 8 0]
def ydib:LO:=[mv' 0 9 0,mv' 1 10 0,mv' 2 11 0,mv' 3 12 0,o3 (.build [.a (.string (ByteArray.mk #[])),.i .i64 0,.i .i64 0,.i .i64 0,.i .i64 0,.i .i64 0] [(0,1,(.tmp 9)),(1,1,(ci' 1)),(3,1,(.tmp 10)),(4,1,(.tmp 11)),(5,1,(.tmp 12))]) 13 15,o0 (.store 6 (.tmp 8) (.tmp 13)) 31]
def c79:SC:=(.seq (.reg false ydns) (.seq (.reg false ydib) .ret))
theorem ydmi:Fn 79 c79 [.c 8 true 6]:=fn_0 Tryz.func79 (by kernel_rfl) (by kernel_rfl)
def ycgh:LO:=[o3 (.alloc 87 1 [.a (.string (ByteArray.mk #[])),.i .i64 0,.i .i64 0,.i .i64 0,.i .i64 0,.i .i64 0]) 2 0]
def ycjg:LO:=[mv' 0 3 0,o3 (.build [.a (.string (ByteArray.mk #[])),.i .i64 0,.i .i64 0,.i .i64 0,.i .i64 0,.i .i64 0] [(0,1,(.tmp 3)),(1,1,(ci' 3))]) 4 1,o0 (.store 6 (.tmp 2) (.tmp 4)) 3]
def c116:SC:=(.seq (.reg false ycgh) (.seq (.reg false ycjg) .ret))
theorem yddz:Fn 116 c116 [.c 2 true 6]:=fn_0 Tryz.func116 (by kernel_rfl) (by kernel_rfl)
end Sh
end
section
namespace Sh
open Ev Go.RowKit
theorem ydor{α:Type}(l:List α)(x d:α)(i:Nat):(l++[x]).getD i d=if i<l.length then l.getD i d else if i=l.length then x else d:=by
 by_cases h:i<l.length
 ·simp[zQ,List.getElem?_append_left h,h]
 ·by_cases e:i=l.length
  ·subst e;simp[zQ]
  ·rw[if_neg h,if_neg e,zQ,List.getElem?_eq_none (by simp;omega)]
   rfl
theorem ydpl(k i:Nat)(hi:i≠k):(if i<k+1 then(-1:Int)else 0)=if i<k then -1 else 0:=by
 by_cases h:i<k
 ·rw[if_pos h,if_pos (by omega)]
 ·rw[if_neg h,if_neg (by omega)]
theorem ybmf(g:Gr)(a i:Nat)(ha:a<g.ports.length)(hi:i<g.ports.length):(start g a).getD i 0=if i=a then 0 else -1:=by
 unfold start;rw[yxi (by simpa using ha)]
 split
 ·rfl
 ·rw[zAE,List.getElem?_replicate,if_pos hi];rfl
theorem ybmo{g:Gr}(hg:ybc g){a:Nat}(ha:a<g.ports.length):Returns zJ 139 [grV g,.i .i64 a] (yx (ybt g a)):=by
 refine Returns.of (ydby _ _ ?_);obtain⟨n,hn⟩:∃n,g.ports.length=n:=⟨_,rfl⟩;have h24:=hg.2.1;have h1:=hg.1;rw[hn]at h24 h1 ha;obtain⟨PV,hPV⟩:∃P,ybe g.ports=P:=⟨_,rfl⟩;simp only[c139,ycwc,ycls,ycnc,grV,ybe,hn,go_sem,zA,zC,zG,↓reduceIte,reduceCtorEq];refine⟨by omega,?_⟩
 refine ybj (σ:=Nat) (fun k=>⟨[(17,.i .i64 k),(16,.i .i64 n),(5,.os (14,0) 0 n true),(2,.pt (2,0) 0 0),(1,.i .i64 a)],
  [(2,.one (some ⟨27,true,2,1,fun _=>[yx g.ids,ybe g.ports]⟩)),(14,.one (some ⟨3,false,1,n,fun i=>[.i .i64 (if i<k then -1 else 0)]⟩))]⟩) (fun k=>k<=n) (fun k=>n-k) 0 (zZ _) ?_ ?_
 ·refine yj [] [] [] ?_;simp only[ybe,hn,allQ,live,yg,ybb,zAJ,go_sem,zA,↓reduceIte,reduceCtorEq];exact fun i _=>by rw[if_neg (by omega)]
 ·intro k hk
  by_cases hlt:k<n
  ·have ht:decide ((k:Int)<(n:Int))=true:=decide_eq_true (by omega)
   simp only[ybvm,ycwn,ycgf,ycsd,ht,splice,and_false,go_sem,zA,zC,↓reduceIte,reduceCtorEq];refine⟨by omega,by omega,ikw (by omega) (by omega),?_⟩
   refine yw (k+1) (by omega) (by omega) ?_
   refine yj [] [] [] ?_;simp only[go_sem,allQ,live,yg,ybb,go_sem,zA,↓reduceIte,reduceCtorEq];refine⟨by omega,fun i hi=>?_⟩
   by_cases q:i=k
   ·subst q;simp only[if_pos (zAY i)];simp only[live,yg,go_sem,↓reduceIte,reduceCtorEq]
   ·simp only[if_neg q,ydpl k i q];simp only[live,yg,go_sem,reduceCtorEq]
  ·obtain rfl:k=n:=by omega
   have ht:decide ((k:Int)<(k:Int))=false:=decide_eq_false (by omega)
   simp only[ybvm,yctp,yciq,ht,splice,and_false,go_sem,zA,zC,zG,↓reduceIte,reduceCtorEq];refine⟨⟨by omega,by omega⟩,by omega,?_⟩
   refine ybj (σ:=List Int×List Nat×Nat) (fun q=>⟨[(7,.os (128,0) q.2.2 (q.2.1.length-q.2.2) true),(5,.os (14,0) 0 k true),(2,.pt (2,0) 0 0)],
    [(2,.one (some ⟨27,true,2,1,fun _=>[yx g.ids,ybe g.ports]⟩)),(14,.one (some ⟨3,false,1,k,fun i=>[.i .i64 (q.1.getD i 0)]⟩)),(128,.one (some ⟨3,false,1,q.2.1.length,fun i=>[.i .i64 (q.2.1.getD i 0:Nat)]⟩))]⟩)
    (fun q=>q.2.2<=q.2.1.length/\BfsInv g a q.1 (q.2.1.drop q.2.2)/\q.2.1.length-q.2.2+yck q.1<=30/\q.2.1.length<=31) (fun q=>q.2.1.length-q.2.2+yck q.1) (start g a,[a],0) ⟨zZ _,BfsInv.start (by omega),ymg g a (by omega),by simp⟩ ?_ ?_
   ·refine yj [(128,fun i=>(28,i))] [] [] ?_;simp only[go_sem,allQ,live,yg,go_sem,zA,↓reduceIte,reduceCtorEq];refine⟨fun i hi=>?_,fun i hi=>?_⟩
    ·rw[ybmf g a i (by omega) (by omega),if_pos hi]
     by_cases q:i=a
     ·simp only[if_pos q];simp only[live,yg,go_sem,reduceCtorEq]
     ·simp only[if_neg q];simp only[live,yg,go_sem,reduceCtorEq]
    ·obtain rfl:i=0:=by omega
     simp only[zX,live,yg,go_sem,reduceCtorEq]
   ·rintro⟨R,W,o⟩ ⟨ho,hinv,hm30,hw31⟩;have ho:o<=W.length:=ho;have hinv:BfsInv g a R (W.drop o):=hinv;have hm30:W.length-o+yck R<=30:=hm30;have hw31:W.length<=31:=hw31;obtain⟨m,hm⟩:∃m,W.length=m:=⟨_,rfl⟩;rw[hm]at ho hm30 hw31
    by_cases hlt2:o<m
    ·have hQ : W.drop o=W[o]::W.drop (o+1):=(zAH (by omega))
     obtain⟨v,hv⟩:∃v,W.getD o 0=v:=⟨_,rfl⟩;have hv':W[o]=v:=by rw[<-hv,getD_at (show o<W.length by omega)]
     rw[hv']at hQ;rw[hQ]at hinv;obtain⟨d,hd⟩:=hinv.qin v (by simp)
     have hvl:v<g.ports.length:=by rw[<-hinv.len];exact(List.getElem?_eq_some_iff.1 hd).1
     obtain⟨ls,hls⟩:∃ls,g.ports.getD v []=ls:=⟨_,rfl⟩;have hls?:g.ports[v]?=some ls:=by rw[<-hls];simp[zQ,hvl]
     have hin:=hinv.pop hd ls;have hls24:ls.length<24:=by rw[<-hls];exact hg.deg_lt
     have ht2:decide (((m-o:Nat):Int)>0)=true:=decide_eq_true (by omega)
     simp only[ybsj,ybyu,ybrf,ybqu,ht2,hm,hv,ybe,ybd,hls,hn,go_sem,zBB,zA,zC,↓reduceIte,reduceCtorEq];refine⟨⟨by omega,by omega⟩,hlt2,⟨by omega,by omega,by omega⟩,⟨by omega,by omega⟩,?_⟩
     refine ybj (σ:=Nat×List Int×List Nat×Nat) (fun q=>⟨[(43,.i .i64 q.1),(42,.i .i64 ls.length),(41,ybd ls),(8,.i .i64 v),(7,.os (128,0) q.2.2.2 (q.2.2.1.length-q.2.2.2) true),(5,.os (14,0) 0 k true),(2,.pt (2,0) 0 0)],
      [(2,.one (some ⟨27,true,2,1,fun _=>[yx g.ids,ybe g.ports]⟩)),(14,.one (some ⟨3,false,1,k,fun i=>[.i .i64 (q.2.1.getD i 0)]⟩)),(128,.one (some ⟨3,false,1,q.2.2.1.length,fun i=>[.i .i64 (q.2.2.1.getD i 0:Nat)]⟩))]⟩)
      (fun q=>q.1<=ls.length/\q.2.2.2<=q.2.2.1.length/\BfsIn g a v d ls q.1 q.2.1 (q.2.2.1.drop q.2.2.2)/\q.2.2.1.length-q.2.2.2+1+yck q.2.1=m-o+yck R/\q.2.2.1.length<=31) (fun q=>ls.length-q.1) (0,R,W,o+1) ⟨zZ _,by show o+1<=W.length;omega,hin,by show W.length-(o+1)+1+yck R=_;omega,by show W.length<=31;omega⟩ ?_ ?_
     ·refine yj [] [] [] ?_;simp only[ybe,ybd,hn,hm,Nat.sub_sub,allQ,live,yg,zAJ,go_sem,zA,↓reduceIte,reduceCtorEq]
     ·rintro⟨j,R',W',o'⟩ ⟨hj,ho',hin',hun',hw'⟩;have hj:j<=ls.length:=hj;have ho':o'<=W'.length:=ho';have hin':BfsIn g a v d ls j R' (W'.drop o'):=hin';have hun':W'.length-o'+1+yck R'=m-o+yck R:=hun';have hw':W'.length<=31:=hw';obtain⟨m',hm'⟩:∃m,W'.length=m:=⟨_,rfl⟩;rw[hm']at ho' hun' hw'
      by_cases hjl:j<ls.length
      ·have ht3:decide ((j:Int)<(ls.length:Int))=true:=decide_eq_true (by omega)
       obtain⟨l,hl⟩:∃l,ls.getD j (0,0)=l:=⟨_,rfl⟩;have hl':ls[j]=l:=by rw[<-hl,getD_at hjl]
       have hlm:l∈ls:=by rw[<-hl'];exact zS _
       obtain⟨k1,k2,k3,k4,k5⟩:=hg.link hls? hlm;obtain⟨u,hu⟩:=zAL k1;have hul:u<R'.length:=by rw[hin'.len];omega
       have hRv:R'.getD v 0=(d:Int):=by have:=hin'.rv;simp[zQ,this]
       have hd24:d<g.ports.length:=by
        rcases hin'.val v _ hin'.rv with e|⟨k',e,h1,h2⟩
        ·omega
        ·obtain rfl:d=k':=by omega
         exact yrq hg (by omega) h1 h2
       have hRu:R'[u]?=some (R'.getD u 0):=by rw[getD_at hul];exact zD hul
       by_cases hneg:R'.getD u 0<0
       ·have ht4:decide (R'.getD u 0<0)=true:=decide_eq_true hneg;simp only[ywm,yxj,yyb,ywa,yxm,ywj,ybd,hl,hu,ht3,ht4,hm',hRv,splice,and_false,go_sem,zA,zC,zI,zG,↓reduceIte,reduceCtorEq];refine⟨⟨by omega,by omega⟩,⟨by omega,by omega⟩,by omega,⟨by omega,by omega⟩,by omega,ikw (by omega) (by omega),⟨by omega,by omega⟩,by omega,by decide,⟨by omega,by omega,by omega⟩,ikw (by omega) (by omega),?_⟩
        have hRm:R'[u]?=some (-1):=by
         rcases hin'.val u _ hRu with e|⟨k',e,_⟩
         ·rw[hRu,e]
         ·omega
        have hdis:=hin'.discover hls? hjl (u:=u) (by rw[hl'];exact hu) hRm
        have hunf:=yrw (R:=R') (u:=u) (x:=(d:Int)+1) hRm (by omega)
        have hlen:(W'.drop o'++[u]).length=m'-o'+1:=by rw[List.length_append,zAZ,hm'];rfl
        refine yw (j+1,R'.set u ((d:Int)+1),W'.drop o'++[u],0) ⟨by show j+1<=_;omega,zZ _,hdis,by show(W'.drop o'++[u]).length-0+1+yck (R'.set u ((d:Int)+1))=_;omega,by show(W'.drop o'++[u]).length<=31;omega⟩ (by show ls.length-(j+1)<ls.length-j;omega) ?_
        refine yj [(128,fun i=>(66,i))] [] [] ?_;simp only[ybe,ybd,hn,hlen,allQ,live,yg,ybb,go_sem,zA,↓reduceIte,reduceCtorEq];refine⟨⟨by omega,Sim.refl _⟩,fun i hi=>?_,fun i hi=>?_⟩
        ·rw[yxi hul]
         by_cases q:i=u
         ·simp only[if_pos q];simp only[live,yg,go_sem,reduceCtorEq]
         ·simp only[if_neg q];simp only[live,yg,go_sem,reduceCtorEq]
        ·rw[ydor,zAZ,hm']
         by_cases q:i<m'-o'
         ·have e:(W'.drop o').getD i 0=W'.getD (o'+i) 0:=by simp[zQ,zAU]
          simp only[if_pos q,e];simp only[live,yg,go_sem,reduceCtorEq]
         ·obtain rfl:i=m'-o':=by omega
          simp only[if_neg q,Nat.sub_self,Nat.zero_mul,↓reduceIte];simp only[live,yg,go_sem,reduceCtorEq]
       ·have ht4:decide (R'.getD u 0<0)=false:=decide_eq_false hneg;simp only[ywm,yxj,yyb,ywa,yxm,ywj,ybd,hl,hu,ht3,ht4,hm',splice,go_sem,zA,zC,zI,zG,↓reduceIte,reduceCtorEq];refine⟨⟨by omega,by omega⟩,⟨by omega,by omega⟩,by omega,ikw (by omega) (by omega),?_⟩
        obtain⟨y,hy⟩:=zAL (show 0<=R'.getD u 0 by omega)
        have hsk:=hin'.skip hjl (j:=y) (by rw[hl',hu,Int.toNat_natCast,hRu,hy])
        refine yw (j+1,R',W',o') ⟨by show j+1<=_;omega,by show o'<=W'.length;omega,hsk,by show W'.length-o'+1+yck R'=_;omega,by show W'.length<=31;omega⟩ (by show ls.length-(j+1)<ls.length-j;omega) ?_
        refine yj [] [] [] ?_;simp only[ybe,ybd,hn,hm',allQ,live,yg,ybb,go_sem,zA,↓reduceIte,reduceCtorEq];omega
      ·obtain rfl:j=ls.length:=by omega
       have ht3:decide ((ls.length:Int)<(ls.length:Int))=false:=decide_eq_false (by omega)
       simp only[ywm,yxj,yyb,ywa,yxm,ywj,ht3,go_sem,zA,↓reduceIte];refine yw (R',W',o') ⟨by show o'<=W'.length;omega,hin'.finish hls?,by show W'.length-o'+yck R'<=30;omega,by show W'.length<=31;omega⟩ (by show W'.length-o'+yck R'<m-o+yck R;omega) ?_
       refine yj [] [] [] ?_;simp only[ybe,ybd,hn,hm',allQ,live,yg,go_sem,zA,↓reduceIte,reduceCtorEq]
    ·obtain rfl:o=m:=by omega
     have ht2:decide (((o-o:Nat):Int)>0)=false:=decide_eq_false (by omega)
     rw[zAN (by omega)]at hinv
     have hdist:=hinv.isDist.unique (ydq hg (by omega))
     subst hdist;have hlen:=hinv.len;simp only[ybsj,ybnl,ht2,hm,ybe,ybd,hn,go_sem,zA,zC,↓reduceIte,reduceCtorEq];have e:(ybt g a).length=k:=by omega
     unfold yx;rw[e];exact Sim.refl _
theorem ybsb{g:Gr}(hg:ybc g){a:Nat}(ha:a<g.ports.length):Returns zJ 161 [grV g,.i .i64 a] (yx (ybt g a)):=by
 refine Returns.of (ydar _ _ ?_);have hV:=ynp (ybmm hg);rw[(ydw g).2 hg]at hV;have hS:=ybmo hg ha;have t1:decide ((a:Int)<0)=false:=decide_eq_false (by omega)
 have t2:decide ((a:Int)>=(g.ports.length:Int))=false:=decide_eq_false (by omega)
 simp only[grV,ybe]at hV hS;simp only[c161,ycig,ycom,ycrk,ycjs,grV,ybe,clash,go_sem,zA,zC,zG,↓reduceIte];refine hV.use ?_;simp only[ybi,t1,t2,clash,go_sem,zA,zC,↓reduceIte,reduceCtorEq];refine hS.use ?_;simp only[go_sem];exact Sim.refl _
theorem yczx(l:List Int)(h0:0<l.length)(hl:l.length<=100000):Returns zJ 166 [yx l] (.i .i64 (minI l)):=by
 refine Returns.of (ycxq _ _ ?_);have t0:decide ((l.length:Int)<1)=false:=decide_eq_false (by omega)
 simp only[c166,ycnf,ychd,ycvg,yctw,yx,t0,go_sem,zBB,zA,zC,↓reduceIte,reduceCtorEq];refine⟨⟨by omega,by omega⟩,?_⟩
 refine ybj (σ:=Nat) (fun k=>⟨[(4,.i .i64 k),(3,.i .i64 (yzr l k)),(0,yx l)],[]⟩) (fun k=>1<=k/\k<=l.length) (fun k=>l.length-k) 1 ⟨by omega,by omega⟩ ?_ ?_
 ·refine yj [] [] [] ?_;simp only[yx,ybar,allQ,live,yg,ybb,go_sem,zA,↓reduceIte,reduceCtorEq];cases l<;>simp at h0 ⊢
 ·intro k ⟨hk1,hk⟩;simp only[ycpw,ycqh,ycqe,ycmf,yx,ybb,go_sem,zA,zC,↓reduceIte,reduceCtorEq];refine⟨fun h=>⟨by omega,ik (by omega) (by omega),?_⟩,fun h=>?_⟩
  ·refine yw (k+1) ⟨by omega,by omega⟩ (by omega) ?_
   refine yj [] [] [] ?_;have hlt:k<l.length:=by omega
   simp only[yvs hk1 hlt,getD_at hlt,allQ,live,yg,ybb,go_sem,zA,↓reduceIte,reduceCtorEq];simp
  ·obtain rfl:k=l.length:=by omega
   rfl
theorem ybao{g:Gr}(hg:ybc g):Returns zJ 126 [grV g] (.i .i64 (ybp g.ids)):=by
 refine Returns.of (ycyp _ _ ?_);have h1:=hg.1;have h2:=hg.2.1;have h3:=hg.2.2.1;have hM:=yczx g.ids (by omega) (by omega)
 have hX:=ybcw g.ids (minI g.ids) (by omega)
 rw[yble (by omega)]at hX
 simp only[c126,ycjt,yckk,grV,clash,go_sem,zA,zC,zI,zG,↓reduceIte,reduceCtorEq];refine hM.use ?_;simp only[ybi,clash,go_sem,zA,zC,↓reduceIte,reduceCtorEq];refine hX.use ?_;simp only[go_sem];exact Sim.refl _
theorem ybuk{g:Gr}(hg:ybc g):ybp g.ids<g.ports.length:=by
 have h1:=hg.1;have h3:=hg.2.2.1;have:ybp g.ids<g.ids.length:=(yeu g.ids g.ids.length (by omega) (zT _)).1
 omega
theorem ybse{g:Gr}(hI:GrI g):Returns zJ 137 [grV g] (.b (ydf g)):=by
 refine ybjg ⟨_,_,zAQ,rfl⟩ (fun _=>.b) (fun _=>.simple rfl) fun G m us hG hr φ M w us' hRl hs hv=>?_;obtain⟨u,rfl,h1⟩:=rvl1 hr;obtain⟨u',rfl,h2⟩:=yhs hv;exact ywq u' g w (ycyx hG h1 h2 hRl hs hI)
theorem ycel{g:Gr}(hI:GrI g):Returns zJ 159 [grV g] (.b (ydf g)):=by
 refine Returns.of (yday _ _ ?_);have hC:=ybse hI;simp only[grV]at hC;simp only[c159,ycqf,ycvl,grV,go_sem,zA,zC,zG,↓reduceIte];refine hC.use ?_;simp only[ybi,yjn,go_sem,zA,zC,↓reduceIte,reduceCtorEq]
end Sh
end
section
def ytc(g:Gr)(v:Nat):List Int:=[g.ids.getD (ybp g.ids) 0,(ybt g (ybp g.ids)).getD v 0,wayP g (ybt g (ybp g.ids)) v]
def ygm(g:Gr)(c:Conf):Bool:=ydf g&&ynt g.ports.length (ydz g [maxI g.ids,(g.ids.length:Int)-1,-1]) c
def ybv(g:Gr)(c:Conf):Bool:=ygm g c&&(zBJ c.length).all fun v=>decide (c.getD v []=ytc g v)
namespace Sh
open Ev Go.RowKit
theorem ycck{g:Gr}(hg:ybc g){c:Conf}(hR:ybnn c){G:List Int}(hG:∀x∈G,I64 x):Returns zJ 102 [grV g,ybl c,yx G] (.b (ynt g.ports.length (ydz g G) c)):=by
 refine ybjg ⟨_,_,zAR,rfl⟩ (fun _=>.b) (fun _=>.simple rfl) fun H m us hH hr φ M w us' hRl hs hv=>?_
 obtain⟨u,us2,rfl,h1,h2⟩:∃u us2,us=u::us2/\RV H om0 (grV g) u/\RVL H om0 [ybl c,yx G] us2:=by
  cases hr with|cons x y=>exact⟨_,_,rfl,x,y⟩
 obtain⟨u2,u3,rfl,h3,h4⟩:=rvl2 h2
 obtain⟨u',us3,rfl,h5,h6⟩:∃u' us3,us'=u'::us3/\VR φ u u'/\VRL φ [u2,u3] us3:=by
  cases hv with|cons x y=>exact⟨_,_,rfl,x,y⟩
 obtain⟨u2',u3',rfl,h7,h8⟩:=yyd h6;exact yoj u' u2' u3' g c G w (ycyx hH h1 h5 hRl hs (ybmm hg)) (yczy hH h3 h7 hRl hs hR) (ints_at hH h4 h8 hRl hs hG) hg
theorem ybkc{g:Gr}{D:List Int}(hD:D.length=g.ports.length)(hDb:∀x∈D,-1<=x/\x<=24){v:Nat}(hv:v<g.ports.length)(hn:g.ports.length<=24){l:Int×Int}(hl:0<=l.1/\l.1<g.ports.length) :
 Returns zJ 163 [.ag [.i .i64 l.1,.i .i64 l.2],.rf [yx D],.rf [.i .i64 v]] (.b (ynr D v l)):=by
 refine Returns.of (yddt _ _ ?_);have h1:-1<=D.getD v 0/\D.getD v 0<=24:=by rw[getD_at (show v<D.length by omega)];exact hDb _ (zS _)
 simp only[c163,ycgv,ycoo,yx,clash,go_sem,zA,zC,zI,zG,↓reduceIte,reduceCtorEq];refine⟨⟨by omega,by omega⟩,⟨by omega,by omega⟩,ikw (by omega) (by omega),?_⟩
 exact Sim.refl _
theorem ybka{g:Gr}(hI:GrI g){c:Conf}(hR:ybnn c)(hcl:c.length<=1000):Returns zJ 125 [grV g,ybl c] (.b (ybv g c)):=by
 refine Returns.of (ydat _ _ ?_);have hF:=ycel hI;cases hcn:ydf g with
 | false =>
   have e:ybv g c=false:=by unfold ybv ygm;rw[hcn];rfl
   rw[hcn]at hF;rw[e];simp only[grV]at hF;simp only[c125,ybyp,ybqo,grV,clash,go_sem,zA,zC,zG,↓reduceIte];refine hF.use ?_;simp only[ybi,ybxo,clash,go_sem,zA,zC,↓reduceIte,reduceCtorEq];exact Sim.refl _
 | true =>
   have hg:=(ydw g).1 (ylo hcn);have h1:=hg.1;have h24:=hg.2.1;have hid:=hg.2.2.1;have hM:=ybzs g.ids (by omega) (by omega)
   have hMi:0<=maxI g.ids/\maxI g.ids<=255:=by
    rw[yyg (by omega) fun x hx=>(hg.2.2.2.1 x hx).1]
    exact ydh hg
   have hC:=ycck hg hR (G:=[maxI g.ids,(g.ids.length:Int)-1,-1]) (fun x hx=>by
    simp at hx;rcases hx with rfl|rfl|rfl<;>exact yhu (by omega))
   rw[hcn]at hF;simp only[grV,yx]at hF hM;simp only[c125,ybyp,ybqo,grV,yx,clash,go_sem,zA,zC,zG,↓reduceIte];refine hF.use ?_;simp only[ybi,clash,go_sem,zA,zC,zI,zG,↓reduceIte,reduceCtorEq];refine hM.use ?_;simp only[ybi,clash,go_sem,zA,zC,zI,↓reduceIte];have three:∀{q:Nat},q<3->q=0\/q=1\/q=2:=fun {q} h=>by omega
   refine⟨ikw (by omega) (by omega),by decide,.inl ⟨?_,hC.useS ?_ ?_⟩⟩
   ·intro q hq;rcases three hq with rfl|rfl|rfl<;>simp only[go_sem]
   ·refine⟨Sim.refl (grV g),Sim.refl _,?_,trivial⟩;refine ygn fun q hq=>?_;rcases three hq with rfl|rfl|rfl<;>(simp only[zX,zAC,go_sem];exact⟨Sim.refl _,trivial⟩)
   cases hcf:ynt g.ports.length (ydz g [maxI g.ids,(g.ids.length:Int)-1,-1]) c with
   | false =>
     have e:ybv g c=false:=by unfold ybv ygm;rw[hcf,Bool.and_false];rfl
     rw[e];simp only[ybxo,go_sem,↓reduceIte];exact⟨by decide,Sim.refl _⟩
   | true =>
     have hU:=ybao hg;have hul:=ybuk hg;have hD:=ybsb hg hul;have hDl:=yfx hg hul;have hDb:=(ydq hg hul).bound hg hul;obtain⟨D,hDe⟩:∃D,ybt g (ybp g.ids)=D:=⟨_,rfl⟩;rw[hDe]at hD hDl hDb;obtain⟨u,hu⟩:∃u,ybp g.ids=u:=⟨_,rfl⟩;rw[hu]at hU hul hD;simp only[grV,yx]at hU hD;obtain⟨m,hm⟩:∃m,c.length=m:=⟨_,rfl⟩;simp only[ybi,ycxh,ycrv,ycte,clash,go_sem,zA,zC,zG,↓reduceIte,reduceCtorEq];refine⟨by decide,hU.use ?_⟩
     simp only[go_sem,↓reduceIte];refine hD.use ?_;simp only[ybl,hm,go_sem,zA,↓reduceIte,reduceCtorEq]
     refine ybj (σ:=Nat) (fun k=>⟨[(34,.i .i64 k),(33,.i .i64 m),(32,ybl c),(5,.i .i64 u),(6,.pt (6,0) 0 0),(2,.pt (2,0) 0 0)],
      [(2,.one (some ⟨27,true,2,1,fun _=>[yx g.ids,ybe g.ports]⟩)),(6,.one (some ⟨22,true,1,1,fun _=>[yx D]⟩))]⟩)
      (fun k=>k<=m/\∀j,j<k->c.getD j []=ytc g j) (fun k=>m-k) 0 ⟨zZ _,fun j hj=>absurd hj (zBC j)⟩ ?_ ?_
     ·refine yj [] [] [] ?_;simp only[ybl,yx,hm,allQ,live,yg,zAJ,go_sem,zA,↓reduceIte,reduceCtorEq]
     ·rintro k ⟨hk,hall⟩;have hcn2:m=g.ports.length:=by rw[<-hm];exact((yff _ _ _).1 hcf).1
      by_cases hlt:k<m
      ·have ht:decide ((k:Int)<(m:Int))=true:=decide_eq_true (by omega)
       obtain⟨s,hs⟩:∃s,c.getD k []=s:=⟨_,rfl⟩
       have hFP:=yxc g k (by omega) 163 [.rf [yx D],.rf [.i .i64 k]] (ynr D k) (by rfl) (by have:=hg.deg_lt (v:=k);omega) (fun l hl=>by
        have hk2:g.ports[k]?=some (g.ports.getD k []):=by simp[zQ,show k<g.ports.length by omega]
        obtain⟨k1,k2,_⟩:=hg.link hk2 hl;exact ybkc hDl hDb (by omega) h24 ⟨k1,k2⟩)
       have hEq:=ybtg s (ytc g k) (by
        have:=((yff _ _ _).1 hcf).2 k s (by rw[<-hs,getD_at (show k<c.length by omega)];exact zD _)
        have:=this.1;simp[ydz]at this;omega)
       simp only[grV,yx]at hFP;simp only[ybrs,ycni,ycvx,ycrp,ybl,yx,hm,hs,ht,clash,go_sem,zA,zC,zI,zG,↓reduceIte,reduceCtorEq];refine⟨⟨by omega,by omega⟩,.inl (hFP.use ?_)⟩
       simp only[ybi,clash,go_sem,zA,zC,zI,zG,↓reduceIte,reduceCtorEq]
       have hle:ytc g k=[g.ids.getD u 0,D.getD k 0,yhf (ynr D k) (g.ports.getD k [])]:=by
        unfold ytc;rw[hDe,hu];rfl
       refine⟨⟨by omega,by omega⟩,⟨by omega,by omega⟩,.inl ⟨fun q hq=>by rcases three hq with rfl|rfl|rfl<;>simp only[go_sem],hEq.useS ?_ ?_⟩⟩
       ·refine⟨Sim.refl (yx s),?_,trivial⟩;rw[hle];refine ygn fun q hq=>?_;rcases three hq with rfl|rfl|rfl<;>(simp only[zX,zAC,go_sem];exact⟨Sim.refl _,trivial⟩)
       by_cases hse:s=ytc g k
       ·simp only[ybsn,hse,clash,go_sem,zA,zC,↓reduceIte,reduceCtorEq];refine⟨by decide,ikw (by omega) (by omega),yw (k+1) ⟨by omega,fun j hj=>?_⟩ (by omega) ?_⟩
        ·by_cases q:j=k
         ·rw[q,hs,hse]
         ·exact hall j (by omega)
        ·refine yj [] [] [] ?_;simp only[allQ,live,yg,ybb,go_sem,zA,↓reduceIte,reduceCtorEq];omega
       ·have e:ybv g c=false:=by
         unfold ybv;rw[zAO];right
         rw[zAV];exact⟨k,List.mem_range.2 (by omega),by rw[hs];simp[hse]⟩
        rw[e];simp only[ybyx,hse,go_sem,↓reduceIte];exact⟨by decide,Sim.refl _⟩
      ·obtain rfl:k=m:=by omega
       have ht:decide ((k:Int)<(k:Int))=false:=decide_eq_false (by omega)
       have e:ybv g c=true:=by
        unfold ybv ygm;rw[hcn,hcf,zAA,zAA,zAW];intro v hv;exact decide_eq_true (hall v (by have:=List.mem_range.1 hv;omega))
       rw[e];simp only[ybrs,ybow,ht,go_sem,zA,↓reduceIte];exact Sim.refl _
theorem ysd{g:Gr}(hI:GrI g){c:Conf}(hR:ybnn c)(hcl:c.length<=1000):Returns zJ 73 [grV g,ybl c] (.i .i64 (if ybv g c=true then(ybp g.ids:Int)else -1)):=by
 refine Returns.of (ydjg _ _ ?_);have hL:=ybka hI hR hcl;cases hlg:ybv g c with
 | false =>
   rw[hlg]at hL;simp only[grV]at hL;simp only[c73,yczt,ydbq,ydca,ycys,grV,clash,go_sem,zA,zC,zG,↓reduceIte,reduceCtorEq];refine hL.use ?_;simp only[ybi,clash,go_sem,zC,↓reduceIte];exact Sim.refl _
 | true =>
   have hcn:ydf g=true:=by
    unfold ybv ygm at hlg;simp only[zB]at hlg;exact hlg.1.1
   have hU:=ybao ((ydw g).1 (ylo hcn));rw[hlg]at hL;simp only[grV]at hL hU;simp only[c73,yczt,ydbq,ydca,ycys,grV,clash,go_sem,zA,zC,zG,↓reduceIte,reduceCtorEq];refine hL.use ?_;simp only[ybi,clash,go_sem,zA,zC,↓reduceIte,reduceCtorEq];refine hU.use ?_;simp only[go_sem];exact Sim.refl _
end Sh
end
section
def yye:List VarR:=[⟨⟨#[108,101,97,100]⟩,1,0,0,0,1⟩,⟨⟨#[100]⟩,1,0,-1,1,0⟩,⟨⟨#[112]⟩,3,0,0,0,0⟩]
namespace Sh
open Ev Go.RowKit
theorem yuf(nm:ByteArray)(hi pn pi:Int):Returns zJ 79 [.a (.string nm),.i .i64 hi,.i .i64 pn,.i .i64 pi] (.ag (varC ⟨nm,1,0,hi,pn,pi⟩)):=by
 refine Returns.of (ydmi _ _ ?_);simp only[c79,ydns,ydib,varC,go_sem,zA,zC,zI,zG,↓reduceIte,reduceCtorEq];exact Sim.refl _
theorem ybfg(nm:ByteArray):Returns zJ 116 [.a (.string nm)] (.ag (varC ⟨nm,3,0,0,0,0⟩)):=by
 refine Returns.of (yddz _ _ ?_);simp only[c116,ycgh,ycjg,varC,go_sem,zA,zC,zI,zG,↓reduceIte,reduceCtorEq];exact Sim.refl _
theorem ybvx:Returns zJ 72 [] (ydd yye):=by
 refine Returns.of (ydmp _ _ ?_);have h1:=yuf ⟨#[108,101,97,100]⟩ 0 0 1;have h2:=yuf ⟨#[100]⟩ (-1) 1 0;have h3:=ybfg ⟨#[112]⟩;simp only[varC]at h1 h2 h3;simp only[c72,ydlk,ydgg,go_sem,↓reduceIte];refine h1.use ?_;simp only[ybi,clash,go_sem,zA,zC,zI,zG,↓reduceIte,reduceCtorEq];refine h2.use ?_;simp only[go_sem,zC,↓reduceIte];refine h3.use ?_;simp only[go_sem,zC,↓reduceIte];have three:∀{q:Nat},q<3->q=0\/q=1\/q=2:=fun {q} h=>by omega
 refine⟨fun q hq=>by rcases three hq with rfl|rfl|rfl<;>simp only[go_sem],?_⟩
 refine ygn fun q hq=>?_;rcases three hq with rfl|rfl|rfl<;>(simp only[yye,varC,zX,zAC,go_sem];exact⟨Sim.refl _,Sim.refl _,Sim.refl _,Sim.refl _,Sim.refl _,Sim.refl _,trivial⟩)
end Sh
end
section
namespace Ev
open Go Go.RowKit
def hkL:Hooks:=⟨none,none,some 153,symB,[],none⟩
theorem ydmb:HooksOk zJ hkL:=⟨fun g h=>(by cases h),fun g h=>(by cases h),fun g h=>(by cases h;exact ybpv),fun c hc=>(by cases hc),fun g h=>(by cases h)⟩
set_option maxRecDepth 1000000 in
theorem ybgd:outV (ev zJ hkL 3000 (.call 74 [] mem0))=some (.bool true):=by kernel_rfl
theorem ydcm(w:World)(hG:GlW w):Calls zJ 74 #[] w fun e w'=>e = .returned (.bool true)/\Below w.heap.size w w' :=
 yvw mix ytg ydmb ybgd rfl rfl ⟨_,_,zBI,rfl⟩ w hG
end Ev
end
section
namespace Sh
open Ev Go.RowKit
theorem ybdk:Returns zJ 74 [] (.b true):=by
 refine ybjg ⟨_,_,zBI,rfl⟩ (fun _=>.b) (fun _=>.simple rfl) fun G m us hG hr φ M w us' hRl hs hv=>?_;cases hr
 cases hv
 exact ydcm w fun x hx=>(hRl.gl x hx).1
end Sh
end
section
namespace Ev
theorem ypr:∀l:List UInt8,eqBytes l l=true
 |[]=>rfl
 | x::l=>by
   show(zK x.toNat x.toNat&&eqBytes l l)=true;rw[zH,ypr l];rfl
theorem yuh{ρ:Nat->Nat}{a:Addr}(h:a.spot.isNone=true):eqAddr (renA ρ a) (renA ρ a)=true:=by
 rw[yjp];unfold eqAddr;simp only[zH,h,Bool.and_self]
theorem ybze{ρ:Nat->Nat}{v:Value}(hf:yqa v=true)(h:eq1 v v=true):eq1 (ren1 ρ v) (ren1 ρ v)=true:=by
 unfold yqa at hf;split at hf
 ·exact yuh hf
 ·rename_i a n c
  show(eqAddr (renA ρ a) (renA ρ a)&&zK n n&&zK c c)=true;rw[yuh hf,zH,zH];rfl
 ·rename_i h1 h2
  have:ren1 ρ v=v:=by
   unfold ren1;split
   ·rename_i a;exact absurd rfl (h1 a)
   ·rename_i a n c;exact absurd rfl (h2 a n c)
   ·rfl
  rw[this];exact h
theorem yqi{ρ:Nat->Nat}:∀{l:List Value},l.all yqa=true->eqL1 l l=true->eqL1 (l.map (ren1 ρ)) (l.map (ren1 ρ))=true
 |[],_,_=>rfl
 | x::l,hf,h=>by
   simp only[List.all_cons,zB]at hf;have h:(eq1 x x&&eqL1 l l)=true:=h;rw[zB]at h;show(eq1 (ren1 ρ x) (ren1 ρ x)&&eqL1 (l.map (ren1 ρ)) (l.map (ren1 ρ)))=true;rw[ybze hf.1 h.1,yqi hf.2 h.2];rfl
theorem ybtb{v:Value}(h1:∀a,v = .agg a->False)(h2:∀g a c,v = .func (.func g) a c->False):eq2 v v=eq1 v v:=by
 cases v with
 |agg a=>exact(h1 a rfl).elim
 | func f a c=>cases f with
   |func g=>exact(h2 g a c rfl).elim
   |_=>rfl
 |_=>rfl
theorem ybqw{ρ:Nat->Nat}{v:Value}(h1:∀a,v = .agg a->False)(h2:∀g a c,v = .func (.func g) a c->False)(hf:yqa v=true):ren2 ρ v=ren1 ρ v:=by
 cases v with
 |agg a=>exact(h1 a rfl).elim
 | func f a c=>cases f with
   |func g=>exact(h2 g a c rfl).elim
   |_=>cases hf
 |_=>rfl
theorem ytw{ρ:Nat->Nat}{v:Value}(hf:yqa v=true):(∀a,ren1 ρ v = .agg a->False)/\∀g a c,ren1 ρ v = .func (.func g) a c->False:=by
 cases v with
 |agg a=>cases hf
 |func f a c=>cases hf
 |pointer p=>cases p<;>exact⟨fun _ h=>(by cases h),fun _ _ _ h=>(by cases h)⟩
 |slice p n c=>cases p<;>exact⟨fun _ h=>(by cases h),fun _ _ _ h=>(by cases h)⟩
 |_=>exact⟨fun _ h=>(by cases h),fun _ _ _ h=>(by cases h)⟩
theorem ybwe{ρ:Nat->Nat}{v:Value}(hf:yko v=true)(h:eq2 v v=true):eq2 (ren2 ρ v) (ren2 ρ v)=true:=by
 unfold yko at hf;split at hf
 ·rename_i a
  have h:eqL1 a.toList a.toList=true:=h;show eqL1 (a.toList.map (ren1 ρ)).toArray.toList (a.toList.map (ren1 ρ)).toArray.toList=true;exact yqi hf h
 ·rename_i g a c
  rw[zB]at hf;have h:(zK g g&&eqL1 a.toList a.toList&&eqL1 c.toList c.toList)=true:=h;simp only[zB]at h;show(zK g g&&eqL1 (a.toList.map (ren1 ρ)).toArray.toList (a.toList.map (ren1 ρ)).toArray.toList&&eqL1 (c.toList.map (ren1 ρ)).toArray.toList (c.toList.map (ren1 ρ)).toArray.toList)=true;rw[zH,yqi hf.1 h.1.2,yqi hf.2 h.2];rfl
 ·rename_i h1 h2
  rw[ybtb h1 h2]at h;rw[ybqw h1 h2 hf,ybtb (ytw hf).1 (ytw hf).2];exact ybze hf h
def reflB(b:BlkL):Bool:=b.l.all (fun v=>eq2 v v&&yko v)&&zW b.l.length 1000000
theorem ysi{ρ:Nat->Nat}{b:BlkL}(h:reflB b=true):∀v∈(b.ren ρ).l,eq2 v v=true:=by
 unfold reflB at h;rw[zB]at h;intro v hv;obtain⟨x,hx,rfl⟩:=List.mem_map.1 hv;have:=List.all_eq_true.1 h.1 x hx;rw[zB]at this;exact ybwe this.2 this.1
theorem ymx{l:List Value}(h:∀v∈l,eq2 v v=true):∀(k:List Value) (n:Nat),l.drop n=k->cellsAre (tOf l) n k=true
 |[],_,_=>rfl
 | v :: k,n,e=>by
   have hn:n<l.length:=by
    rcases zAS n l.length with q|q
    ·exact q
    ·rw[zAN q]at e;cases e
   rw[zAH hn]at e
   injection e with e1 e2
   unfold cellsAre;rw[ycp,zD hn,e1];simp only;rw[h v (by rw[<-e1];exact zS _),ymx h k (n+1) e2]
   rfl
theorem ynk{m:Mem}{b:BlkL}(hg:m.b.get b.i=some b.blk)(h:∀v∈b.l,eq2 v v=true)(hl:zW b.l.length 1000000=true):blkIs m b=true:=by
 unfold blkIs;rw[hg];show(zK b.l.length b.l.length&&zK b.e b.e&&zK b.z b.z&&zW b.l.length 1000000&&cellsAre (tOf b.l) 0 b.l)=true;rw[zH,zH,zH,hl,ymx h b.l 0 (List.drop_zero ..)];rfl
theorem yrs:∀{l:List BlkL}{t:T ABlk}{i:Nat},(∀b∈l,b.i≠i)->(blksT t l).get i=t.get i
 |[],_,_,_=>rfl
 | b::l,t,i,h=>by
   unfold blksT;rw[T.strict_eq,yrs fun c hc=>h c (zV _ hc),T.set_at,if_neg (fun e=>h b zY e.symm)]
theorem yqm:∀{l:List BlkL}{t:T ABlk},ygl (l.map (·.i))=true->∀b∈l,(blksT t l).get b.i=some b.blk
 |[],_,_,b,hb=>by cases hb
 | c :: l,t,h,b,hb=>by
   have h:(!(l.map (·.i)).elem c.i&&ygl (l.map (·.i)))=true:=h;rw[zB,zAF]at h;unfold blksT;rw[T.strict_eq];rcases List.mem_cons.1 hb with e|hb
   ·subst e;rw[yrs fun d hd e=>?_,T.set_at,if_pos rfl];have:(l.map (·.i)).elem b.i=true:=List.elem_eq_true_of_mem (List.mem_map.2 ⟨d,hd,e⟩);rw[this]at h;cases h.1
   ·exact yqm h.2 b hb
theorem ylu:∀{l:List Nat},l.Nodup->ygl l=true
 |[],_=>rfl
 | x :: l,h=>by
   rw[zAM]at h;show(!(l.elem x)&&ygl l)=true
   have:l.elem x=false:=by
    cases hq:l.elem x with
    |false=>rfl
    |true=>exact absurd (by simpa using hq) h.1
   rw[this,ylu h.2];rfl
theorem yxx:∀{l:List Nat},ygl l=true->l.Nodup
 |[],_=>zBD
 | x::l,h=>by
   have h:(!(l.elem x)&&ygl l)=true:=h;rw[zB,zAF]at h;rw[zAM];refine⟨fun hm=>?_,yxx h.2⟩;have:l.elem x=true:=by simpa using hm
   rw[this]at h;cases h.1
theorem ybhz{d:Nat}:∀{l:List BlkL}{k:List Nat},(l.map (·.i)).Nodup->l.length=k.length->l.map (fun b=>yyf l k d b.i)=k
 |[],[],_,_=>rfl
 | b :: l,t::k,hn,hl=>by
   rw[zBG,zAM]at hn;have ih:=ybhz (d:=d) hn.2 (by simpa using hl)
   rw[zBG];have e1:yyf (b::l) (t::k) d b.i=t:=by unfold yyf;rw[zH];rfl
   rw[e1];congr 1;refine zBH (zN fun c hc=>?_) ih;show(bif zK b.i c.i then t else yyf l k d c.i)=_
   have:zK b.i c.i=false:=by
    cases hq:zK b.i c.i with
    |false=>rfl
    |true=>exact absurd (List.mem_map.2 ⟨c,hc,(zO hq).symm⟩) hn.1
   rw[this];rfl
 |[],_::_,_,h=>by cases h
 |_::_,[],_,h=>by cases h
def Fact.still(f:Fact):Bool:=zAD f.next0 f.low&&f.args.all yko&&ybph f.v&&f.pre.all (fun b=>zW b.i f.next0&&reflB b)&&ygl (f.pre.map (·.i))&&f.post.all (fun b=>zAD f.next0 b.i&&zW b.i f.next1&&reflB b)&&ygl (f.post.map (·.i))&&zAD f.next0 f.next1
theorem ycid{a b:Nat}(h:zW a b=true):a<b:=zAP (zAY _) (zL h)
theorem ybhq{a b:Nat}(h:a<b):zW a b=true:=zU h
theorem ykz{f:Fact}(h:f.still=true):f.next0<=f.low/\(f.args.all yko=true/\ybph f.v=true)/\(∀b∈f.pre,b.i<f.next0/\reflB b=true)/\(f.pre.map (·.i)).Nodup/\(∀b∈f.post,f.next0<=b.i/\b.i<f.next1/\reflB b=true)/\(f.post.map (·.i)).Nodup/\f.next0<=f.next1:=by
 unfold Fact.still at h;simp only[zB]at h;obtain⟨⟨⟨⟨⟨⟨⟨h1,h2⟩,h3⟩,h4⟩,h5⟩,h6⟩,h7⟩,h8⟩:=h;refine⟨zL h1,⟨h2,h3⟩,fun b hb=>?_,yxx h5,fun b hb=>?_,yxx h7,zL h8⟩
 ·have:=List.all_eq_true.1 h4 b hb;rw[zB]at this;exact⟨ycid this.1,this.2⟩
 ·have:=List.all_eq_true.1 h6 b hb;simp only[zB]at this;exact⟨zL this.1.1,ycid this.1.2,this.2⟩
theorem ybnq{f:Fact}{tgt:List Nat}{n0:Nat}(hp:∀b∈f.pre,b.i<f.next0/\reflB b=true)(hn:(f.pre.map (·.i)).Nodup)(hl:f.pre.length=tgt.length):f.pre.map (fun b=>f.rho tgt n0 b.i)=tgt:=by
 refine zBH (zN fun b hb=>?_) (ybhz (d:=Nat.add n0 (Nat.sub f.next1 f.next0)) hn hl);unfold Fact.rho;have h1:=(hp b hb).1
 have:(zAD f.next0 b.i&&zW b.i f.next1)=false:=by
  rw[zAO];left
  cases hq:zAD f.next0 b.i with
  |false=>rfl
  |true=>have:=zL hq;omega
 rw[this];rfl
theorem ybhu{f:Fact}{tgt:List Nat}{n0 i:Nat}(h1:f.next0<=i)(h2:i<f.next1):f.rho tgt n0 i=i-f.next0+n0:=by
 unfold Fact.rho;rw[Bool.cond_eq_ite,if_pos (by rw[zU h1,ybhq h2];rfl)]
 rfl
theorem yuz{P:Program}{f:Fact}{tgt:List Nat}{n0:Nat}(hok:yew P f)(hs:f.still=true)(hl:f.pre.length=tgt.length)(hn:tgt.Nodup)(hlt:∀t∈tgt,t<n0):yew P (f.move tgt n0):=by
 refine yij hok ?_;obtain⟨s1,⟨s2,s3⟩,s4,s5,s6,s7,s8⟩:=ykz hs
 have hpi:(f.move tgt n0).pre.map (·.i)=tgt:=by
  show(f.pre.map (BlkL.ren (f.rho tgt n0))).map (·.i)=tgt;rw[zAB];exact zBH (zN fun b hb=>b.ygz) (ybnq (n0:=n0) s4 s5 hl)
 have hqi:ygl ((f.move tgt n0).post.map (·.i))=true:=by
  refine ylu ?_;show((f.post.map (BlkL.ren (f.rho tgt n0))).map (·.i)).Nodup
  have e:(f.post.map (BlkL.ren (f.rho tgt n0))).map (·.i)=(f.post.map (·.i)).map (fun i=>i-f.next0+n0):=by
   rw[zAB,zAB];refine zN fun b hb=>?_;show(b.ren (f.rho tgt n0)).i=b.i-f.next0+n0;rw[b.ygz,ybhu (s6 b hb).1 (s6 b hb).2.1]
  rw[e];unfold List.Nodup at s7 ⊢;rw[zAG];refine List.Pairwise.imp_of_mem (fun {x y} hx hy h=>?_) s7;obtain⟨bx,hbx,rfl⟩:=List.mem_map.1 hx;obtain⟨by_,hby,rfl⟩:=List.mem_map.1 hy;have:=(s6 bx hbx).1;have:=(s6 by_ hby).1;omega
 have hpre:ygl ((f.move tgt n0).pre.map (·.i))=true:=by rw[hpi];exact ylu hn
 unfold Fact.moves;simp only[zB];refine⟨⟨⟨⟨⟨⟨⟨⟨zU s1,s2⟩,s3⟩,?_⟩,?_⟩,hpre⟩,?_⟩,?_⟩,zU s8⟩
 ·refine List.all_eq_true.2 fun b hb=>?_;have:=(s4 b hb).2;unfold reflB at this;rw[zB]at this;rw[ybhq (s4 b hb).1,zAA];exact List.all_eq_true.2 fun v hv=>by have:=List.all_eq_true.1 this.1 v hv;rw[zB]at this;exact this.2
 ·refine List.all_eq_true.2 fun b hb=>?_;have:=(s6 b hb).2.2;unfold reflB at this;rw[zB]at this;rw[ybhq (s6 b hb).2.1,zAA];exact List.all_eq_true.2 fun v hv=>by have:=List.all_eq_true.1 this.1 v hv;rw[zB]at this;exact this.2
 ·refine List.all_eq_true.2 fun b' hb'=>?_;obtain⟨b,hb,rfl⟩:=List.mem_map.1 hb';have h2:=(s4 b hb).2;have h3:(b.ren (f.rho tgt n0)).i∈(f.move tgt n0).pre.map (·.i):=List.mem_map.2 ⟨_,hb',rfl⟩;rw[hpi]at h3;rw[ybhq (hlt _ h3),zAA];refine ynk (yqm hpre _ hb') (ysi h2) ?_;show zW (b.l.map _).length 1000000=true;rw[zM];unfold reflB at h2;rw[zB]at h2;exact h2.2
 ·refine List.all_eq_true.2 fun b' hb'=>?_;obtain⟨b,hb,rfl⟩:=List.mem_map.1 hb';have h2:=(s6 b hb).2.2;refine ynk (yqm hqi _ hb') (ysi h2) ?_;show zW (b.l.map _).length 1000000=true;rw[zM];unfold reflB at h2;rw[zB]at h2;exact h2.2
end Ev
end
section
namespace Sh
open Go Ev
def Lies(B:List BlkL)(v:Value)(F:AM)(u:Value):Prop :=
 ∃ρ:Nat->Nat,(∀b∈B,∀c∈B,ρ b.i=ρ c.i->b.i=c.i)/\(∀b∈B,F (ρ b.i)=some (b.ren ρ).blk)/\u=ren1 ρ v
theorem Lies.mono{B:List BlkL}{v:Value}(F G:AM)(u:Value)(h:Le F G)(k:Lies B v F u):Lies B v G u:=by
 obtain⟨ρ,h1,h2,h3⟩:=k;exact⟨ρ,h1,fun b hb=>h _ _ (h2 b hb),h3⟩
def ydpg(B:List BlkL)(j:Nat):Option BlkL:=B.find? fun b=>zK b.i j
def yceo(p:Nat->Bool):Nat->Bool
 |0=>true
 |n+1=>p n&&yceo p n
theorem ybjd{p:Nat->Bool}:∀{n:Nat},yceo p n=true->∀k,k<n->p k=true
 |0,_,k,h=>absurd h (zBC k)
 | n+1,h,k,hk=>by
   have h:(p n&&yceo p n)=true:=h;rw[zB]at h
   by_cases q:k=n
   ·rw[q];exact h.1
   ·exact ybjd h.2 k (by omega)
def ybej(B:List BlkL)(z n:Nat)(row:Nat->List Value->Bool):Value->Bool
 | .slice (some a) m _=>a.spot.isNone&&zK m n&&(match ydpg B a.block with
   |some b=>zK b.z z&&zAD (a.off+n*z) b.l.length&&yceo (fun k=>row k ((b.l.drop (a.off+k*z)).take z)) n
   |none=>false)
 |.slice none 0 0=>zK n 0
 |_=>false
theorem yqu {B:List BlkL}{F:AM}{ρ:Nat->Nat}{z n:Nat}{row:Nat->List Value->Bool}{v:Value}{g:Nat->List SV}(hF:∀b∈B,F (ρ b.i)=some (b.ren ρ).blk) (h:ybej B z n row v=true)
 (hr:∀k L,k<n->row k L=true->L.length=z/\RVL F om0 (g k) (L.map (ren2 ρ))/\(g k).all one1=true):RV F om0 (.sl z n g) (ren1 ρ v):=by
 unfold ybej at h;split at h
 ·rename_i a m c
  simp only[zB]at h;obtain⟨⟨h1,h2⟩,h3⟩:=h;split at h3
  ·rename_i b hb
   simp only[zB]at h3;obtain⟨⟨h3,h4⟩,h5⟩:=h3;have hm:m=n:=zO h2;have hz:=zO h3;have h4:=zL h4;have hmem:=List.mem_of_find?_eq_some hb;have hi:b.i=a.block:=zO (List.find?_some (p:=fun b:BlkL=>zK b.i a.block) hb);have h6:=hF b hmem;rw[hi]at h6;show RV F om0 _ (.slice (some (renA ρ a)) m c);rw[yjp];subst hm;obtain⟨A,o,sp⟩:=a;have hsp:sp=none:=by simpa using h1
   subst hsp;have h6:F (ρ A)=some (.cells (tOf (b.l.map (ren2 ρ))) (b.l.map (ren2 ρ)).length b.e b.z):=h6;have hrow:∀k,k<m->_:=fun k hk=>hr k _ hk (ybjd h5 k hk);refine .sl (L:=fun k=>((b.l.drop (o+k*z)).take z).map (ren2 ρ)) h6 (.inl hz) (by rw[zM];exact h4) ?_ ?_ (fun k hk=>(hrow k hk).2.1) (fun k hk=>(hrow k hk).2.2)
   ·intro k hk;rw[zM];exact(hrow k hk).1
   ·intro k hk j hj;rw[ycp];simp only[List.getElem?_map,List.getElem?_take,zAU,hj,if_true]
  ·cases h3
 ·have h:zK n 0=true:=h;have h0:=zO h;subst h0;exact .sl0 (.inl rfl)
 ·cases h
def isI(v:Value)(n:Int):Bool:=match v with
 |.int .i64 m=>eqInt m n
 |_=>false
def isS(v:Value)(s:ByteArray):Bool:=match v with
 |.string t=>eqBytes t.data.toList s.data.toList
 |_=>false
theorem ypx{F:AM}{ρ:Nat->Nat}{v:Value}{n:Int}(h:isI v n=true):RV F om0 (.i .i64 n) (ren2 ρ v):=by
 unfold isI at h;split at h
 ·rw[yqn h];exact .i
 ·cases h
theorem ycsh{F:AM}{ρ:Nat->Nat}{v:Value}{s:ByteArray}(h:isS v s=true):RV F om0 (.a (.string s)) (ren2 ρ v):=by
 unfold isS at h;split at h
 ·rename_i t
  have e:=yov h
  have:t=s:=by
   cases t;cases s
   congr 1;exact Array.toList_inj.1 e
  rw[this];exact .a rfl
 ·cases h
def ydlp(ls:List (Int×Int))(k:Nat):List Value->Bool
 |[x,y]=>isI x (ls.getD k (0,0)).1&&isI y (ls.getD k (0,0)).2
 |_=>false
def ycgc(l:List VarR)(k:Nat):List Value->Bool
 |[s,a,b,c,d,e]=>isS s (l.getD k default).name&&isI a (l.getD k default).kind&&isI b (l.getD k default).lo&&isI c (l.getD k default).hi&&isI d (l.getD k default).perNode&&isI e (l.getD k default).perID
 |_=>false
def yyh(B:List BlkL)(ls:List (Int×Int))(v:Value):Bool:=ybej B 2 ls.length (ydlp ls) v
def isSl:Value->Bool
 |.slice _ _ _=>true
 |_=>false
def ybqk(B:List BlkL)(l:List SetR)(k:Nat):List Value->Bool
 |[a,v]=>isI a (l.getD k default).var&&isSl v&&yyh B (l.getD k default).val v
 |_=>false
def ybxh(B:List BlkL)(l:List RuleR)(k:Nat):List Value->Bool
 |[s,v,w]=>isS s (l.getD k default).name&&isSl v&&yyh B (l.getD k default).guard v&&isSl w&&ybej B 2 (l.getD k default).sets.length (ybqk B (l.getD k default).sets) w
 |_=>false
def ybsr(B:List BlkL)(v:Value)(l:List VarR):Bool:=ybej B 6 l.length (ycgc l) v
def ybgu(B:List BlkL)(v:Value)(l:List RuleR):Bool:=ybej B 3 l.length (ybxh B l) v
section
variable {B:List BlkL}{F:AM}{ρ:Nat->Nat}
theorem ybeb{v:Value}(h:isSl v=true):ren2 ρ v=ren1 ρ v:=by
 unfold isSl at h;split at h
 ·rfl
 ·cases h
theorem yrm(hF:∀b∈B,F (ρ b.i)=some (b.ren ρ).blk){ls:List (Int×Int)}{v:Value}(h:yyh B ls v=true):RV F om0 (ybd ls) (ren1 ρ v):=by
 refine yqu hF h fun k L hk hq=>?_;unfold ydlp at hq;split at hq
 ·simp only[zB]at hq;exact⟨rfl,.cons (ypx hq.1) (.cons (ypx hq.2) .nil),rfl⟩
 ·cases hq
theorem ybms(hF:∀b∈B,F (ρ b.i)=some (b.ren ρ).blk){l:List VarR}{v:Value}(h:ybsr B v l=true):RV F om0 (ydd l) (ren1 ρ v):=by
 refine yqu hF h fun k L hk hq=>?_;unfold ycgc at hq;split at hq
 ·simp only[zB]at hq;obtain⟨⟨⟨⟨⟨h1,h2⟩,h3⟩,h4⟩,h5⟩,h6⟩:=hq;exact⟨rfl,.cons (ycsh h1) (.cons (ypx h2) (.cons (ypx h3) (.cons (ypx h4) (.cons (ypx h5) (.cons (ypx h6) .nil))))),rfl⟩
 ·cases hq
theorem ybnc(hF:∀b∈B,F (ρ b.i)=some (b.ren ρ).blk){l:List SetR}{v:Value}(h:ybej B 2 l.length (ybqk B l) v=true):RV F om0 (yid l) (ren1 ρ v):=by
 refine yqu hF h fun k L hk hq=>?_;unfold ybqk at hq;split at hq
 ·simp only[zB]at hq;obtain⟨⟨h1,h2⟩,h3⟩:=hq;refine⟨rfl,.cons (ypx h1) (.cons ?_ .nil),rfl⟩;rw[ybeb h2];exact yrm hF h3
 ·cases hq
theorem ybeg(hF:∀b∈B,F (ρ b.i)=some (b.ren ρ).blk){l:List RuleR}{v:Value}(h:ybgu B v l=true):RV F om0 (ydb l) (ren1 ρ v):=by
 refine yqu hF h fun k L hk hq=>?_;unfold ybxh at hq;split at hq
 ·simp only[zB]at hq;obtain⟨⟨⟨⟨h1,h2⟩,h3⟩,h4⟩,h5⟩:=hq;refine⟨rfl,.cons (ycsh h1) (.cons ?_ (.cons ?_ .nil)),rfl⟩
  ·rw[ybeb h2];exact yrm hF h3
  ·rw[ybeb h4];exact ybnc hF h5
 ·cases hq
end
structure LaidP(fp:Fact)(t:ByteArray)(p:ProgR)(vv vr:Value)(Bv Br:List BlkL):Prop where
 args:fp.args=[.string t]
 pre:fp.pre=[]
 v:fp.v = .agg #[.string p.name,vv,vr]
 still:fp.still=true
 bv:∀b∈Bv,b∈fp.post
 br:∀b∈Br,b∈fp.post
 vars:ybsr Bv vv p.vars=true
 rules:ybgu Br vr p.rules=true
theorem ycbj{P:Program}{fp:Fact}{t:ByteArray}{p:ProgR}{vv vr:Value}{Bv Br:List BlkL}(hok:yew P fp)(h:LaidP fp t p vv vr Bv Br):Returns P fp.g [.a (.string t)] (.ag (ygo (Lies Bv vv) (Lies Br vr) p)):=by
 intro G m us hwf hle hus
 have hu:us=[.string t]:=by
  cases hus with
  |cons a b=>cases a with|a _=>cases b with|nil=>rfl
 subst hu;obtain⟨s1,⟨s2,s3⟩,s4,s5,s6,s7,s8⟩:=ykz h.still;have hmv:=yuz (tgt:=[]) (n0:=m.next) hok h.still (by rw[h.pre];rfl) zBD (fun t ht=>by cases ht)
 obtain⟨ρ,hρ⟩:∃ρ,fp.rho [] m.next=ρ:=⟨_,rfl⟩
 have hpost:(fp.move [] m.next).post=fp.post.map (BlkL.ren ρ):=by rw[<-hρ];rfl
 have hv:(fp.move [] m.next).v = .agg #[.string p.name,ren1 ρ vv,ren1 ρ vr]:=by
  show renV (fp.rho [] m.next) fp.v=_
  rw[hρ,h.v];rfl
 have hpre:(fp.move [] m.next).pre=[]:=by
  show fp.pre.map _=[];rw[h.pre];rfl
 have hfit:(fp.move [] m.next).fits fp.g [.string t] m=true:=by
  unfold Fact.fits;rw[hpre];show(zK fp.g fp.g&&zK m.next m.next&&eqL2 (fp.args.map (ren2 _)) [.string t]&&true)=true
  rw[zH,zH,h.args];show(true&&true&&(eqBytes t.data.toList t.data.toList&&true)&&true)=true;rw[ypr];rfl
 have hri:∀b∈fp.post,ρ b.i=b.i-fp.next0+m.next:=fun b hb=>by rw[<-hρ];exact ybhu (s6 b hb).1 (s6 b hb).2.1
 have hnd:ygl ((fp.post.map (BlkL.ren ρ)).map (·.i))=true:=by
  refine ylu ?_
  have e:(fp.post.map (BlkL.ren ρ)).map (·.i)=(fp.post.map (·.i)).map (fun i=>i-fp.next0+m.next):=by
   rw[zAB,zAB];refine zN fun b hb=>?_;show(b.ren ρ).i=_;rw[b.ygz,hri b hb];rfl
  rw[e];unfold List.Nodup at s7 ⊢;rw[zAG];refine List.Pairwise.imp_of_mem (fun {x y} hx hy h=>?_) s7;obtain⟨bx,hbx,rfl⟩:=List.mem_map.1 hx;obtain⟨by_,hby,rfl⟩:=List.mem_map.1 hy;have:=(s6 bx hbx).1;have:=(s6 by_ hby).1;omega
 have hs:=yxq hmv hfit;unfold Fact.out at hs;rw[hv,hpre,hpost]at hs;refine⟨_,_,_,hs,zT _,?_,rfl,?_⟩
 ·intro i b hb;show(blksT m.b (fp.post.map (BlkL.ren ρ))).get i=some b;rw[yrs fun c hc=>?_]
  ·exact hb
  ·obtain⟨c,hc',rfl⟩:=List.mem_map.1 hc;have:=hwf i b hb;rw[c.ygz,hri c hc'];omega
 ·have hF:∀b∈fp.post,frsh m.next ⟨(fp.move [] m.next).next1,blksT m.b (fp.post.map (BlkL.ren ρ)),(fp.move [] m.next).low⟩ G (ρ b.i)=some (b.ren ρ).blk:=fun b hb=>by
   unfold frsh;rw[if_pos (by rw[hri b hb];omega)]
   have:=yqm (t:=m.b) hnd _ (List.mem_map.2 ⟨b,hb,rfl⟩);rw[b.ygz]at this;exact this
  have hinj:∀b∈fp.post,∀c∈fp.post,ρ b.i=ρ c.i->b.i=c.i:=fun b hb c hc e=>by
   rw[hri b hb,hri c hc]at e;have:=(s6 b hb).1;have:=(s6 c hc).1;omega
  refine .ag (.cons (.a rfl) (.cons (.ex ?_ (fun A B w=>Lies.mono A B w) ?_) (.cons (.ex ?_ (fun A B w=>Lies.mono A B w) ?_) .nil)))
  ·exact⟨ρ,fun b hb c hc=>hinj b (h.bv b hb) c (h.bv c hc),fun b hb=>hF b (h.bv b hb),rfl⟩
  ·exact ybms (fun b hb=>hF b (h.bv b hb)) h.vars
  ·exact⟨ρ,fun b hb c hc=>hinj b (h.br b hb) c (h.br c hc),fun b hb=>hF b (h.br b hb),rfl⟩
  ·exact ybeg (fun b hb=>hF b (h.br b hb)) h.rules
def inB(B:List BlkL):Value->Bool
 |.slice (some a) _ _=>(B.map (·.i)).elem a.block
 |.pointer (some a)=>(B.map (·.i)).elem a.block
 |.agg _=>false
 |.func _ _ _=>false
 |_=>true
theorem yii{B:List BlkL}{ρ σ:Nat->Nat}(h:∀b∈B,ρ b.i=σ b.i){v:Value}(hv:inB B v=true):ren1 ρ v=ren1 σ v:=by
 have hk:∀j,(B.map (·.i)).elem j=true->ρ j=σ j:=fun j hj=>by
  have:j∈B.map (·.i):=by simpa using hj
  obtain⟨b,hb,rfl⟩:=List.mem_map.1 this;exact h b hb
 cases v with
 | slice p n c=>cases p with
   |none=>rfl
   | some a =>
     show Value.slice (some (renA ρ a)) n c = .slice (some (renA σ a)) n c;rw[yjp,yjp,hk _ hv]
 | pointer p=>cases p with
   |none=>rfl
   | some a =>
     show Value.pointer (some (renA ρ a)) = .pointer (some (renA σ a));rw[yjp,yjp,hk _ hv]
 |agg a=>cases hv
 |func f a c=>cases hv
 |_=>rfl
theorem ybie{B:List BlkL}{τ:Nat->Nat}{v:Value}(hv:inB B v=true):ren2 τ v=ren1 τ v:=by
 cases v with
 |agg a=>cases hv
 |func f a c=>cases hv
 |_=>rfl
theorem ybkg{B:List BlkL}{ρ σ:Nat->Nat}(h:∀b∈B,ρ b.i=σ b.i){v:Value}(hv:inB B v=true):ren2 ρ v=ren2 σ v:=by
 rw[ybie hv,ybie hv];exact yii h hv
def ybfb(B:List BlkL):Bool:=B.all fun b=>b.l.all (inB B)
theorem ybat{B:List BlkL}{ρ σ:Nat->Nat}(hc:ybfb B=true)(h:∀b∈B,ρ b.i=σ b.i){b:BlkL}(hb:b∈B):b.ren ρ=b.ren σ:=by
 have h1:=List.all_eq_true.1 (List.all_eq_true.1 hc b hb)
 have e:∀τ:Nat->Nat,b.ren τ=⟨τ b.i,b.e,b.z,b.l.map (ren2 τ)⟩:=fun τ=>by
  unfold BlkL.ren;rw[ybm]
 rw[e,e,h b hb];congr 1;exact zN fun v hv=>ybkg h (h1 v hv)
theorem yvq{low:Nat}:∀{l:List BlkL}{t:T ABlk},(∀b∈l,b.i<low)->dropT t low l=t
 |[],_,_=>rfl
 | b :: l,t,h=>by
   have hb:=h b zY;unfold dropT
   have e:zAD low b.i=false:=by
    cases q:zAD low b.i with
    |false=>rfl
    |true=>have:=zL q;omega
   rw[e,ybg,if_neg (by simp)]
   exact yvq fun c hc=>h c (zV _ hc)
structure GoodV(fv:Fact)(p:ProgR)(vv vr:Value)(Bv Br:List BlkL):Prop where
 args:fv.args=[.agg #[.string p.name,vv,vr]]
 pre:∀b∈fv.pre,b∈Bv\/b∈Br
 bv:∀b∈Bv,b∈fv.pre
 br:∀b∈Br,b∈fv.pre
 v:fv.v = .bool true
 post:fv.post=[]
 still:fv.still=true
 apart:(Bv.all fun b=>Br.all fun c=>!(zK b.e c.e) && !(zK b.i c.i))=true
 cv:ybfb Bv=true
 cr:ybfb Br=true
 iv:inB Bv vv=true
 ir:inB Br vr=true
 refl:eq2 (.agg #[.string p.name,vv,vr]) (.agg #[.string p.name,vv,vr])=true
theorem yceh{P:Program}{fv:Fact}{p:ProgR}{vv vr:Value}{Bv Br:List BlkL}(hok:yew P fv)(h:GoodV fv p vv vr Bv Br):Returns P fv.g [.ag (ygo (Lies Bv vv) (Lies Br vr) p)] (.b true):=by
 intro G m us hwf hle hus
 obtain⟨ρ1,ρ2,hu,a1,a2,a3,a4⟩:∃ρ1 ρ2:Nat->Nat,us=[.agg #[.string p.name,ren1 ρ1 vv,ren1 ρ2 vr]]/\(∀b∈Bv,∀c∈Bv,ρ1 b.i=ρ1 c.i->b.i=c.i)/\(∀b∈Bv,G (ρ1 b.i)=some (b.ren ρ1).blk) /\
  (∀b∈Br,∀c∈Br,ρ2 b.i=ρ2 c.i->b.i=c.i)/\∀b∈Br,G (ρ2 b.i)=some (b.ren ρ2).blk:=by
  cases hus with
  | cons a b =>
    cases b
    cases a with
    | ag hl =>
      cases hl with
      | cons x1 hl =>
        cases x1
        cases hl with
        | cons x2 hl =>
          cases x2 with
          | ex q2 _ _ =>
            cases hl with
            | cons x3 hl =>
              cases x3 with
              | ex q3 _ _ =>
                cases hl
                obtain⟨ρ1,b1,b2,rfl⟩:=q2;obtain⟨ρ2,b3,b4,rfl⟩:=q3;exact⟨ρ1,ρ2,rfl,b1,b2,b3,b4⟩
 subst hu;obtain⟨s1,⟨s2,s3⟩,s4,s5,s6,s7,s8⟩:=ykz h.still
 have hap:∀b∈Bv,∀c∈Br,b.e≠c.e/\b.i≠c.i:=fun b hb c hc=>by
  have:=List.all_eq_true.1 (List.all_eq_true.1 h.apart b hb) c hc;simp only[zB,zAF]at this;exact⟨fun e=>(by rw[e,zH]at this;exact absurd this.1 (by decide)),fun e=>(by rw[e,zH]at this;exact absurd this.2 (by decide))⟩
 let σ:Nat->Nat:=fun i=>if (Bv.map (·.i)).elem i then ρ1 i else ρ2 i
 have hcross:∀b∈Bv,∀c∈Br,ρ1 b.i≠ρ2 c.i:=fun b hb c hc e=>by
  have e1:=a2 b hb;have e2:=a4 c hc;rw[e,e2]at e1
  injection e1 with e1
  unfold BlkL.blk at e1
  injection e1 with _ _ e3 _
  exact(hap b hb c hc).1 e3.symm
 have hG:∀i b,G i=some b->i<m.next:=fun i b hb=>hwf i b (hle i b hb)
 have sv:∀b∈Bv,σ b.i=ρ1 b.i:=fun b hb=>if_pos (by simpa using⟨b,hb,rfl⟩)
 have sr:∀b∈Br,σ b.i=ρ2 b.i:=fun b hb=>by
  refine if_neg fun q=>?_;have:b.i∈Bv.map (·.i):=by simpa using q
  obtain⟨d,hd,hdi⟩:=List.mem_map.1 this;exact(hap d hd b hb).2 hdi
 have tgtLt:∀b∈fv.pre,σ b.i<m.next:=fun b hb=>by
  rcases h.pre b hb with q|q
  ·rw[sv b q];exact hG _ _ (a2 b q)
  ·rw[sr b q];exact hG _ _ (a4 b q)
 have sinj:∀b∈fv.pre,∀c∈fv.pre,σ b.i=σ c.i->b.i=c.i:=fun b hb c hc e=>by
  rcases h.pre b hb with q|q<;>rcases h.pre c hc with q'|q'
  ·rw[sv b q,sv c q']at e;exact a1 b q c q' e
  ·rw[sv b q,sr c q']at e;exact absurd e (hcross b q c q')
  ·rw[sr b q,sv c q']at e;exact absurd e.symm (hcross c q' b q)
  ·rw[sr b q,sr c q']at e;exact a3 b q c q' e
 obtain⟨tgt,htgt⟩:∃t,fv.pre.map (fun b=>σ b.i)=t:=⟨_,rfl⟩
 have tlt:∀t∈tgt,t<m.next:=fun t ht=>by
  rw[<-htgt]at ht;obtain⟨b,hb,rfl⟩:=List.mem_map.1 ht;exact tgtLt b hb
 have tnd:tgt.Nodup:=by
  rw[<-htgt];have s5:=s5;unfold List.Nodup at s5 ⊢;rw[zAG]at s5 ⊢;exact List.Pairwise.imp_of_mem (fun {x y} hx hy h e=>h (sinj x hx y hy e)) s5
 have tlen:fv.pre.length=tgt.length:=by rw[<-htgt,zM]
 have hmv:=yuz (n0:=m.next) hok h.still tlen tnd tlt
 have hrho:=ybnq (n0:=m.next) s4 s5 tlen
 obtain⟨ρ,hρ⟩:∃ρ,fv.rho tgt m.next=ρ:=⟨_,rfl⟩
 rw[hρ,<-htgt]at hrho;have hri:∀b∈fv.pre,ρ b.i=σ b.i:=List.map_inj_left.1 hrho;have hv1:∀b∈Bv,ρ b.i=ρ1 b.i:=fun b hb=>by rw[hri b (h.bv b hb),sv b hb]
 have hr1:∀b∈Br,ρ b.i=ρ2 b.i:=fun b hb=>by rw[hri b (h.br b hb),sr b hb]
 have hargs:(fv.move tgt m.next).args=[.agg #[.string p.name,ren1 ρ1 vv,ren1 ρ2 vr]]:=by
  show fv.args.map (ren2 (fv.rho tgt m.next))=_
  rw[hρ,h.args,<-yii hv1 h.iv,<-yii hr1 h.ir];rfl
 have hself:eqL2 [.agg #[.string p.name,ren1 ρ1 vv,ren1 ρ2 vr]] [.agg #[.string p.name,ren1 ρ1 vv,ren1 ρ2 vr]]=true:=by
  have hf:yko (.agg #[.string p.name,vv,vr])=true:=by
   have:=s2;rw[h.args]at this
   simpa using this
  have e:=ybwe (ρ:=ρ) hf h.refl;rw[show ren2 ρ (.agg #[.string p.name,vv,vr]) = .agg #[.string p.name,ren1 ρ vv,ren1 ρ vr]from rfl,yii hv1 h.iv,yii hr1 h.ir]at e
  show(eq2 _ _&&true)=true;rw[e];rfl
 have hpre:∀b∈fv.pre,m.b.get (ρ b.i)=some (b.ren ρ).blk:=fun b hb=>by
  rcases h.pre b hb with q|q
  ·rw[ybat h.cv hv1 q,hv1 b q];exact hle _ _ (a2 b q)
  ·rw[ybat h.cr hr1 q,hr1 b q];exact hle _ _ (a4 b q)
 have hp:(fv.move tgt m.next).pre=fv.pre.map (BlkL.ren ρ):=by rw[<-hρ];rfl
 have hfit:(fv.move tgt m.next).fits fv.g [.agg #[.string p.name,ren1 ρ1 vv,ren1 ρ2 vr]] m=true:=by
  unfold Fact.fits;rw[hargs,hself];show(zK fv.g fv.g&&zK m.next m.next&&true&&(fv.move tgt m.next).pre.all (blkIs m))=true
  rw[zH,zH,hp];show List.all _ _=true;refine List.all_eq_true.2 fun b' hb'=>?_;obtain⟨b,hb,rfl⟩:=List.mem_map.1 hb';have h2:=(s4 b hb).2;refine ynk ?_ (ysi h2) ?_
  ·rw[b.ygz];exact hpre b hb
  ·show zW (b.l.map _).length 1000000=true;rw[zM];unfold reflB at h2;rw[zB]at h2;exact h2.2
 have hs:=yxq hmv hfit;unfold Fact.out at hs
 have hv:(fv.move tgt m.next).v = .bool true:=by
  show renV (fv.rho tgt m.next) fv.v=_
  rw[h.v];rfl
 have hpost:(fv.move tgt m.next).post=[]:=by
  show fv.post.map _=[];rw[h.post];rfl
 rw[hv,hpost]at hs;refine⟨_,_,_,hs,zT _,?_,rfl,.b⟩;intro i b hb;show(dropT m.b m.next (fv.move tgt m.next).pre).get i=some b
 rw[yvq fun c hc=>?_]
 ·exact hb
 ·rw[hp]at hc;obtain⟨c,hc',rfl⟩:=List.mem_map.1 hc;rw[c.ygz,hri c hc'];exact tgtLt c hc'
end Sh
end
end Go.Proofs.YtiejahgklcjhkaaGreatDoor
