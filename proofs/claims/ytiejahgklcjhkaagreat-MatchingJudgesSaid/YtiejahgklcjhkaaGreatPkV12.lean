/- Joined. -/
import Derived.Test.YtiejahgklcjhkaaGreatPkV11
import Derived.Test.YtiejahgklcjhkaaGreatPkV9
set_option linter.unusedSimpArgs false
set_option linter.unusedVariables false
set_option maxRecDepth 8000
open Go.Lib renaming hid→zA
open List renaming getElem?_eq_getElem→zB,getD→zD,eq_nil_of_length_eq_zero→zG,getElem_mem→zH,range→zK,not_mem_nil→zL,mem_cons_of_mem→zM,getD_eq_getElem?_getD→zN,take_succ_eq_append_getElem→zS,getElem_map→zT,length_cons→zU,getElem?_set_self→zY,getElem?_set_ne→zAA,mem_cons_self→zAB,length→zAF,countP_cons→zAG,take_length→zAH,countP_nil→zAI,length_map→zAJ
open Nat renaming reduceEqDiff→zC,le_refl→zF,reduceAdd→zI,ble_eq_true_of_le→zJ,eq_zero_or_pos→zV,lt_succ_self→zW,reduceLeDiff→zX,lt_of_lt_of_le→zAC,reduceLT→zAD,lt_or_ge→zAL,mul_comm→zAN,le_succ→zAO,beq→zAP
open Go.Proofs.Tryz renaming prog→zO,func41→zAE,ntmps41→zAK
open Int renaming toNat_natCast→zQ,le_refl→zZ,lt_or_le→zAM
open Go
namespace Go.Proofs.YtiejahgklcjhkaaGreat
section
open Go.RowKit
theorem yht(g:Gr)(G:List Int)(v:Nat):(yct g G v).length=G.length:=by simp[yct]
set_option maxHeartbeats 2000000 in
theorem yjj(gv cv Gv:Value)(g:Gr)(c:Conf)(G:List Int)(w:World)(hg:GrAt w gv g)(hc:ybgo w cv c)(hG:yjd w Gv G)(hgood:ybf g) :
 Calls zO 41 #[gv,cv,Gv] w fun e w'=>e = .returned (.bool (yku g.ports.length (yct g G) c))/\Below w.heap.size w w':=by
 have hn24:=hgood.2.1;have hid:=hgood.2.2.1;have Hid':=zA hid
 clear hgood
 obtain⟨i,p,rfl,hi,hp⟩:=hg;obtain⟨A,c0,rfl,hA1,hA2⟩:=ybh hi;obtain⟨A2,c2,rfl,hB1,hB2⟩:=ybh hp;obtain⟨A3,c3,rfl,hC1,hC2⟩:=ybh hc;obtain⟨A4,c4,rfl,hD1,hD2⟩:=ybh hG;have Hp:=zA hp;have Hc:=zA hc;have HG:=zA hG
 clear hi hp hc hG
 by_cases n1:c.length=g.ids.length
 ·have n1':((c.length:Int)!=(g.ids.length:Int))=false:=by simp[n1]
  have Hn:=zA (n1.trans hid);have hcn:c.length<=24:=by omega
  clear n1 hid
  go_enter zAE,zAK
  go_wp2
  obtain⟨W1,hW1⟩:∃W,W=w.alloc (.cells #[.slice A g.ids.length c0,.slice A2 g.ports.length c2] 25):=⟨_,rfl⟩;have hbox:W1.cell? ⟨w.heap.size,1,none⟩=some (.slice A2 g.ports.length c2):=by subst hW1;simp
  have HbW:=zA (show Below w.heap.size w W1 by subst hW1;exact(Below.refl _ _).alloc (zF _) _)
  rw[<-hW1]
  clear hW1
  go_loopg [21] c.length (fun q t wr=>∃v n:Nat,q+v=c.length/\t = .int .i64 v/\wr=W1.drewN n/\Hid (∀(u:Nat) s,u<v->c[u]?=some s->yhy (yct g G u) s))
  case atStart=>exact⟨0,0,by omega,rfl,rfl,zA (fun u s hu=>absurd hu (by omega))⟩
  case round =>
   obtain⟨v,n,hq,rfl,rfl,hok⟩:=hrel
   by_cases hlt:v<c.length
   ·obtain⟨b3,off3,sv,rfl,hb3,hcs,hs⟩:=ydy (Hc.out.below (Stable.sl Stable.int) HbW.out) (zB hlt);obtain⟨A5,c5,rfl,hE1,hE2⟩:=ybh hs;obtain⟨s,hse⟩:∃s,c[v]=s:=⟨_,rfl⟩;have Hs?:=zA (show c[v]?=some s by rw[zB hlt,hse])
    rw[hse]at hs hcs hE1;have Hbad:=zA (show ¬yhy (yct g G v) s->yku g.ports.length (yct g G) c=false from fun h=>ygd (fun hc=>h (hc.2 v s Hs?.out)))
    have Hs:=zA hs
    clear hs hse
    by_cases c1:s.length=G.length
    ·have c1':((s.length:Int)!=(G.length:Int))=false:=by simp[c1]
     have Hsl:=zA c1
     clear c1
     have hvp:v<g.ports.length:=by rw[<-Hn.out];exact hlt
     go_wp2
     obtain⟨go,rfl⟩:∃go,go=gk:=⟨_,rfl⟩
     go_loopg [33] s.length (fun q t wr=>∃x n:Nat,q+x=s.length/\t = .int .i64 x/\wr=W1.drewN n/\Hid (∀(j:Nat) b z,j<x->(yct g G v)[j]?=some b->s[j]?=some z->b.1<=z/\z<=b.2))
     case atStart=>exact⟨0,n,by omega,rfl,rfl,zA (fun j b z hj=>absurd hj (by omega))⟩
     case round =>
      obtain⟨x,n,hqx,rfl,rfl,hst⟩:=hrel
      by_cases hxl:x<s.length
      ·have hxG:x<G.length:=by rw[<-Hsl.out];exact hxl
       obtain⟨b5,o5,rfl,hb5,hc5,hr5⟩:=ydz (Hs.out) hxl;obtain⟨b6,o6,rfl,hb6,hc6,hr6⟩:=ydz (HG.out.below Stable.int HbW.out) hxG;obtain⟨b7,o7,lv,rfl,hb7,hc7,hl7⟩:=ydy (Hp.out.below (Stable.sl Stable.link) HbW.out) (zB hvp);obtain⟨A8,c8,rfl,hF1,hF2⟩:=ybh hl7;obtain⟨ds,hds⟩:∃ds,g.ports[v]=ds:=⟨_,rfl⟩;have hdeg:yrz g v=ds.length:=by simp[yrz,zD,zB hvp,hds]
       rw[hds]at hc7 hF1;obtain⟨y,hy⟩:∃y,s[x]=y:=⟨_,rfl⟩;obtain⟨h,hh⟩:∃h,G[x]=h:=⟨_,rfl⟩;have Hy?:=zA (show s[x]?=some y by rw[zB hxl,hy])
       have hb?:(yct g G v)[x]?=some (if h = -1 then(-1,(ds.length:Int)-1)else(0,h)):=by
        simp[yct,hxG,hh,hdeg]
       rw[hy]at hc5 hr5;rw[hh]at hc6 hr6;obtain⟨hr5a,hr5b⟩:=hr5;obtain⟨hr6a,hr6b⟩:=hr6
       clear hl7 hds hdeg hy hh
       by_cases c2:h = -1
       ·have c2':(h == -1)=true:=by simp[c2]
        rw[if_pos c2]at hb?;have Hb?:=zA hb?
        clear hb? c2
        by_cases c3:y < -1
        ·have Hf:=zA (Hbad.out (fun h=>by have:=h.2 x _ y Hb?.out Hy?.out;simp only at this;omega))
         go_wp2
         go_quiet (fail)
         go_wp2
         go_quiet (fail)
         go_wp2
         go_ret
         exact⟨yu Hf.out.symm,below_drewN HbW.out _⟩
        ·by_cases c4:(ds.length:Int)-1<y
         ·have Hf:=zA (Hbad.out (fun h=>by have:=h.2 x _ y Hb?.out Hy?.out;simp only at this;omega))
          go_wp2
          go_quiet (fail)
          go_wp2
          go_quiet (fail)
          go_wp2
          go_ret
          exact⟨yu Hf.out.symm,below_drewN HbW.out _⟩
         ·have c4d:decide ((ds.length:Int)-1<y)=false:=by simp;omega
          go_wp2
          go_quiet (fail)
          go_wp2
          go_quiet (fail)
          go_wp2
          go_roundg (gk-1)
          case measure=>omega
          case rel =>
           refine⟨x+1,_,by omega,by go_num,rfl,zA (fun j b z hj hb hz=>?_)⟩
           by_cases hjx:j<x
           ·exact hst.out j b z hjx hb hz
           ·obtain rfl:j=x:=by omega
            rw[Hb?.out]at hb;rw[Hy?.out]at hz;cases hb
            cases hz
            simp only;omega
       ·have c2':(h == -1)=false:=by simp[c2]
        rw[if_neg c2]at hb?;have Hb?:=zA hb?
        clear hb? c2
        by_cases c3:y<0
        ·have Hf:=zA (Hbad.out (fun h=>by have:=h.2 x _ y Hb?.out Hy?.out;simp only at this;omega))
         go_wp2
         go_quiet (fail)
         go_wp2
         go_ret
         exact⟨yu Hf.out.symm,below_drewN HbW.out _⟩
        ·by_cases c4:h<y
         ·have Hf:=zA (Hbad.out (fun h=>by have:=h.2 x _ y Hb?.out Hy?.out;simp only at this;omega))
          go_wp2
          go_quiet (fail)
          go_wp2
          go_ret
          exact⟨yu Hf.out.symm,below_drewN HbW.out _⟩
         ·have c4d:decide (h<y)=false:=by simp;omega
          go_wp2
          go_quiet (fail)
          go_wp2
          go_roundg (gk-1)
          case measure=>omega
          case rel =>
           refine⟨x+1,_,by omega,by go_num,rfl,zA (fun j b z hj hb hz=>?_)⟩
           by_cases hjx:j<x
           ·exact hst.out j b z hjx hb hz
           ·obtain rfl:j=x:=by omega
            rw[Hb?.out]at hb;rw[Hy?.out]at hz;cases hb
            cases hz
            simp only;omega
      ·obtain rfl:x=s.length:=by omega
       go_wp2
       go_roundg (go-1)
       case measure=>omega
       case rel =>
        refine⟨v+1,_,by omega,by go_num,rfl,zA (fun u s' hu hs'=>?_)⟩
        by_cases huv:u<v
        ·exact hok.out u s' huv hs'
        ·obtain rfl:u=v:=by omega
         rw[Hs?.out]at hs';cases hs'
         refine⟨by rw[yht,Hsl.out],fun j b z hb hz=>hst.out j b z (List.getElem?_eq_some_iff.1 hz).1 hb hz⟩
    ·have c1':((s.length:Int)!=(G.length:Int))=true:=by simp;omega
     have Hf:=zA (Hbad.out (fun h=>c1 (by rw[h.1,yht])))
     clear c1
     go_wp2
     go_ret
     exact⟨yu Hf.out.symm,below_drewN HbW.out _⟩
   ·obtain rfl:v=c.length:=by omega
    have Ht:=zA (ynz (n:=g.ports.length) (bs:=yct g G) (c:=c) ⟨Hn.out,fun v s hs=>hok.out v s (List.getElem?_eq_some_iff.1 hs).1 hs⟩)
    go_wp2
    go_ret
    exact⟨yu Ht.out.symm,below_drewN HbW.out _⟩
 ·have n1':((c.length:Int)!=(g.ids.length:Int))=true:=by simp;omega
  have Hf:=zA (ygd (n:=g.ports.length) (bs:=yct g G) (c:=c) (fun h=>n1 (h.1.trans hid.symm)))
  clear n1 hid
  go_enter zAE,zAK
  go_wp2
  go_ret
  exact⟨yu Hf.out.symm,(Below.refl _ _).alloc (zF _) _⟩
end
section
open Go.RowKit
end
section
def yhq(g:Gr):Nat:=(g.ports.map zAF).sum
def addL(back:Bool)(l:List (Int×Int))(x:Int×Int):List (Int×Int):=if back then x::l else l++[x]
theorem yjc{back:Bool}{l:List (Int×Int)}{x y:Int×Int}:y∈addL back l x↔y=x\/y∈l:=by
 unfold addL;cases back<;>simp[or_comm]
def yge(back:Bool)(g:Gr)(a b:Nat)(w:Int):Gr:=⟨g.ids,(g.ports.set a (addL back (g.ports.getD a []) (b,w))).set b (addL back (g.ports.getD b []) (a,w))⟩
theorem yhe(back:Bool)(g:Gr){a b:Nat}(w:Int)(ha:a<g.ports.length)(hb:b<g.ports.length)(v:Nat) :
 (yge back g a b w).ports.getD v []=if v=b then addL back (g.ports.getD b []) (a,w)else if v=a then addL back (g.ports.getD a []) (b,w)else g.ports.getD v []:=by
 unfold yge;simp only[zD]
 by_cases h1:v=b
 ·subst h1;rw[if_pos rfl,zY (by simpa using hb)]
  rfl
 ·rw[if_neg h1,zAA (fun q=>h1 q.symm)]
  by_cases h2:v=a
  ·subst h2;rw[if_pos rfl,zY ha];rfl
  ·rw[if_neg h2,zAA (fun q=>h2 q.symm)]
end
section
def Tre(g:Gr)(m:Nat):Prop:=∀v,0<v->v<m->∃u,u<v/\adj g u v
theorem Tre.walk{g:Gr}{m:Nat}(h:Tre g m):∀v,v<m->∃k,Walk g 0 k v:=by
 intro v
 induction v using Nat.strongRecOn with
 | _ v ih =>
   intro hv
   by_cases h0:v=0
   ·subst h0;exact⟨0,rfl⟩
   ·obtain⟨u,hu,ha⟩:=h v (by omega) hv
    obtain⟨k,hk⟩:=ih u hu (by omega)
    exact⟨k+1,u,hk,ha⟩
theorem Tre.conn{g:Gr}(hg:ybf g)(h:Tre g g.ports.length):ynn g=true:=by
 unfold ynn;rw[(ycp g).2 hg,Bool.true_and,ywb hg (a:=0) (by have:=hg.1;omega)]
 exact h.walk
theorem yhv{g:Gr}{u v:Nat}:adj g u v↔∃l,l∈g.ports.getD u []/\l.1=(v:Int):=by
 constructor
 ·rintro⟨ls,h,l,hl,e⟩;exact⟨l,by simpa[zD,h]using hl,e⟩
 ·rintro⟨l,hl,e⟩;cases h:g.ports[u]? with
  |none=>simp[zD,h]at hl
  |some ls=>exact⟨ls,h,l,by simpa[zD,h]using hl,e⟩
theorem ywo{back:Bool}{g:Gr}{a b:Nat}{w:Int}(ha:a<g.ports.length)(hb:b<g.ports.length){u v:Nat}(h:adj g u v):adj (yge back g a b w) u v:=by
 obtain⟨l,hl,e⟩:=yhv.1 h;refine yhv.2 ⟨l,?_,e⟩;rw[yhe back g w ha hb u];split
 ·rename_i q;subst q;exact yjc.2 (.inr hl)
 ·split
  ·rename_i q;subst q;exact yjc.2 (.inr hl)
  ·exact hl
theorem yvb{back:Bool}{g:Gr}{a b:Nat}{w:Int}(ha:a<g.ports.length)(hb:b<g.ports.length)(hab:a≠b):adj (yge back g a b w) a b:=by
 refine yhv.2 ⟨((b:Int),w),?_,rfl⟩;rw[yhe back g w ha hb a,if_neg hab,if_pos rfl];exact yjc.2 (.inl rfl)
theorem Tre.add{back:Bool}{g:Gr}{a b:Nat}{w:Int}(ha:a<g.ports.length)(hb:b<g.ports.length){m:Nat}(h:Tre g m):Tre (yge back g a b w) m:=fun v h0 hv=>by
 obtain⟨u,hu,hadj⟩:=h v h0 hv;exact⟨u,hu,ywo ha hb hadj⟩
def bare(ids:List Int):Gr:=⟨ids,List.replicate ids.length []⟩
end
section
abbrev ybbs:Ex:=.leaf 4 0
abbrev eVar(k:Int):Ex:=.leaf 5 k
abbrev eQ(k:Int):Ex:=.leaf 12 k
def endP(c:Conf)(k:Nat)(l:Int×Int):Int:=(c.getD l.1.toNat []).getD k 0
section
variable {nm nd np nt nl:ByteArray}{g:Gr}{c:Conf}{v:Nat}
end
end
section
section
variable {g:Gr}{a v:Nat}
theorem yey(hg:ybf g)(hc:ynn g=true)(ha:a<g.ports.length)(hv:v<g.ports.length):∃k:Nat,(ydd g a).getD v 0=k/\Walk g a k v/\(∀j,j<k->¬Walk g a j v)/\k<g.ports.length:=by
 have h0:0<g.ports.length:=by omega
 have hall:(ydd g a).all (fun x=>decide (0<=x))=true:=yblq hg h0 ha ((Bool.and_eq_true _ _▸hc).2);have hl:=ysw hg ha;have hvl:v<(ydd g a).length:=by rw[hl];exact hv
 have e:(ydd g a).getD v 0=(ydd g a)[v]:=by simp[zD,hvl]
 have hpos:0<=(ydd g a)[v]:=by simpa using List.all_eq_true.1 hall _ (zH hvl)
 rcases(ygv hg ha).2 v _ (zB hvl)with⟨h,_⟩|⟨k,h1,h2,h3⟩
 ·omega
 ·exact⟨k,by rw[e,h1],h2,h3,ybbu hg ha h2 h3⟩
theorem yboo{k:Nat}(hg:ybf g)(hc:ynn g=true)(ha:a<g.ports.length)(hv:v<g.ports.length)(h1:Walk g a k v)(h2:∀j,j<k->¬Walk g a j v):(ydd g a).getD v 0=k:=by
 obtain⟨j,e,h3,h4,_⟩:=yey hg hc ha hv;rcases Nat.lt_trichotomy j k with h|h|h
 ·exact absurd h3 (h2 j h)
 ·rw[e,h]
 ·exact absurd h1 (h4 k h)
theorem ybce(hg:ybf g)(hc:ynn g=true)(ha:a<g.ports.length):(ydd g a).getD a 0=0:=yboo hg hc ha ha (k:=0) rfl fun j hj=>by omega
theorem ybnr(hg:ybf g)(hc:ynn g=true)(ha:a<g.ports.length)(hv:v<g.ports.length):0<=(ydd g a).getD v 0/\(ydd g a).getD v 0<g.ports.length:=by
 obtain⟨k,e,_,_,h⟩:=yey hg hc ha hv;omega
theorem ybid(hg:ybf g)(hc:ynn g=true)(ha:a<g.ports.length)(hv:v<g.ports.length)(hne:v≠a):1<=(ydd g a).getD v 0:=by
 obtain⟨k,e,h1,_,_⟩:=yey hg hc ha hv;cases k with
 |zero=>exact absurd h1 hne
 |succ k=>omega
theorem ybll(hg:ybf g)(hc:ynn g=true)(ha:a<g.ports.length){u:Nat}(h:adj g u v):(ydd g a).getD v 0<=(ydd g a).getD u 0+1:=by
 obtain⟨hu,hv⟩:=hg.adj_lt h;obtain⟨k,e,h1,_,_⟩:=yey hg hc ha hu;obtain⟨j,e',_,h3,_⟩:=yey hg hc ha hv;rw[e,e'];rcases zAL (k+1) j with q|q
 ·exact absurd ⟨u,h1,h⟩ (h3 (k+1) q)
 ·omega
theorem ybeo(hg:ybf g)(hc:ynn g=true)(ha:a<g.ports.length)(hv:v<g.ports.length)(hne:v≠a):∃u,adj g v u/\(ydd g a).getD u 0=(ydd g a).getD v 0-1:=by
 obtain⟨k,e,h1,h2,_⟩:=yey hg hc ha hv;cases k with
 |zero=>exact absurd h1 hne
 | succ k =>
   obtain⟨u,h3,h4⟩:=h1;refine⟨u,hg.adj_symm h4,?_⟩;have h5:=ybll hg hc ha h4;obtain⟨hu,_⟩:=hg.adj_lt h4;obtain⟨j,e',_,h6,_⟩:=yey hg hc ha hu;rw[e,e']at h5;rcases zAL k j with q|q
   ·exact absurd h3 (h6 k q)
   ·rw[e,e'];omega
theorem ych{l:Int×Int}(hg:ybf g)(hv:v<g.ports.length)(hl:l∈g.ports.getD v []):0<=l.1/\l.1.toNat<g.ports.length/\adj g v l.1.toNat/\1<=l.2/\l.2<=15:=by
 have e:g.ports[v]?=some (g.ports.getD v []):=by simp[zD,hv]
 have h:=hg.link e hl;exact⟨h.1,by omega,⟨_,e,l,hl,by omega⟩,h.2.2.2.1,h.2.2.2.2⟩
theorem ypz{u:Nat}(h:adj g v u):∃l∈g.ports.getD v [],l.1.toNat=u:=by
 obtain⟨l,hl,e⟩:=yhv.1 h;exact⟨l,hl,by rw[e];simp⟩
end
section
variable {nm nd np nt nl:ByteArray}{g:Gr}
end
end
section
namespace Sh
open Ev Go.RowKit
theorem gmr{α:Type}(f:Nat->α)(n k:Nat)(d:α)(h:k<n):((zK n).map f).getD k d=f k:=by simp[zD,h]
def mapR{α:Type}(n:Nat)(f:Nat->α):List α:=(zK n).map f
theorem gmR{α:Type}(f:Nat->α)(n k:Nat)(d:α)(h:k<n):(mapR n f).getD k d=f k:=gmr f n k d h
theorem ybih{α:Type}(n:Nat)(f:Nat->α):(mapR n f).length=n:=by simp[mapR]
section
variable {Q1 Q2:(Nat->Option ABlk)->Value->Prop}{p:ProgT}{g:Gr}
end
end Sh
end
section
namespace Sh
open Ev Go.RowKit
section
variable {Q1 Q2:(Nat->Option ABlk)->Value->Prop}{p:ProgT}{g:Gr}
def yfk(l:List Conf):SV:=.sl 1 l.length (fun i=>[ybu (l.getD i [])])
def yje(l:List Cnt):SV:=.sl 5 l.length (fun i=>cntV (l.getD i default))
end
end Sh
end
section
def yvz(v m:Int):Int:=if m<1 then 0 else v%m
def atP(l:List Int)(i:Nat):Int:=l.getD i 0
namespace Sh
open Ev Go.RowKit
theorem ybvy{α:Type}(l:List α)(x d:α)(i:Nat):(l++[x]).getD i d=if i<l.length then l.getD i d else if i=l.length then x else d:=by
 by_cases h:i<l.length
 ·simp[zD,List.getElem?_append_left h,h]
 ·by_cases e:i=l.length
  ·subst e;simp[zD]
  ·rw[if_neg h,if_neg e,zD,List.getElem?_eq_none (by simp;omega)]
   rfl
end Sh
end
section
namespace Sh
open Ev Go.RowKit
section
variable {p:ProgT}{g:Gr}
end
end Sh
end
section
namespace Sh
open Ev Go.RowKit
def blV(l:List Bool):SV:=.sl 1 l.length (fun k=>[.b (l.getD k false)])
def ybix(l:List Bool)(k:Nat):Bool:=(l.take k).any id
structure HeldOk(legit:List Bool)(ks:List Cnt)(rounds moves:Int)(ended:Bool):Prop where
 len:legit.length=ks.length
 pos:0<legit.length
 stays:∀i,i<legit.length->ybix legit i=true->legit.getD i false=true
 rounds:∀i,i<legit.length->ybix legit (i+1)=false->((ks.getD i default).begun:Int)<=rounds
 moves:∀i,i<legit.length->ybix legit (i+1)=false->0<=moves->((ks.getD i default).moves:Int)<=moves
 ends:ybix legit legit.length=true\/ended=false
end Sh
end
section
namespace Sh
section
variable {nm nd np nt nl:ByteArray}{g:Gr}
end
end Sh
end
section
def ResD(D:Nat->Prop)(res:Nat->Nat->Nat):Prop:=∀e w,e≠0->res e w≠0/\subB (res e w) e/\D (res e w)
theorem Sys.run_allD{S:Sys}{D:Nat->Prop}{res:Nat->Nat->Nat}(hr:ResD D res){J:Conf->Cnt->Prop}(hstep:∀c k s,J c k->s≠0->subB s (S.en c)->D s->J (S.mv c s) (addP k s (S.en (S.mv c s)))) :
 ∀(ws:List Nat) (c:Conf) (k:Cnt),J c k->∀p∈S.run res ws c k,J p.1 p.2
 |[],c,k,_,p,hp=>by cases hp
 | w :: ws,c,k,hJ,p,hp=>by
   unfold Sys.run at hp;split at hp
   ·cases hp
   ·rename_i h0
    obtain⟨r1,r2,r3⟩:=hr _ w h0;have hJ':=hstep c k _ hJ r1 r2 r3;rcases List.mem_cons.1 hp with e|e
    ·rw[e];exact hJ'
    ·exact Sys.run_allD hr hstep ws _ _ hJ' p e
theorem Sys.runs_allD{S:Sys}{D:Nat->Prop}{res:Nat->Nat->Nat}(hr:ResD D res){J:Conf->Cnt->Prop}(hstep:∀c k s,J c k->s≠0->subB s (S.en c)->D s->J (S.mv c s) (addP k s (S.en (S.mv c s)))){ws:List Nat}{c:Conf}(h:J c (yfc (S.en c))):∀p∈S.runs res ws c,J p.1 p.2:=fun p hp=>by
 rcases List.mem_cons.1 hp with e|e
 ·rw[e];exact h
 ·exact Sys.run_allD hr hstep ws _ _ h p e
theorem ResD.ok{D:Nat->Prop}{res:Nat->Nat->Nat}(h:ResD D res):ybjf res:=fun e w h0=>⟨(h e w h0).1,(h e w h0).2.1⟩
structure ByRoundsC(S:Sys)(V:Conf->Prop)(D:Nat->Prop)(P:Nat->Nat->Conf->Prop):Prop where
 valid:∀c s,V c->s≠0->subB s (S.en c)->D s->V (S.mv c s)
 stay:∀c s v r r',r<=r'->r'<=r+1->V c->v<S.n->s.testBit v=false->subB s (S.en c)->D s->(∀u,u<S.n->P r u c)->P r' v c->P r' v (S.mv c s)
 move:∀c s v r,V c->v<S.n->s.testBit v=true->subB s (S.en c)->D s->(∀u,u<S.n->P r u c)->P (r+1) v (S.mv c s)
 rest:∀c v r,V c->v<S.n->(S.en c).testBit v=false->(∀u,u<S.n->P r u c)->P (r+1) v c
 less:∀r v c,P (r+1) v c->P r v c
structure RInvC(S:Sys)(V:Conf->Prop)(P:Nat->Nat->Conf->Prop)(c:Conf)(k:Cnt):Prop where
 valid:V c
 all:∀v,v<S.n->P k.rounds v c
 done:∀v,v<S.n->k.pend.testBit v=false->P (k.rounds+1) v c
 begun:k.begun<=k.rounds+1
section
variable {S:Sys}{V:Conf->Prop}{D:Nat->Prop}{P:Nat->Nat->Conf->Prop}
theorem ByRoundsC.start(h:ByRoundsC S V D P){c:Conf}(hv:V c)(h0:∀v,v<S.n->P 0 v c):RInvC S V P c (yfc (S.en c)) :=
 ⟨hv,h0,fun v hn hb=>h.rest c v 0 hv hn hb h0,by simp[yfc]⟩
theorem ByRoundsC.step(h:ByRoundsC S V D P)(c:Conf)(k:Cnt)(s:Nat)(hi:RInvC S V P c k)(h0:s≠0)(hs:subB s (S.en c))(hD:D s):RInvC S V P (S.mv c s) (addP k s (S.en (S.mv c s))):=by
 obtain⟨i1,i2,i3,i4⟩:=hi;have hv:=h.valid c s i1 h0 hs hD
 have hall:∀v,v<S.n->P k.rounds v (S.mv c s):=fun v hn=>by
  cases hb:s.testBit v with
  |true=>exact h.less _ _ _ (h.move c s v _ i1 hn hb hs hD i2)
  |false=>exact h.stay c s v _ _ (zF _) (zAO _) i1 hn hb hs hD i2 (i2 v hn)
 have hnext:∀v,v<S.n->(difB k.pend s&&&S.en (S.mv c s)).testBit v=false->P (k.rounds+1) v (S.mv c s):=fun v hn hb=>by
  rw[Nat.testBit_and,yxs]at hb;cases hb1:s.testBit v with
  |true=>exact h.move c s v _ i1 hn hb1 hs hD i2
  | false =>
    cases hb2:k.pend.testBit v with
    |false=>exact h.stay c s v _ _ (zAO _) (zF _) i1 hn hb1 hs hD i2 (i3 v hn hb2)
    | true =>
      rw[hb1,hb2]at hb;exact h.rest _ v _ hv hn (by simpa using hb) hall
 unfold addP;simp only
 by_cases hp:difB k.pend s&&&S.en (S.mv c s)=0
 ·simp only[if_pos hp];have hall':∀v,v<S.n->P (k.rounds+1) v (S.mv c s):=fun v hn=>hnext v hn (by rw[hp];simp)
  exact⟨hv,hall',fun v hn hb=>h.rest _ v _ hv hn hb hall',by show k.rounds+1<=_;simp⟩
 ·simp only[if_neg hp];exact⟨hv,hall,hnext,zF _⟩
theorem ByRoundsC.runs(h:ByRoundsC S V D P){res:Nat->Nat->Nat}(hr:ResD D res){ws:List Nat}{c:Conf}(hv:V c)(h0:∀v,v<S.n->P 0 v c):∀p∈S.runs res ws c,RInvC S V P p.1 p.2 :=
 Sys.runs_allD hr (fun c k s=>h.step c k s) (h.start hv h0)
theorem ByRoundsC.silent(h:ByRoundsC S V D P){c:Conf}(hv:V c)(h0:∀v,v<S.n->P 0 v c)(he:S.en c=0):∀r v,v<S.n->P r v c
 |0,v,hn=>h0 v hn
 |r+1,v,hn=>h.rest c v r hv hn (by rw[he];simp) (ByRoundsC.silent h hv h0 he r)
end
end
section
abbrev Ptr:=Nat->Option Nat
def Mt(p:Ptr)(x:Nat):Prop:=∃y,p x=some y/\p y=some x
inductive Mv (g:Gr) (p:Ptr) (v:Nat):Option Nat->Prop
 |accept (u:Nat):p v=none->adj g v u->p u=some v->Mv g p v (some u)
 |propose (u:Nat):p v=none->adj g v u->p u=none->(∀x,adj g v x->p x≠some v)->Mv g p v (some u)
 |withdraw (u w:Nat):p v=some u->p u=some w->w≠v->Mv g p v none
structure PtI(g:Gr)(p:Ptr)(I:Nat->Prop):Prop where
 nb:∀v u,p v=some u->adj g v u
 fresh:∀v u,p v=some u->¬I v->p u=none\/p u=some v\/Mt p u
open Classical in
noncomputable def lv(A B C:Prop):Nat:=if A then 0 else if B then 1 else if C then 0 else 2
noncomputable def lft(p:Ptr)(I:Nat->Prop)(u v:Nat):Nat:=lv (p u=some v/\p v=some u) ((p u=some v/\¬I u)\/(p v=some u/\¬I v)) (Mt p u\/Mt p v)
section
variable {g:Gr}{p:Ptr}{I:Nat->Prop}{v:Nat}{t:Option Nat}
end
end
section
section
variable {g:Gr}{p:Ptr}{I:Nat->Prop}{v:Nat}{t:Option Nat}
end
open Classical in
noncomputable def oldN(g:Gr)(p:Ptr)(I:Nat->Prop):Nat:=((zK g.ports.length).map fun x=>if I x/\p x≠none then 1 else 0).sum
open Classical in
noncomputable def lftN(g:Gr)(p:Ptr)(I:Nat->Prop):Nat:=((zK g.ports.length).map fun x=>((g.ports.getD x []).map fun l=>lft p I x l.1.toNat).sum).sum
open Classical in
end
section
section
variable {g:Gr}{p:Ptr}{I:Nat->Prop}{v w:Nat}{t t':Option Nat}
noncomputable def potN(g:Gr)(p:Ptr)(I:Nat->Prop):Nat:=2*oldN g p I+lftN g p I
open Classical in
end
end
section
structure TreeM(g:Gr):Prop where
 up:∀a v u,a<g.ports.length->adj g v u->(ydd g a).getD u 0=(ydd g a).getD v 0-1\/(ydd g a).getD u 0=(ydd g a).getD v 0+1
 one:∀a v u w,a<g.ports.length->adj g v u->adj g v w->(ydd g a).getD u 0=(ydd g a).getD v 0-1->(ydd g a).getD w 0=(ydd g a).getD v 0-1->u=w
end
section
def dP(g:Gr)(a v:Nat):Int:=(ydd g a).getD v 0
structure Tr(g:Gr):Prop where
 good:ybf g
 conn:ynn g=true
 m:TreeM g
section
variable {g:Gr}{a b u v w x:Nat}
theorem Tr.self(h:Tr g)(ha:a<g.ports.length):dP g a a=0:=ybce h.good h.conn ha
theorem Tr.nonneg(h:Tr g)(ha:a<g.ports.length)(hv:v<g.ports.length):0<=dP g a v:=(ybnr h.good h.conn ha hv).1
theorem Tr.pos(h:Tr g)(ha:a<g.ports.length)(hv:v<g.ports.length)(hne:v≠a):1<=dP g a v:=ybid h.good h.conn ha hv hne
theorem Tr.up(h:Tr g)(ha:a<g.ports.length)(hu:adj g v u):dP g a u=dP g a v-1\/dP g a u=dP g a v+1:=h.m.up a v u ha hu
theorem Tr.one(h:Tr g)(ha:a<g.ports.length)(hu:adj g v u)(hx:adj g v x)(e1:dP g a u=dP g a v-1)(e2:dP g a x=dP g a v-1):u=x:=h.m.one a v u x ha hu hx e1 e2
theorem Tr.back(h:Tr g)(ha:a<g.ports.length)(hv:v<g.ports.length)(hne:v≠a):∃u,adj g v u/\dP g a u=dP g a v-1:=ybeo h.good h.conn ha hv hne
theorem Tr.adj1(h:Tr g)(hu:adj g v u):dP g v u=1:=by
 obtain⟨hv,hu'⟩:=h.good.adj_lt hu;have h1:=h.up hv hu;have h2:=h.self hv;have h3:=h.nonneg hv hu';omega
theorem Tr.ne(h:Tr g)(hu:adj g v u):v≠u:=fun e=>by
 subst e;have:=h.adj1 hu;have:=h.self (h.good.adj_lt hu).1;omega
def rchP(g:Gr)(v u:Nat):Int:=(zK g.ports.length).foldl (fun m w=>if dP g w u<dP g w v then max m (dP g w v)else m) 0
theorem ypx(f:Nat->Int)(p:Nat->Prop)[DecidablePred p]:∀(l:List Nat) (m:Int),m<=l.foldl (fun m w=>if p w then max m (f w)else m) m/\(∀w∈l,p w->f w<=l.foldl (fun m w=>if p w then max m (f w)else m) m)/\(l.foldl (fun m w=>if p w then max m (f w)else m) m=m\/∃w∈l,p w/\f w=l.foldl (fun m w=>if p w then max m (f w)else m) m)
 |[],m=>⟨zZ _,fun w hw=>absurd hw zL,.inl rfl⟩
 | x :: l,m=>by
   obtain⟨h1,h2,h3⟩:=ypx f p l (if p x then max m (f x)else m)
   simp only[List.foldl_cons];refine⟨?_,fun w hw hp=>?_,?_⟩
   ·clear h2 h3
    have:m<=if p x then max m (f x)else m:=by split<;>omega
    omega
   ·rcases List.mem_cons.1 hw with rfl|hw
    ·rw[if_pos hp]at h1 ⊢;omega
    ·exact h2 w hw hp
   ·clear h2
    rcases h3 with h3|⟨w,hw,hp,e⟩
    ·by_cases hp:p x
     ·rw[if_pos hp]at h3 ⊢;rcases Int.le_total (f x) m with q|q
      ·left;rw[h3];omega
      ·right;exact⟨x,zAB,hp,by rw[h3];omega⟩
     ·rw[if_neg hp]at h3 ⊢;exact .inl h3
    ·exact .inr ⟨w,zM _ hw,hp,e⟩
theorem ysv(hw:w<g.ports.length)(h:dP g w u<dP g w v):dP g w v<=rchP g v u :=
 (ypx (fun w=>dP g w v) (fun w=>dP g w u<dP g w v) (zK g.ports.length) 0).2.1 w (List.mem_range.2 hw) h
theorem Tr.rch_pos(h:Tr g)(hu:adj g v u):1<=rchP g v u:=by
 obtain⟨hv,hu'⟩:=h.good.adj_lt hu;have h1:=h.adj1 (h.good.adj_symm hu);have h2:=h.self hu';have:=ysv (g:=g) (w:=u) (u:=u) (v:=v) hu' (by omega)
 omega
theorem Tr.rch_ex(h:Tr g)(hu:adj g v u):∃w,w<g.ports.length/\dP g w u<dP g w v/\dP g w v=rchP g v u:=by
 rcases(ypx (fun w=>dP g w v) (fun w=>dP g w u<dP g w v) (zK g.ports.length) 0).2.2 with e|⟨w,hw,hp,e⟩
 ·have:=h.rch_pos hu;have e:rchP g v u=0:=e;omega
 ·exact⟨w,List.mem_range.1 hw,hp,e⟩
theorem Tr.into(h:Tr g)(hu:adj g v u)(hx:adj g u x)(hne:x≠v)(hw:w<g.ports.length)(hs:dP g w x<dP g w u):dP g w u<dP g w v/\dP g w v=dP g w u+1:=by
 have h1:=h.up hw hx;have h2:=h.up hw (h.good.adj_symm hu);rcases h2 with h2|h2
 ·exact absurd (h.one hw hx (h.good.adj_symm hu) (by omega) h2) hne
 ·omega
theorem Tr.rch_step(h:Tr g)(hu:adj g v u)(hx:adj g u x)(hne:x≠v):1+rchP g u x<=rchP g v u:=by
 obtain⟨w,hw,h1,h2⟩:=h.rch_ex hx;obtain⟨h3,h4⟩:=h.into hu hx hne hw h1;have:=ysv hw h3;omega
theorem Tr.rch_from(h:Tr g)(hu:adj g v u)(h2:2<=rchP g v u):∃x,adj g u x/\x≠v/\rchP g v u=1+rchP g u x:=by
 obtain⟨hv,hu'⟩:=h.good.adj_lt hu;obtain⟨w,hw,h3,h4⟩:=h.rch_ex hu;have h5:=h.up hw (h.good.adj_symm hu)
 have hne:w≠u:=fun e=>by
  subst e;have:=h.self hw;omega
 obtain⟨x,hx,h6⟩:=h.back hw hu' (fun e=>hne e.symm);have hxv:x≠v:=fun e=>by subst e;omega
 refine⟨x,hx,hxv,?_⟩;have a:=h.rch_step hu hx hxv;have b:=ysv (g:=g) (u:=x) (v:=u) hw (by omega)
 omega
def step2(p:Int×Int)(a:Int):Int×Int:=if a>p.1 then(a,p.1)else(p.1,max p.2 a)
def top2(b:Int)(l:List Int):Int×Int:=l.foldl step2 (b,b)
theorem ybfj(b:Int)(l:List Int)(a:Int):top2 b (l++[a])=step2 (top2 b l) a:=by unfold top2;rw[List.foldl_append];rfl
theorem yre(b:Int)(l:List Int):∀k,k<=l.length->b<=(top2 b (l.take k)).2/\(top2 b (l.take k)).2<=(top2 b (l.take k)).1/\∀m,b<m->(m<=(top2 b (l.take k)).1↔1<=(l.take k).countP fun x=>decide (m<=x))/\(m<=(top2 b (l.take k)).2↔2<=(l.take k).countP fun x=>decide (m<=x))
 | 0,_=>by
   refine⟨zZ _,zZ _,fun m hm=>?_⟩;have e:(top2 b (l.take 0))=(b,b):=rfl;rw[e];simp only[List.take_zero,zAI];omega
 | k + 1,hk=>by
   obtain⟨h1,h2,h3⟩:=yre b l k (by omega)
   rw[zS (show k<l.length by omega),ybfj]
   generalize l[k]=a
   have hc:∀m,(l.take k++[a]).countP (fun x=>decide (m<=x))=(l.take k).countP (fun x=>decide (m<=x))+if m<=a then 1 else 0:=fun m=>by
    rw[List.countP_append,zAG,zAI];simp
   generalize top2 b (l.take k)=P at *
   unfold step2;split
   ·refine⟨by simp only;omega,by simp only;omega,fun m hm=>?_⟩
    obtain⟨h4,h5⟩:=h3 m hm;rw[hc];simp only;constructor
    ·split<;>omega
    ·split<;>omega
   ·refine⟨by simp only;omega,by simp only;omega,fun m hm=>?_⟩
    obtain⟨h4,h5⟩:=h3 m hm;rw[hc];simp only;constructor
    ·split<;>omega
    ·split<;>omega
theorem yxk(b:Int)(l:List Int):b<=(top2 b l).2/\(top2 b l).2<=(top2 b l).1/\∀m,b<m->(m<=(top2 b l).1↔1<=l.countP fun x=>decide (m<=x))/\(m<=(top2 b l).2↔2<=l.countP fun x=>decide (m<=x)):=by
 have h:=yre b l l.length (zF _)
 rwa [zAH]at h
theorem ytt{p:Int×Int->Bool}:∀{ls:List (Int×Int)},(ls.map (·.1)).Nodup->(2<=ls.countP p↔∃a∈ls,∃b∈ls,a.1≠b.1/\p a=true/\p b=true)
 |[],_=>by simp
 | l :: ls,hn=>by
   have hn:=List.nodup_cons.1 hn;have ih:=ytt (p:=p) hn.2
   have one:1<=ls.countP p↔∃a∈ls,p a=true:=by
    rw[Nat.one_le_iff_ne_zero,Nat.ne_zero_iff_zero_lt,List.countP_pos_iff]
   have hno:∀a∈ls,l.1≠a.1:=fun a ha e=>hn.1 (List.mem_map.2 ⟨a,ha,e.symm⟩);rw[zAG];constructor
   ·intro h
    by_cases hp:p l=true
    ·rw[if_pos hp]at h;obtain⟨a,ha,hpa⟩:=one.1 (by omega)
     exact⟨l,zAB,a,zM _ ha,hno a ha,hp,hpa⟩
    ·rw[if_neg hp]at h;obtain⟨a,ha,b,hb,q⟩:=ih.1 (by omega)
     exact⟨a,zM _ ha,b,zM _ hb,q⟩
   ·rintro⟨a,ha,b,hb,hab,hpa,hpb⟩;rcases List.mem_cons.1 ha with ea|ha
    ·rcases List.mem_cons.1 hb with eb|hb
     ·exact absurd (by rw[ea,eb]) hab
     ·have:=one.2 ⟨b,hb,hpb⟩;rw[<-ea,if_pos hpa];omega
    ·rcases List.mem_cons.1 hb with eb|hb
     ·have:=one.2 ⟨a,ha,hpa⟩;rw[<-eb,if_pos hpb];omega
     ·have:=ih.2 ⟨a,ha,b,hb,hab,hpa,hpb⟩;omega
theorem ylr(hg:ybf g)(hv:v<g.ports.length):((g.ports.getD v []).map (·.1)).Nodup:=by
 have h:=(hg.2.2.2.2.2.1 ⟨v,hv⟩).2;have e0:g.ports[v]=g.ports.getD v []:=by rw[Sh.getD_at hv]
 have h:((g.ports[v]).map (·.1)).Nodup:=h
 rwa [e0]at h
theorem ybvj(hg:ybf g)(hv:v<g.ports.length){f:Nat->Int}{m:Int}:2<=((g.ports.getD v []).map fun l=>f l.1.toNat).countP (fun x=>decide (m<=x))↔∃a b,adj g v a/\adj g v b/\a≠b/\m<=f a/\m<=f b:=by
 rw[List.countP_map,ytt (ylr hg hv)];constructor
 ·rintro⟨a,ha,b,hb,hne,hpa,hpb⟩;obtain⟨a1,_,a3,_⟩:=ych hg hv ha;obtain⟨b1,_,b3,_⟩:=ych hg hv hb;exact⟨_,_,a3,b3,by omega,of_decide_eq_true hpa,of_decide_eq_true hpb⟩
 ·rintro⟨a,b,ha,hb,hne,hpa,hpb⟩;obtain⟨la,hla,ea⟩:=ypz ha;obtain⟨lb,hlb,eb⟩:=ypz hb;exact⟨la,hla,lb,hlb,fun e=>hne (by rw[<-ea,<-eb,e]),decide_eq_true (by show m<=f la.1.toNat;rw[ea];exact hpa),decide_eq_true (by show m<=f lb.1.toNat;rw[eb];exact hpb)⟩
def htP(g:Gr)(v:Nat):Int:=(top2 0 ((g.ports.getD v []).map fun l=>rchP g v l.1.toNat)).2
theorem ybcj(g:Gr)(v:Nat):0<=htP g v:=(yxk 0 _).1
theorem ybgc(hg:ybf g)(hv:v<g.ports.length){m:Int}(hm:1<=m):m<=htP g v↔∃a b,adj g v a/\adj g v b/\a≠b/\m<=rchP g v a/\m<=rchP g v b:=by
 rw[<-ybvj hg hv (f:=fun u=>rchP g v u)];exact((yxk 0 _).2.2 m (by omega)).2
theorem Tr.thru(h:Tr g)(hw:w<g.ports.length):∀(k:Nat) (v u x:Nat),adj g v u->dP g w u=dP g w v+1->x<g.ports.length->dP g x u<dP g x v->(dP g x u).toNat<k->dP g w x=dP g w u+dP g x u
 |0,v,u,x,_,_,_,_,hk=>by omega
 | k + 1,v,u,x,hu,hwu,hx,hs,hk=>by
   obtain⟨hv,hu'⟩:=h.good.adj_lt hu
   by_cases e:x=u
   ·subst e;rw[h.self hx];omega
   ·obtain⟨y,hy,h1⟩:=h.back hx hu' (fun q=>e q.symm);have hyv:y≠v:=fun q=>by subst q;omega
    have h2:=h.up hw hy
    have hw1:dP g w y=dP g w u+1:=by
     rcases h2 with h2|h2
     ·exact absurd (h.one hw hy (h.good.adj_symm hu) h2 (by omega)) hyv
     ·exact h2
    have:=h.nonneg hx (h.good.adj_lt hy).2;have ih:=Tr.thru h hw k u y x hy hw1 hx (by omega) (by omega)
    omega
theorem Tr.apart(h:Tr g)(ha:adj g v a)(hb:adj g v b)(hne:a≠b)(hw:w<g.ports.length)(hx:x<g.ports.length)(h1:dP g w a<dP g w v)(h2:dP g x b<dP g x v):dP g w x=dP g w v+dP g x v:=by
 have a1:=h.up hw ha;have b1:=h.up hw hb;have b2:=h.up hx hb
 have hwb:dP g w b=dP g w v+1:=by
  rcases b1 with q|q
  ·exact absurd (h.one hw ha hb (by omega) q) hne
  ·exact q
 have:=h.thru hw _ v b x hb hwb hx h2 (zW _);omega
end
end
section
def ybml:Ex:=.bin 35 (eQ 0) (.leaf 17 0)
def ybmq:Ex:=.bin 35 (eQ 0) ybbs
def ybwj:Ex:=.bin 41 (.bin 41 (.bin 35 (.leaf 11 0) (eVar 0)) (.bin 36 (eQ 0) ybbs)) (.bin 36 (eQ 0) (.leaf 17 0))
def ybvu(nm p a b w:ByteArray):ProgT:=⟨nm,[⟨p,3,0,0,0,0⟩],[⟨a,.bin 41 (.bin 35 (eVar 0) ybbs) (.agg 21 ybml),[(0,.agg 23 ybml)]⟩,⟨b,.bin 41 (.bin 35 (eVar 0) ybbs) (.agg 21 ybmq),[(0,.agg 23 ybmq)]⟩,⟨w,.agg 21 ybwj,[(0,ybbs)]⟩]⟩
def pAt(c:Conf)(v:Nat):Int:=(c.getD v []).getD 0 0
def toP(g:Gr)(c:Conf):Ptr:=fun v=>if v<g.ports.length/\0<=pAt c v then some ((g.ports.getD v []).getD (pAt c v).toNat (0,0)).1.toNat else none
def yym(g:Gr)(c:Conf)(v:Nat)(l:Int×Int):Bool:=endP c 0 l==ydo (g.ports.getD l.1.toNat []) v
structure MtC(g:Gr)(c:Conf):Prop where
 len:c.length=g.ids.length
 row:∀v,v<g.ids.length->(c.getD v []).length=1/\(-1<=pAt c v/\pAt c v<(g.ports.getD v []).length)
section
variable {nm np na nb nw:ByteArray}{g:Gr}{c:Conf}{u v s:Nat}
theorem yxw(hg:ybf g)(h:MtC g c)(hv:v<g.ports.length){l:Int×Int}(hl:l∈g.ports.getD v []):yym g c v l=true↔toP g c l.1.toNat=some v:=by
 obtain⟨h1,h2,_⟩:=ych hg hv hl;have hpl:=hg.2.2.1;have hn:=ylr hg h2
 have hb:((v:Int),l.2)∈g.ports.getD l.1.toNat []:=by
  have:=hg.2.2.2.2.2.2 ⟨v,hv⟩ l (by show l∈g.ports[v];rw[<-Sh.getD_at hv (d:=[])];exact hl)
  exact this
 obtain⟨k,e1,e2⟩:=yin hn hb;obtain⟨hk,ek⟩:=List.getElem?_eq_some_iff.1 e2;have hrow:=(h.row l.1.toNat (by omega)).2
 unfold yym toP;rw[beq_iff_eq,e1];have hp:endP c 0 l=pAt c l.1.toNat:=rfl;rw[hp];constructor
 ·intro q;rw[q,if_pos (by omega),zQ,Sh.getD_at hk,ek]
  simp
 ·intro q
  by_cases q0:0<=pAt c l.1.toNat
  ·rw[if_pos ⟨h2,q0⟩]at q;obtain⟨j,hj⟩:∃j:Nat,pAt c l.1.toNat=j:=Int.eq_ofNat_of_zero_le q0;rw[hj,zQ]at q;have hjl:j<(g.ports.getD l.1.toNat []).length:=by omega
   rw[Sh.getD_at hjl]at q;have q:=Option.some.inj q;obtain⟨m1,_⟩:=ych hg h2 (zH hjl);have hj':j<((g.ports.getD l.1.toNat []).map (·.1)).length:=by rw[zAJ];exact hjl
   have hk':k<((g.ports.getD l.1.toNat []).map (·.1)).length:=by rw[zAJ];exact hk
   have:=(List.getElem_inj (h₀:=hj') (h₁:=hk') hn).1 (by rw[zT,zT,ek];simp only;omega)
   rw[hj,this]
  ·rw[if_neg (fun r=>q0 r.2)]at q;cases q
end
end
section
def kcEx:Ex:=.agg 21 (.bin 35 (eQ 0) (eVar 0))
def ybff(nm c r:ByteArray):ProgT:=⟨nm,[⟨c,1,0,0,1,0⟩],[⟨r,kcEx,[(0,.agg 27 (eQ 0))]⟩]⟩
def ybiw(c:Conf)(v:Nat):Int:=(c.getD v []).getD 0 0
def ybym(g:Gr)(c:Conf)(v:Nat):Prop:=∃u,adj g v u/\ybiw c u=ybiw c v
structure KcC(g:Gr)(c:Conf):Prop where
 len:c.length=g.ids.length
 row:∀v,v<g.ids.length->(c.getD v []).length=1/\(0<=ybiw c v/\ybiw c v<=g.ids.length)
section
variable {nm nc nr:ByteArray}{g:Gr}{c:Conf}{u v s:Nat}
def kcR(g:Gr)(r v:Nat)(c:Conf):Prop:=1<=r->¬ybym g c v
structure KcJ(nm nc nr:ByteArray)(g:Gr)(c:Conf)(k:Cnt):Prop where
 inv:RInvC (ybnc (ybff nm nc nr) g) (fun c=>ybsh (ybff nm nc nr) g c=true) (kcR g) c k
 moves:k.moves+popP (yyd (ybff nm nc nr) g c)<=g.ids.length
end
end
section
open Go.RowKit
end
section
open Go.RowKit
end
section
namespace Sh
open Ev Go.RowKit
end Sh
end
section
def ybcz(ls:List (Int×Int))(b:Int):Bool:=ls.any fun l=>decide (l.1=b)
namespace Sh
open Ev Go.RowKit
end Sh
end
section
namespace Sh
open Go Ev
theorem Cm.ct{P:Program}{g:FuncId}{args:List SV}{Q:SV->Own->Prop}{R:SV->Prop}(h:Cm P g [] [] args Q)(hq:∀r o',Q r o'->vok o' 5 r/\R (view o' 5 r)):Ct P g args R:=by
 intro G m us hw hle hargs
 have hc0:Conc m.next G om0 ⟨[],[]⟩ ⟨0,.leaf⟩ (enterM m) :=
  ⟨hw,zF _,zF _,hle,fun β b h=>(by cases h),fun β _=>rfl,fun β γ k z k' z' h=>(by cases h),fun β k z h=>(by cases h),fun t v hv=>(by cases hv)⟩
 obtain⟨v,m1,r,o',F',ω',s0,t2,hrv,l1,l2,_,_,hQ⟩:=h m.next G om0 ⟨0,.leaf⟩ (enterM m) us hc0 hargs
 obtain⟨r3,r4⟩:=hq r o' hQ
 have hs0:ybl P (.call g us m) (.call v m1):=by
  obtain⟨n,b,l⟩:=m;exact ybl.relow s0
 have hm1:m.next<=m1.low:=t2.low
 have hold:∀{i x},m.b.get i=some x->i<m.next:=fun {i x} q=>hw i x q
 have hview:∀H:AM,Le F' H->(∀β k z,ω' β=some (some (k,z))->∀b,m1.b.get k=some b->H k=some b)->RV H om0 (view o' 5 r) v:=fun H h1 h2=>ygb t2 h1 h2 hrv r3
 have hs1:ybl P (.call g us m) (.call v ⟨m1.next,yep m.b m1.b,m1.low⟩):=by
  intro hwm;obtain⟨ext,hcall⟩:=hs0 hwm
  have hget:∀{i x},(yep m.b m1.b).get i=some x->m.b.get i=some x\/m1.b.get i=some x:=fun {i x} q=>by
   rw[ycj]at q;split at q
   ·rename_i y hy;cases q;exact .inl hy
   ·exact .inr q
  refine⟨⟨ext.next,fun i b hq=>?_,fun i b h1 h2 hq=>?_,fun i b hq=>?_⟩,fun φ M w args' hR hs ha hf=>?_⟩
  ·rcases hget hq with q|q
   ·exact .inl ⟨b,q⟩
   ·exact ext.dom i b q
  ·rcases hget hq with q|q
   ·exact q
   ·exact ext.old i b h1 h2 q
  ·rcases hget hq with q|q
   ·exact zAC (hold q) ext.next
   ·exact ext.wf i b q
  ·refine(hcall φ M w args' hR hs ha hf).mono ?_;rintro e' w' ⟨v',rfl,φ',M',hgd,hv⟩;refine⟨v',rfl,φ',M',⟨hgd.le,hgd.out,hgd.rel,fun i b hq=>?_,hgd.frame,hgd.wg⟩,hv⟩;rcases hget hq with q|q
   ·have hi:=hold q;rw[hgd.frame i (fun z=>by omega) (.inr (zAC hi hm1))]
    exact hs i b q
   ·exact hgd.sub i b q
 have hnone:∀{i},m.next<=i->m.b.get i=none:=fun {i} q=>by
  cases hh:m.b.get i with
  |none=>rfl
  |some x=>have:=hold hh;omega
 refine⟨_,_,view o' 5 r,hs1,hm1,fun i b hq=>?_,r4,hview _ (fun i b hq=>?_) (fun β k z hk b hq=>?_)⟩
 ·show(yep m.b m1.b).get i=some b;rw[ycj,hq]
 ·unfold frsh;rcases l2 i b hq with q|q
  ·rw[if_neg (by have:=hold (hle i b q);omega)];exact q
  ·rw[if_pos q];show(yep m.b m1.b).get i=some b;rw[ycj,hnone q];exact t2.sub i b hq
 ·unfold frsh;have:=(t2.apart β k z hk).2.1;rw[if_pos this];show(yep m.b m1.b).get k=some b;rw[ycj,hnone this];exact hq
theorem Cm.weak {P:Program}{g:FuncId}{o:Own}{args:List SV}{Q R:SV->Own->Prop}(h:Cm P g [] o args Q)
 (hq:∀r o',Q r o'->∃r2 o2,Weak [] ⟨[(0,r)],o'⟩ ⟨[(0,r2)],o2⟩/\(cln (live o2) 5 r2=true/\allQ (fun p=>ytg (live o2) p.2) o2)/\R r2 o2):Cm P g [] o args R:=by
 intro lo G ω f m us hc hargs;obtain⟨v,m1,r,o',F',ω',s0,t2,hrv,l1,l2,_,_,hQ⟩:=h lo G ω f m us hc hargs;obtain⟨r2,o2,hw,hcl,hR⟩:=hq r o' hQ
 have t3:Conc lo F' ω' ⟨[(0,r)],o'⟩ ⟨1,tOf [v]⟩ m1:=⟨t2.wf,t2.low,t2.nxt,t2.sub,t2.own,t2.dom,t2.inj,t2.apart,fun t x hx=>by
  unfold look at hx;split at hx
  ·rename_i e
   cases hx
   exact⟨v,by rw[ydb];simp[<-e],hrv⟩
  ·cases hx⟩
 obtain⟨ω2,F2,k1,k2,k3,_⟩:=hw lo F' ω' _ m1 t3;obtain⟨u,q1,q2⟩:=k3.fr 0 r2 rfl
 have e:u=v:=by
  rw[ydb]at q1
  simpa using q1.symm
 subst e
 exact⟨u,m1,r2,o2,F2,ω2,s0,⟨k3.wf,k3.low,k3.nxt,k3.sub,k3.own,k3.dom,k3.inj,k3.apart,fun t x hx=>(by cases hx)⟩,q2,fun x b hx=>k1 x b (l1 x b hx),fun x b hx=>by
  rcases k2 x b hx with z|z
  ·exact l2 x b z
  ·exact .inr z,fun β hβ=>absurd hβ zL,⟨hcl.1,hcl.2,trivial⟩,hR⟩
end Sh
end
section
structure NetR where
 n:Int
 links:List Int
 weights:List Int
 ids:List Int
 apart:Bool
 back:Bool
def NetR.ok(x:NetR):Prop:=Sh.inK .i64 x.n/\(∀k,Sh.inK .i64 (x.links.getD k 0))/\(∀k,Sh.inK .i64 (x.weights.getD k 0))/\(∀k,Sh.inK .i64 (x.ids.getD k 0))
namespace Sh
open Ev Go.RowKit
end Sh
end
section
def ypv(back:Bool)(g:Gr)(a b:Nat)(w:Int):Gr:=if a=b\/ybcz (g.ports.getD a []) b=true then g else yge back g a b w
namespace Sh
open Ev Go.RowKit
theorem ybld(back:Bool)(L:List (Int×Int))(x:Int×Int):(addL back L x).length=L.length+1:=by
 unfold addL;cases back<;>simp
section
variable {x:NetR}{g:Gr}{a b:Nat}{w:Int}
end
end Sh
end
section
theorem ybeq{back:Bool}{g:Gr}{a b:Nat}{w:Int}(ha:a<g.ports.length)(hb:b<g.ports.length){m:Nat}(h:Tre g m):Tre (ypv back g a b w) m:=by
 unfold ypv;split
 ·exact h
 ·exact h.add ha hb
theorem ybgh{back:Bool}{g:Gr}{a b:Nat}{w:Int}(ha:a<g.ports.length)(hb:b<g.ports.length)(hab:a≠b):adj (ypv back g a b w) a b:=by
 unfold ypv;split
 ·rename_i h
  rcases h with h|h
  ·exact absurd h hab
  ·obtain⟨l,hl,e⟩:=List.any_eq_true.1 h;exact yhv.2 ⟨l,hl,of_decide_eq_true e⟩
 ·exact yvb ha hb hab
theorem ywg:∀(l:List Nat) (i x:Nat) (h:i<l.length),(l.set i x).sum+l[i]=l.sum+x
 |a::l,0,x,_=>by simp;omega
 | a::l,i+1,x,h=>by
   have:=ywg l i x (by simpa using h)
   simp only[List.set_cons_succ,List.sum_cons,List.getElem_cons_succ];omega
theorem yzm{back:Bool}{g:Gr}{a b:Nat}{w:Int}(ha:a<g.ports.length)(hb:b<g.ports.length)(hab:a≠b):yhq (yge back g a b w)=yhq g+2:=by
 unfold yhq yge;simp only[List.map_set,Sh.ybld];have h1:=ywg (g.ports.map zAF) a ((g.ports.getD a []).length+1) (by simpa using ha)
 have h2:=ywg ((g.ports.map zAF).set a ((g.ports.getD a []).length+1)) b ((g.ports.getD b []).length+1) (by simpa using hb)
 rw[List.getElem_set_ne hab,zT,<-Sh.getD_at hb (d:=[])]at h2;rw[zT,<-Sh.getD_at ha (d:=[])]at h1;omega
def WtF(x:NetR)(g:Gr):Prop:=∀v l,l∈g.ports.getD v []->∃i,l.2=1+yvz (atP x.weights i) 15
theorem ybje{x:NetR}{back:Bool}{g:Gr}{a b:Nat}{w:Int}(ha:a<g.ports.length)(hb:b<g.ports.length)(hw:∃i,w=1+yvz (atP x.weights i) 15)(h:WtF x g):WtF x (ypv back g a b w):=by
 unfold ypv;split
 ·exact h
 ·intro v l hl;rw[yhe back g w ha hb]at hl;split at hl
  ·rcases yjc.1 hl with rfl|hl
   ·exact hw
   ·exact h _ _ hl
  ·split at hl
   ·rcases yjc.1 hl with rfl|hl
    ·exact hw
    ·exact h _ _ hl
   ·exact h _ _ hl
structure TreeTo(x:NetR)(v:Nat)(g:Gr):Prop where
 tre:Tre g v
 wt:WtF x g
 none_:∀u,v<=u->g.ports.getD u []=[]
 count:yhq g+2=2*v
theorem yot(ids:List Int)(v:Nat):(bare ids).ports.getD v []=[]:=by
 unfold bare;rw[zN,List.getElem?_replicate];split<;>rfl
theorem TreeTo.zero(x:NetR)(ids:List Int):TreeTo x 1 (bare ids):=by
 refine⟨fun v h0 h1=>by omega,fun v l hl=>?_,fun u _=>yot ids u,?_⟩
 ·rw[yot]at hl;exact absurd hl zL
 ·have:yhq (bare ids)=0:=by
   unfold yhq bare;simp
  omega
theorem TreeTo.succ{x:NetR}{v:Nat}{g:Gr}(hg:ybf g)(h:TreeTo x v g)(hv:v<g.ports.length)(h1:1<=v){a:Nat}(ha:a<v){w:Int}(hw:∃i,w=1+yvz (atP x.weights i) 15):TreeTo x (v+1) (ypv x.back g a v w):=by
 have hadj:=ybgh (back:=x.back) (g:=g) (a:=a) (b:=v) (w:=w) (by omega) (by omega) (by omega)
 have hno:¬(a=v\/ybcz (g.ports.getD a []) v=true):=by
  rintro(e|e)
  ·omega
  ·obtain⟨l,hl,e⟩:=List.any_eq_true.1 e;have e:=of_decide_eq_true e;have:adj g v a:=hg.adj_symm (yhv.2 ⟨l,hl,e⟩);obtain⟨l',hl',_⟩:=yhv.1 this;rw[h.none_ v (zF _)]at hl';exact absurd hl' zL
 have e:ypv x.back g a v w=yge x.back g a v w:=by unfold ypv;rw[if_neg hno]
 refine⟨fun u h0 hu=>?_,ybje (by omega) hv hw h.wt,fun u hu=>?_,?_⟩
 ·by_cases q:u=v
  ·subst q;exact⟨a,ha,hadj⟩
  ·exact ybeq (by omega) hv h.tre u h0 (by omega)
 ·rw[e,yhe x.back g w (by omega) hv,if_neg (by omega),if_neg (by omega)]
  exact h.none_ u (by omega)
 ·rw[e,yzm (by omega) hv (by omega)]
  have:=h.count;omega
namespace Sh
open Ev Go.RowKit
end Sh
end
section
namespace Sh
open Ev Go.RowKit
end Sh
end
section
namespace Sh
open Ev Go.RowKit
theorem ybhm(l:List Nat):one1 (usV l)=true:=rfl
theorem ybdi{n:Nat}(l:List Nat):owned (n+1) (usV l)=false:=rfl
theorem ybbk{n:Nat}(l:List Nat):scalar (n+1) (usV l)=false:=rfl
theorem ybkp{n:Nat}(o:Own)(l:List Nat):view o (n+1) (usV l)=usV l:=rfl
theorem ybrc{n:Nat}(o:Own)(l:List Nat):vok o (n+1) (usV l)=True:=rfl
theorem ybof{n:Nat}(h:Nm->Nm)(l:List Nat):ren h (n+1) (usV l)=usV l:=rfl
theorem ybqb{n:Nat}(D:Nm->Bool)(l:List Nat):cln D (n+1) (usV l)=true:=rfl
theorem ybep{n:Nat}(fr:List Nm)(o:Own)(l:List Nat):ycn fr o (n+1) (usV l)=usV l:=rfl
theorem yboh{n:Nat}(fr:List Nm)(o:Own)(l:List Nat):pok fr o (n+1) (usV l)=True:=rfl
theorem ybel(l:List Nat):SV.cells (usV l)=[usV l]:=rfl
theorem yvk(l:List Conf):one1 (yfk l)=true:=rfl
theorem yte{n:Nat}(l:List Conf):owned (n+1) (yfk l)=false:=rfl
theorem ypt{n:Nat}(l:List Conf):scalar (n+1) (yfk l)=false:=rfl
theorem yxb{n:Nat}(o:Own)(l:List Conf):view o (n+1) (yfk l)=yfk l:=rfl
theorem yzn{n:Nat}(o:Own)(l:List Conf):vok o (n+1) (yfk l)=True:=rfl
theorem ybba{n:Nat}(h:Nm->Nm)(l:List Conf):ren h (n+1) (yfk l)=yfk l:=rfl
theorem yze{n:Nat}(D:Nm->Bool)(l:List Conf):cln D (n+1) (yfk l)=true:=rfl
theorem ytw{n:Nat}(fr:List Nm)(o:Own)(l:List Conf):ycn fr o (n+1) (yfk l)=yfk l:=rfl
theorem ybbd{n:Nat}(fr:List Nm)(o:Own)(l:List Conf):pok fr o (n+1) (yfk l)=True:=rfl
theorem ytx(l:List Conf):SV.cells (yfk l)=[yfk l]:=rfl
theorem ybbc(l:List Cnt):one1 (yje l)=true:=rfl
theorem yuy{n:Nat}(l:List Cnt):owned (n+1) (yje l)=false:=rfl
theorem yrf{n:Nat}(l:List Cnt):scalar (n+1) (yje l)=false:=rfl
theorem yzh{n:Nat}(o:Own)(l:List Cnt):view o (n+1) (yje l)=yje l:=rfl
theorem ybgk{n:Nat}(o:Own)(l:List Cnt):vok o (n+1) (yje l)=True:=rfl
theorem ybbq{n:Nat}(h:Nm->Nm)(l:List Cnt):ren h (n+1) (yje l)=yje l:=rfl
theorem ybgi{n:Nat}(D:Nm->Bool)(l:List Cnt):cln D (n+1) (yje l)=true:=rfl
theorem ywx{n:Nat}(fr:List Nm)(o:Own)(l:List Cnt):ycn fr o (n+1) (yje l)=yje l:=rfl
theorem ybfk{n:Nat}(fr:List Nm)(o:Own)(l:List Cnt):pok fr o (n+1) (yje l)=True:=rfl
theorem ywq(l:List Cnt):SV.cells (yje l)=[yje l]:=rfl
theorem yblb(l:List Bool):one1 (blV l)=true:=rfl
theorem ybek{n:Nat}(l:List Bool):owned (n+1) (blV l)=false:=rfl
theorem ybaj{n:Nat}(l:List Bool):scalar (n+1) (blV l)=false:=rfl
theorem ybks{n:Nat}(o:Own)(l:List Bool):view o (n+1) (blV l)=blV l:=rfl
theorem ybqp{n:Nat}(o:Own)(l:List Bool):vok o (n+1) (blV l)=True:=rfl
theorem ybpk{n:Nat}(h:Nm->Nm)(l:List Bool):ren h (n+1) (blV l)=blV l:=rfl
theorem ybno{n:Nat}(D:Nm->Bool)(l:List Bool):cln D (n+1) (blV l)=true:=rfl
theorem ybdl{n:Nat}(fr:List Nm)(o:Own)(l:List Bool):ycn fr o (n+1) (blV l)=blV l:=rfl
theorem ybpy{n:Nat}(fr:List Nm)(o:Own)(l:List Bool):pok fr o (n+1) (blV l)=True:=rfl
theorem ybcm(l:List Bool):SV.cells (blV l)=[blV l]:=rfl
attribute [go_sem] ybhm ybdi ybbk ybkp ybrc ybof ybqb ybep yboh ybel yvk yte ypt yxb yzn ybba yze ytw ybbd ytx ybbc yuy yrf yzh ybgk ybbq ybgi ywx ybfk ywq yblb ybek ybaj ybks ybqp ybpk ybno ybdl ybpy ybcm
theorem Ct.found{P:Program}{g:FuncId}{args:List SV}{α:Type}{R:SV->α->Prop}{V:α->SV}{Q:SV->Prop}(h:Ct P g args fun r=>∃x,R r x)(hs:∀r x,R r x->Sim r (V x))(hq:∀r x,R r x->Q (V x)):Ct P g args Q:=fun G m us h1 h2 h3=>by
 obtain⟨v,m',r,a,b,c,⟨x,hx⟩,e⟩:=h G m us h1 h2 h3;exact⟨v,m',V x,a,b,c,hq r x hx,hs r x hx _ _ _ e⟩
structure RunD(S:Sys)(res:Nat->Nat->Nat)(ws:List Nat)(c:Conf)(n:Nat)(Cs:List Conf)(Ks:List Cnt):Prop where
 cs:(S.runs res ws c).map (·.1)=Cs
 ks:(S.runs res ws c).map (·.2)=Ks
 len:(S.runs res ws c).length=n
 pos:0<n
 le:n<=ws.length+1
theorem RunD.at_{S:Sys}{res:Nat->Nat->Nat}{ws:List Nat}{c:Conf}{n:Nat}{Cs:List Conf}{Ks:List Cnt}(h:RunD S res ws c n Cs Ks){k:Nat}(hk:k<n):(Cs.getD k [],Ks.getD k default)∈S.runs res ws c/\(S.runs res ws c)[k]?=some (Cs.getD k [],Ks.getD k default):=by
 have hk':k<(S.runs res ws c).length:=by rw[h.len];exact hk
 have e:(S.runs res ws c)[k]=(Cs.getD k [],Ks.getD k default):=by
  rw[<-h.cs,<-h.ks];simp[zD,hk']
 exact⟨by rw[<-e];exact zH hk',by rw[<-e];exact zB hk'⟩
theorem RunD.last{S:Sys}{res:Nat->Nat->Nat}{ws:List Nat}{c:Conf}{n:Nat}{Cs:List Conf}{Ks:List Cnt}(h:RunD S res ws c n Cs Ks){k:Nat}(hk:k+1<n):S.en (Cs.getD k [])≠0:=by
 have h1:=(h.at_ (show k<n by omega)).2
 exact Sys.runs_last (by rw[h.len];exact hk) h1
end Sh
end
section
namespace Sh
theorem yxx(S:Sys)(res:Nat->Nat->Nat):∀(ws:List Nat) (c:Conf) (k:Cnt),(S.run res ws c k).length<ws.length->S.en (((c,k)::S.run res ws c k).getD (S.run res ws c k).length default).1=0
 |[],c,k,h=>by simp at h
 | w :: ws,c,k,h=>by
   unfold Sys.run at h ⊢
   by_cases h0:S.en c=0
   ·simp only[if_pos h0];exact h0
   ·simp only[if_neg h0,zU]at h ⊢;exact yxx S res ws _ _ (by omega)
theorem RunD.over{S:Sys}{res:Nat->Nat->Nat}{ws:List Nat}{c:Conf}{n:Nat}{Cs:List Conf}{Ks:List Cnt}(h:RunD S res ws c n Cs Ks):S.en (Cs.getD (n-1) [])=0\/n=ws.length+1:=by
 by_cases q:n=ws.length+1
 ·exact .inr q
 ·left
  have hl:=h.len;have h1:=h.le
  have h2:=yxx S res ws c (yfc (S.en c)) (by
   simp only[Sys.runs,zU]at hl;omega)
  have e:(S.run res ws c (yfc (S.en c))).length=n-1:=by simp only[Sys.runs,zU]at hl;omega
  rw[e]at h2;have h3:=(h.at_ (show n-1<n by have:=h.pos;omega)).2
  have e2:((c,yfc (S.en c))::S.run res ws c (yfc (S.en c))).getD (n-1) default=(Cs.getD (n-1) [],Ks.getD (n-1) default):=by
   rw[zN];have h3:((c,yfc (S.en c))::S.run res ws c (yfc (S.en c)))[n-1]?=some (Cs.getD (n-1) [],Ks.getD (n-1) default):=h3;rw[h3];rfl
  rw[e2]at h2;exact h2
end Sh
end
section
section
variable {nm np na nb nw:ByteArray}{g:Gr}{c:Conf}{u v s:Nat}
theorem yhc(hg:ybf g)(h:MtC g c)(hv:v<g.ids.length):toP g c v=none↔pAt c v = -1:=by
 have:=(h.row v hv).2;have hvp:v<g.ports.length:=by have:=hg.2.2.1;omega
 unfold toP;constructor
 ·intro q
  by_cases q0:0<=pAt c v
  ·rw[if_pos ⟨hvp,q0⟩]at q;cases q
  ·omega
 ·intro q;rw[if_neg (by omega)]
theorem yls(hg:ybf g)(h:MtC g c)(e:toP g c v=some u):adj g v u:=by
 have hpl:=hg.2.2.1;unfold toP at e
 by_cases q0:v<g.ports.length/\0<=pAt c v
 ·have hrow:=(h.row v (by omega)).2
  rw[if_pos q0]at e;have e:=Option.some.inj e;have hk:(pAt c v).toNat<(g.ports.getD v []).length:=by omega
  rw[Sh.getD_at hk]at e;have:=(ych hg (by omega) (zH hk)).2.2.1
  rwa [e]at this
 ·rw[if_neg q0]at e;cases e
end
end
section
section
variable {nm np na nb nw:ByteArray}{g:Gr}{c:Conf}{u v s:Nat}
def ycad(g:Gr)(s:Nat):List Nat:=(zK g.ids.length).filter s.testBit
structure MtJ(nm np na nb nw:ByteArray)(g:Gr)(c:Conf)(k:Cnt):Prop where
 valid:ybsh (ybvu nm np na nb nw) g c=true
 moves:∃I,PtI g (toP g c) I/\2*k.moves+potN g (toP g c) I<=2*g.ports.length+2*yhq g
def ybdu(g:Gr)(c:Conf):Prop:=(∀v u,toP g c v=some u->toP g c u=some v)/\∀v u,adj g v u->toP g c v=none->toP g c u≠none
end
end
section
def mtT(g:Gr)(c:Conf)(v:Nat):Int:=(ypn g c 0).getD v (-1)
section
variable {g:Gr}{c:Conf}{u v:Nat}
theorem ybbx(hg:ybf g)(h:MtC g c)(hv:v<g.ids.length):(∀u,toP g c v=some u->mtT g c v=(u:Int))/\(toP g c v=none->mtT g c v = -1):=by
 have hpl:=hg.2.2.1;have hlt:v<c.length:=by rw[h.len];exact hv
 have hs:c[v]?=some (c.getD v []):=by simp[zD,hlt]
 have hrow:=(h.row v hv).2
 have e:mtT g c v=portOf g v (pAt c v):=by
  unfold mtT;rw[zN,ysk g c 0 v _ hs];rfl
 rw[e];constructor
 ·intro u hu;unfold toP at hu
  by_cases q:v<g.ports.length/\0<=pAt c v
  ·rw[if_pos q]at hu;have hu:=Option.some.inj hu;have hk:(pAt c v).toNat<(g.ports.getD v []).length:=by omega
   have hm:=ych hg q.1 (zH hk);rw[Sh.getD_at hk]at hu;unfold portOf
   first
    |(rw[if_pos (by omega),Sh.getD_at hk];omega)
    |(rw[if_neg (by omega),Sh.getD_at hk];omega)
    |(simp only[Sh.getD_at hk];split<;>omega)
  ·rw[if_neg q]at hu;cases hu
 ·intro hn;rw[(yhc hg h hv).1 hn];rfl
theorem yjm(hg:ybf g)(h:MtC g c)(hv:v<g.ids.length):mtT g c v<0↔toP g c v=none:=by
 obtain⟨h1,h2⟩:=ybbx hg h hv;cases e:toP g c v with
 |none=>rw[h2 e];exact⟨fun _=>rfl,fun _=>by decide⟩
 |some u=>rw[h1 u e];exact⟨fun q=>by omega,fun q=>nomatch q⟩
theorem ygf(hg:ybf g)(h:MtC g c)(hv:v<g.ids.length):mtT g c v=(u:Int)↔toP g c v=some u:=by
 obtain⟨h1,h2⟩:=ybbx hg h hv;cases e:toP g c v with
 |none=>rw[h2 e];exact⟨fun q=>by omega,fun q=>nomatch q⟩
 |some w=>rw[h1 w e];exact⟨fun q=>by rw[show w=u by omega],fun q=>by rw[Option.some.inj q]⟩
theorem ybiq(hg:ybf g)(h:MtC g c):((∀v,v<g.ids.length->0<=mtT g c v->mtT g c (mtT g c v).toNat=(v:Int))/\∀v l,v<g.ids.length->l∈g.ports.getD v []->¬(mtT g c v<0/\mtT g c l.1.toNat<0))↔ybdu g c:=by
 have hpl:=hg.2.2.1
 have inside:∀{v u},toP g c v=some u->v<g.ids.length/\u<g.ids.length:=fun {v u} e=>by
  obtain⟨a,b⟩:=hg.adj_lt (yls hg h e);omega
 constructor
 ·rintro⟨h1,h2⟩;refine⟨fun v u e=>?_,fun v u hu e1 e2=>?_⟩
  ·obtain⟨hv,hu⟩:=inside e;have ev:=(ygf hg h hv).2 e;have:=h1 v hv (by omega)
   rw[ev,zQ]at this;exact(ygf hg h hu).1 this
  ·obtain⟨hv,hul⟩:=hg.adj_lt hu;obtain⟨l,hl,el⟩:=ypz hu;refine h2 v l (by omega) hl ⟨(yjm hg h (by omega)).2 e1,?_⟩
   rw[el];exact(yjm hg h (by omega)).2 e2
 ·rintro⟨h1,h2⟩;refine⟨fun v hv h0=>?_,fun v l hv hl ⟨q1,q2⟩=>?_⟩
  ·cases e:toP g c v with
   |none=>have:=(yjm hg h hv).2 e;omega
   | some u =>
     rw[(ygf hg h hv).2 e,zQ];exact(ygf hg h (inside e).2).2 (h1 v u e)
  ·obtain⟨_,a2,a3,_⟩:=ych hg (by omega) hl
   exact h2 v _ a3 ((yjm hg h hv).1 q1) ((yjm hg h (by omega)).1 q2)
end
end
section
section
variable {g:Gr}{t u v:Nat}
end
end
section
section
variable {g:Gr}{a b u v w x:Nat}
def ybdh(g:Gr)(v:Nat)(e:Int):Prop:=(∀w,w<g.ports.length->dP g w v<=e)/\∃w,w<g.ports.length/\dP g w v=e
theorem Tr.side(h:Tr g)(hu:adj g v u)(hw:w<g.ports.length):(dP g w u<dP g w v/\dP g w v=dP g w u+1)\/(dP g w v<dP g w u/\dP g w u=dP g w v+1):=by
 rcases h.up hw hu with q|q<;>omega
theorem Tr.link(h:Tr g)(hu:adj g v u){ev eu:Int}(he:ybdh g v ev)(he':ybdh g u eu) :
 ev=max (rchP g u v-1) (rchP g v u)/\eu=max (rchP g v u-1) (rchP g u v):=by
 have key:∀{v u:Nat}{ev:Int},adj g v u->ybdh g v ev->ev=max (rchP g u v-1) (rchP g v u):=fun {v u ev} hu he=>by
  obtain⟨hv,hu'⟩:=h.good.adj_lt hu;obtain⟨e1,w,hw,e2⟩:=he
  have hle:ev<=max (rchP g u v-1) (rchP g v u):=by
   rcases h.side hu hw with⟨q,q2⟩|⟨q,q2⟩
   ·have:=ysv hw q;omega
   ·have:=ysv (u:=v) (v:=u) hw q;omega
  obtain⟨x,hx,x1,x2⟩:=h.rch_ex hu;obtain⟨y,hy,y1,y2⟩:=h.rch_ex (h.good.adj_symm hu);have a1:=e1 x hx;have a2:=e1 y hy;rcases h.side hu hy with⟨q,q2⟩|⟨q,q2⟩<;>omega
 exact⟨key hu he,key (h.good.adj_symm hu) he'⟩
theorem Tr.ht_link(h:Tr g)(hu:adj g v u):(rchP g u v-1<=rchP g v u->htP g v=rchP g u v-1)/\(rchP g v u<=rchP g u v-1->rchP g v u<=htP g v):=by
 obtain⟨hv,hu'⟩:=h.good.adj_lt hu;have p1:=h.rch_pos hu;have p2:=h.rch_pos (h.good.adj_symm hu);have from_:2<=rchP g u v->∃x,adj g v x/\x≠u/\rchP g u v=1+rchP g v x:=fun q=>h.rch_from (h.good.adj_symm hu) q;constructor
 ·intro hq;refine Int.le_antisymm ?_ ?_
  ·rcases zAM (htP g v) 1 with q|q
   ·omega
   ·obtain⟨a,b,ha,hb,hne,r1,r2⟩:=(ybgc h.good hv q).1 (zZ _)
    by_cases e:a=u
    ·have:=h.rch_step (h.good.adj_symm hu) hb (fun e2=>hne (by rw[e,e2]))
     omega
    ·have:=h.rch_step (h.good.adj_symm hu) ha e;omega
  ·rcases zAM (rchP g u v) 2 with q|q
   ·have:=ybcj g v;omega
   ·obtain⟨x,hx,hne,e⟩:=from_ q;exact(ybgc h.good hv (by omega)).2 ⟨x,u,hx,hu,hne,by omega,by omega⟩
 ·intro hq;obtain⟨x,hx,hne,e⟩:=from_ (by omega)
  exact(ybgc h.good hv p1).2 ⟨x,u,hx,hu,hne,by omega,by omega⟩
theorem Tr.higher(h:Tr g)(hu:adj g v u){ev eu:Int}(he:ybdh g v ev)(he':ybdh g u eu):(htP g v<htP g u↔eu<ev)/\(htP g v=htP g u↔eu=ev):=by
 obtain⟨l1,l2⟩:=h.link hu he he';obtain⟨a1,a2⟩:=h.ht_link hu;obtain⟨b1,b2⟩:=h.ht_link (h.good.adj_symm hu);rcases Int.lt_trichotomy (rchP g v u) (rchP g u v)with q|q|q
 ·have:=b1 (by omega)
  have:=a2 (by omega)
  omega
 ·have:=a1 (by omega)
  have:=b1 (by omega)
  omega
 ·have:=a1 (by omega)
  have:=b2 (by omega)
  omega
def Peak(g:Gr)(v:Nat):Prop:=∀u,adj g v u->htP g u<=htP g v
end
end
section
section
variable {g:Gr}{t u v a:Nat}
end
end
section
section
variable {g:Gr}{t:Nat}
end
end
section
end
section
namespace Sh
open Go Ev
def ybxk:LO:=[o3 (.box 25 (.tmp 0)) 3 0,o3 (.mv (.const (.slice none 0 0))) 6 0]
def ybuq:LO:=[mv' 1 10 0,ln' 10 11 1,o3 (.mk 3 1 8 [.i .i64 0] (.tmp 11) (.tmp 11)) 12 3,mv' 12 7 7]
def ybvo:LO:=[mv' 1 13 0,ln' 13 14 1,o3 (.mv (ci' 0)) 15 0]
def ybkb:LO:=[bn' .lss 15 14 16 0]
def ybmy:LO:=[mv' 15 17 0,ix' 1 13 15 18 0,ld' false 1 18 19 2,mv' 17 8 7,mv' 19 9 15]
def ybqo:LO:=[mv' 7 20 0,mv' 8 21 0,ix' 1 20 21 22 3,o0 (.store 1 (.tmp 22) (.const (.int .i64 (-1)))) 7]
def ybna:LO:=[mv' 9 23 0,mv' 2 24 0,ix' 1 23 24 25 3,ld' false 1 25 26 7,o3 (.bin .geq (.tmp 26) (ci' 0)) 27 15]
def ybwb:LO:=[mv' 7 28 0,mv' 8 29 0,fa' 1 1 3 30 0,ld' false 1 30 31 4,mv' 8 32 0,ix' 1 31 32 33 28,ld' false 1 33 34 60,mv' 9 35 0,mv' 2 36 0,ix' 1 35 36 37 384,ld' false 1 37 38 896,ix' 2 34 38 39 2044,fa' 0 1 39 40 4092,ld' false 1 40 41 8188,ix' 1 28 29 42 16383,o0 (.store 1 (.tmp 42) (.tmp 41)) 32767]
def ybnj:LO:=[o3 (.bin .add (.tmp 15) (ci' 1)) 43 0,mv' 43 15 1]
def ybss:LO:=[mv' 7 44 0,mv' 44 6 1]
def c67:SC:=(.seq (.reg false ybxk) (.seq (.reg false ybuq) (.seq (.seq (.reg false ybvo) (.block 0 (.loop (.seq (.reg false ybkb) (.seq (.cond (.tmp 16) .skip (.exit 0)) (.seq (.block 1 (.seq (.reg false ybmy) (.seq (.reg false ybqo) (.seq (.reg false ybna) (.cond (.tmp 27) (.reg true ybwb) .skip))))) (.reg false ybnj))))))) (.seq (.reg false ybss) .ret))))
theorem ybxi:Fn 67 c67 [.t 6]:=fn_0 Tryz.func67 (by kernel_rfl) (by kernel_rfl)
end Sh
end
section
namespace Sh
open Ev Go.RowKit
def towP(g:Gr)(c:Conf)(x:Nat):List Int:=mapR c.length fun v=>if (c.getD v []).getD x 0>=0 then((g.ports.getD v []).getD ((c.getD v []).getD x 0).toNat (0,0)).1 else -1
theorem ypq(g:Gr)(c:Conf)(x:Nat):(towP g c x).length=c.length:=ybih _ _
theorem ypl{g:Gr}{c:Conf}{x v:Nat}(hv:v<c.length):(towP g c x).getD v 0=if (c.getD v []).getD x 0>=0 then((g.ports.getD v []).getD ((c.getD v []).getD x 0).toNat (0,0)).1 else -1:=gmR _ _ _ _ hv
set_option maxHeartbeats 1000000 in
theorem ymj{g:Gr}{c:Conf}{x:Nat}(hl:c.length<=g.ports.length)(h1:g.ports.length<=1000)(hx:x<=1000)(hc:∀v,v<c.length->x<(c.getD v []).length/\(c.getD v []).getD x 0<(g.ports.getD v []).length) :
 Returns zO 67 [grV g,ybu c,.i .i64 x] (ybi (towP g c x)):=by
 refine Returns.of (ybxi _ _ ?_);obtain⟨n,hn⟩:∃n,c.length=n:=⟨_,rfl⟩;obtain⟨T,hT⟩:∃T,towP g c x=T:=⟨_,rfl⟩;have hTl:T.length=n:=by rw[<-hT,ypq,hn]
 rw[hn]at hl hc;simp only[c67,ybxk,ybuq,ybvo,grV,ybu,hn,clash,go_sem,zC,zI,zAD,↓reduceIte,reduceCtorEq];refine⟨⟨by omega,by omega⟩,?_⟩
 refine yfm (σ:=Nat) (fun k=>⟨[(15,.i .i64 k),(14,.i .i64 n),(13,.sl 1 n fun v=>[ybi (c.getD v [])]),(2,.i .i64 x),(3,.pt (3,0) 0 0),(7,.os (12,0) 0 n true)],[(12,.one (some ⟨3,false,1,n,fun i=>[.i .i64 (if i<k then T.getD i 0 else 0)]⟩)),(3,.one (some ⟨25,true,2,1,fun _=>[ybi g.ids,yba g.ports]⟩))]⟩) (fun k=>k<=n) (fun k=>n-k) 0 (Nat.zero_le _) ?_ ?_
 ·refine ybd [] [] [] ?_;simp only[Nat.not_lt_zero,allQ,live,yw,Int.natCast_zero,go_sem,zC,↓reduceIte,reduceCtorEq]
 intro k hk
 by_cases hlt:k<n
 ·have t1:decide ((k:Int)<(n:Int))=true:=decide_eq_true (by omega)
  obtain⟨hcx,hcp⟩:=hc k hlt;have hat:=ypl (g:=g) (x:=x) (show k<c.length by omega)
  rw[hT]at hat
  by_cases hp:(c.getD k []).getD x 0>=0
  ·have t2:decide ((c.getD k []).getD x 0>=0)=true:=decide_eq_true hp;rw[if_pos hp]at hat;simp only[ybkb,ybmy,ybqo,ybna,ybwb,ybnj,t1,t2,ybi,yba,ybc,splice,clash,go_sem,zC,zI,zX,↓reduceIte,reduceCtorEq]
   repeat (refine⟨by omega,?_⟩)
   refine⟨ikw (by omega) (by omega),?_⟩
   refine ybj (k+1) (by omega) (by omega) ?_
   refine ybd [] [] [] ?_;simp only[go_sem,allQ,live,yw,yfn,go_sem,zC,↓reduceIte,reduceCtorEq];refine⟨by omega,fun i hi=>?_⟩
   by_cases q:i=k
   ·subst q;simp only[if_pos (zW i),hat];simp only[go_sem,live,yw,go_sem,↓reduceIte,reduceCtorEq]
   ·have e:(if i<k+1 then T.getD i 0 else 0)=if i<k then T.getD i 0 else 0:=by
     by_cases q1:i<k
     ·rw[if_pos q1,if_pos (by omega)]
     ·rw[if_neg q1,if_neg (by omega)]
    simp only[if_neg q,e];simp only[go_sem,live,yw,go_sem,reduceCtorEq]
  ·have t2:decide ((c.getD k []).getD x 0>=0)=false:=decide_eq_false hp;rw[if_neg hp]at hat;simp only[ybkb,ybmy,ybqo,ybna,ybnj,t1,t2,ybi,splice,clash,go_sem,zC,zI,↓reduceIte,reduceCtorEq]
   repeat (refine⟨by omega,?_⟩)
   refine⟨ikw (by omega) (by omega),?_⟩
   refine ybj (k+1) (by omega) (by omega) ?_
   refine ybd [] [] [] ?_;simp only[go_sem,allQ,live,yw,yfn,go_sem,zC,↓reduceIte,reduceCtorEq];refine⟨by omega,fun i hi=>?_⟩
   by_cases q:i=k
   ·subst q;simp only[if_pos (zW i),hat];simp only[go_sem,live,yw,go_sem,↓reduceIte,reduceCtorEq]
   ·have e:(if i<k+1 then T.getD i 0 else 0)=if i<k then T.getD i 0 else 0:=by
     by_cases q1:i<k
     ·rw[if_pos q1,if_pos (by omega)]
     ·rw[if_neg q1,if_neg (by omega)]
    simp only[if_neg q,e];simp only[go_sem,live,yw,go_sem,reduceCtorEq]
 ·obtain rfl:k=n:=by omega
  have t1:decide ((k:Int)<(k:Int))=false:=decide_eq_false (by omega)
  simp only[ybkb,ybss,t1,clash,go_sem,zC,zI,↓reduceIte,reduceCtorEq];rw[hT];unfold ybi;rw[hTl];exact ybxh fun i hi=>by rw[if_pos hi]
end Sh
end
section
namespace Sh
open Go Ev
def ybmf:LO:=[o3 (.alloc 93 1 [.a (.string (ByteArray.mk #[])),.i .i64 0,.i .i64 0,.i .i64 0,.i .i64 0,.i .i64 0]) 2 0]
def yblv:LO:=[mv' 0 3 0,o3 (.build [.a (.string (ByteArray.mk #[])),.i .i64 0,.i .i64 0,.i .i64 0,.i .i64 0,.i .i64 0] [(0,1,(.tmp 3)),(1,1,(ci' 3))]) 4 1,o0 (.store 6 (.tmp 2) (.tmp 4)) 3]
def c108:SC:=(.seq (.reg false ybmf) (.seq (.reg false yblv) .ret))
theorem ybqm:Fn 108 c108 [.c 2 true 6]:=fn_0 Tryz.func108 (by kernel_rfl) (by kernel_rfl)
def ybwz:LO:=[o3 (.mv (.const (.bool false))) 6 0]
def ybtz:LO:=[mv' 0 7 0,mv' 1 8 0,bn' .geq 7 8 9 3,mv' 9 10 7,⟨.mv (.tmp 0),some 11,some (10,true),15⟩,⟨.mv (.tmp 2),some 12,some (10,true),15⟩,⟨.bin .leq (.tmp 11) (.tmp 12),some 13,some (10,true),63⟩,o3 (.pick (.tmp 10) (.tmp 13) (.const (.bool false))) 14 127,mv' 14 6 255]
def c84:SC:=(.seq (.reg false ybwz) (.seq (.reg false ybtz) .ret))
theorem ybrq:Fn 84 c84 [.t 6]:=fn_0 Tryz.func84 (by kernel_rfl) (by kernel_rfl)
end Sh
end
section
namespace Sh
open Ev Go.RowKit
end Sh
end
section
namespace Sh
open Ev Go.RowKit
def clmV(kind:Int)(fair silent:Bool)(rounds moves:Int):List SV:=[.i .i64 kind,.b fair,.b silent,.i .i64 rounds,.i .i64 moves]
theorem ybhb{g:Gr}(hg:ybf g){c:Conf}(hR:yml c){G:List Int}(hG:∀x∈G,I64 x):Returns zO 41 [grV g,ybu c,ybi G] (.b (yku g.ports.length (yct g G) c)):=by
 refine yod ⟨_,_,zAE,rfl⟩ (fun _=>.b) (fun _=>.simple rfl) fun H m us hH hr φ M w us' hRl hs hv=>?_
 obtain⟨u,us2,rfl,h1,h2⟩:∃u us2,us=u::us2/\RV H om0 (grV g) u/\RVL H om0 [ybu c,ybi G] us2:=by
  cases hr with|cons x y=>exact⟨_,_,rfl,x,y⟩
 obtain⟨u2,u3,rfl,h3,h4⟩:=rvl2 h2
 obtain⟨u',us3,rfl,h5,h6⟩:∃u' us3,us'=u'::us3/\VR φ u u'/\VRL φ [u2,u3] us3:=by
  cases hv with|cons x y=>exact⟨_,_,rfl,x,y⟩
 obtain⟨u2',u3',rfl,h7,h8⟩:=yjh h6;exact yjj u' u2' u3' g c G w (ybgf hH h1 h5 hRl hs (ybla hg)) (ybfe hH h3 h7 hRl hs hR) (ints_at hH h4 h8 hRl hs hG) hg
end Sh
end
section
namespace Sh
open Ev Go.RowKit
theorem yxc(nm:ByteArray):Returns zO 108 [.a (.string nm)] (.ag (varC ⟨nm,3,0,0,0,0⟩)):=by
 refine Returns.of (ybqm _ _ ?_);simp only[c108,ybmf,yblv,varC,go_sem,zC,zI,zX,zAD,↓reduceIte,reduceCtorEq];exact Sim.refl _
end Sh
end
section
namespace Sh
open Ev Go.RowKit
theorem yjy{g:Gr}(hI:GrI g):Returns zO 65 [grV g] (.b (ybq g)):=by
 refine yod ⟨_,_,Tryz.func65,rfl⟩ (fun _=>.b) (fun _=>.simple rfl) fun G m us hG hr φ M w us' hRl hs hv=>?_;obtain⟨u,rfl,h1⟩:=rvl1 hr;obtain⟨u',rfl,h2⟩:=yeo hv;exact yfg u' g w (ybgf hG h1 h2 hRl hs hI)
theorem ybfo(x lo hi:Int):Returns zO 84 [.i .i64 x,.i .i64 lo,.i .i64 hi] (.b (decide (x>=lo)&&decide (x<=hi))):=by
 refine Returns.of (ybrq _ _ ?_);simp only[c84,ybwz,ybtz,ybri,go_sem,zC,zI,↓reduceIte,reduceCtorEq]
 by_cases h:x>=lo<;>simp[h]
end Sh
end
section
namespace Sh
open Go Ev Go.RowKit
section
variable {m:Mem}{F:AM}
theorem row_of{z bk p n cp N e zz:Nat}{Tb:Ev.T Value}{L:Nat->List Value}(h1:m.b.get bk=some (.cells Tb N e zz))(h2:0<n)(h3:p+n*z<=N)(h4:∀a,a<n->(L a).length=z)(h5:∀a,a<n->∀j,j<z->Tb.get (p+a*z+j)=(L a)[j]?) :
 rowOf m z (.slice (some ⟨bk,p,none⟩) n cp)=some (ybs L n,[bk]):=by
 have hl:=ycl h4;show(bif zAP n 0 then _ else _)=_;rw[show zAP n 0=false by cases n with|zero=>omega|succ n=>rfl]
 simp only[cond_false];rw[h1];simp only;rw[zJ h3];simp only[cond_true]
 have hg:=yem (T:=Tb) (L:=ybs L n) (o:=p) (fun j hj=>by
  rw[hl]at hj;rcases zV z with hz|hz
  ·subst hz;omega
  ·have hd:=Nat.div_add_mod j z;have hm:=Nat.mod_lt j hz;have hk:j/z<n:=Nat.div_lt_of_lt_mul (by rwa [zAN]at hj)
   have e1:j=j/z*z+j%z:=by rw[zAN];exact hd.symm
   rw[e1,ydw h4 _ _ hk hm,<-Nat.add_assoc];exact h5 _ hk _ hm)
 rw[hl]at hg;rw[hg]
theorem row_zero{u:Value}(h:Z0 u)(z:Nat):rowOf m z u=some ([],[]):=by
 rcases h with rfl|⟨b,o,c,rfl⟩
 ·rfl
 ·rfl
theorem in64{n:Int}(h:I64 n):inI64 n=true:=by
 unfold I64 at h;unfold inI64;split
 ·rename_i k;exact zJ (by simp only[Int.ofNat_eq_natCast]at h;omega)
 ·rename_i k;exact zJ (by omega)
theorem yki{a b:Int}(ha:I64 a)(hb:I64 b):∀{l:List Value}{r:List (Int×Int)},pairsOf l=some r->pairsOf (l++[.int .i64 a,.int .i64 b])=some (r++[(a,b)])
 | [],r,h=>by
   cases h
   show(bif inI64 a&&inI64 b then _ else _)=_;rw[in64 ha,in64 hb];rfl
 | .int .i64 x :: .int .i64 y::l,r,h=>by
   unfold pairsOf at h;split at h
   ·rename_i r' hr
    rw[Bool.cond_eq_ite]at h;split at h
    ·rename_i hc
     cases h
     show(match pairsOf (l++[.int .i64 a,.int .i64 b])with|some r=>bif inI64 x&&inI64 y then some ((x,y)::r)else none|none=>none)=_
     rw[yki ha hb hr];simp only[hc,cond_true];rfl
    ·cases h
   ·cases h
theorem ybbe(hF:Le F m.b.get){ls:List (Int×Int)}{u:Value}(h:RV F om0 (ybc ls) u)(hI:∀l∈ls,I64 l.1/\I64 l.2):linksOf m u=some ls:=by
 unfold linksOf;rcases h.sl_inv with⟨h0,hz⟩|⟨bk,p,cp,T,N,e,zz,L,rfl,g1,g2,g3,g4,g5,g6,g7⟩
 ·rw[row_zero hz];have:ls=[]:=zG h0;subst this;rfl
 ·rcases zV ls.length with h0|h0
  ·have:ls=[]:=zG h0;subst this;rfl
  ·rw[row_of (hF _ _ g1) h0 g3 g4 g5]
   have:∀n,n<=ls.length->pairsOf (ybs L n)=some (ls.take n):=by
    intro n
    induction n with
    |zero=>intro _;rfl
    | succ n ih =>
      intro hn;have hn':n<ls.length:=by omega
      have hl:=g6 n hn'
      have e1:L n=[.int .i64 ls[n].1,.int .i64 ls[n].2]:=by
       have e0:ls.getD n (0,0)=ls[n]:=by simp[zD,hn']
       rw[e0]at hl;obtain⟨x,y,e2,hx,hy⟩:=rvl2 hl;rw[e2,hx.int_inv,hy.int_inv]
      show pairsOf (ybs L n++L n)=_;rw[e1,zS hn'];have:=hI ls[n] (zH hn');exact yki this.1 this.2 (ih (by omega))
   simp only;rw[this _ (zF _),zAH]
theorem ybdv{α β:Type}{f:α->Option β}:∀{l:List α}{r:List β},l.length=r.length->(∀(k:Nat) x y,l[k]?=some x->r[k]?=some y->f x=some y)->mapO f l=some r
 |[],[],_,_=>rfl
 | x::l,y::r,hl,h=>by
   unfold mapO;rw[h 0 x y rfl rfl];simp only;rw[ybdv (by simpa using hl) fun k a b h1 h2=>h (k+1) a b (by simpa using h1) (by simpa using h2)]
 |[],_::_,hl,_=>by simp at hl
 |_::_,[],hl,_=>by simp at hl
theorem ybcp{L:Nat->List Value}{n:Nat}(h:∀a,a<n->(L a).length=1){k:Nat}(hk:k<n):(ybs L n)[k]?=(L k)[0]?:=by
 have:=ydw h k 0 hk (by omega)
 simpa using this
theorem ybaw{ids:SV}{P:List (List (Int×Int))}{u:Value}(h:RV F om0 (.rf [ids,yba P]) u)(hI:∀ls∈P,∀l∈ls,I64 l.1/\I64 l.2) :
 ∃A v us,u = .pointer (some A)/\∀m:Mem,Le F m.b.get->graphOf m A=some ⟨v,us,P⟩:=by
 obtain⟨bk,p,T,N,e,zz,L,rfl,h1,h2,h3,h4,_⟩:=h.rf_inv;cases h4 with
 | cons a0 b0 =>
   cases b0 with
   | cons a1 b1 =>
     rename_i u0 _ u1 _
     cases b1
     have hbox:∀m:Mem,Le F m.b.get->boxPorts m ⟨bk,p,none⟩=some u1:=fun m hF=>by
      unfold boxPorts;simp only;rw[hF _ _ h1];simp only;rw[show Nat.blt (p+1) N=true from zJ (show p+1+1<=N by simp at h2;omega)]
      simp only[cond_true];exact h3 1 (by simp)
     have fin:∀(us:List Value) (ft:List Nat),(∀m:Mem,Le F m.b.get->rowOf m 1 u1=some (us,ft))->us.length=P.length->(∀(k:Nat) x y,us[k]?=some x->P[k]?=some y->RV F om0 (ybc y) x) ->
      ∃A v us,Value.pointer (some ⟨bk,p,none⟩) = .pointer (some A)/\∀m:Mem,Le F m.b.get->graphOf m A=some ⟨v,us,P⟩:=fun us ft hr hl hx=>by
      refine⟨_,u1,us,rfl,fun m hF=>?_⟩;unfold graphOf;rw[hbox m hF];show ob (rowOf m 1 u1) _=_;rw[hr m hF];show ob (mapO (linksOf m) us) _=_;rw[ybdv hl fun k x y q1 q2=>ybbe hF (hx k x y q1 q2) (hI y (List.mem_of_getElem? q2))];rfl
     rcases a1.sl_inv with⟨k0,hz⟩|⟨bk',p',cp,T',N',e',zz',L',rfl,g1,g2,g3,g4,g5,g6,g7⟩
     ·have:P=[]:=zG k0;subst this;exact fin [] [] (fun m _=>row_zero hz 1) rfl (fun k x y q _=>by simp at q)
     ·rcases zV P.length with h0|h0
      ·have:P=[]:=zG h0;subst this;exact fin [] [] (fun m _=>rfl) rfl (fun k x y q _=>by simp at q)
      ·refine fin (ybs L' P.length) [bk'] (fun m hF=>row_of (hF _ _ g1) h0 g3 g4 g5) (by rw[ycl g4,Nat.mul_one]) fun k x y q1 q2=>?_
       have hk:k<P.length:=(List.getElem?_eq_some_iff.1 q2).1;rw[ybcp g4 hk]at q1;have hl:=g6 k hk;have e0:P.getD k []=y:=by simp[zD,q2]
       rw[e0]at hl;obtain⟨v,e1,hv⟩:=rvl1 hl;rw[e1]at q1;cases q1
       exact hv
end
def yck(P:List (List (Int×Int)))(k:Nat):El:=(flatAt 0 P).getD k ⟨0,0,0⟩
def ybmk(P:List (List (Int×Int))):ItS:=⟨(flatAt 0 P).length,fun k=>[.i .i64 (yck P k).v,.ag [.i .i64 (yck P k).a,.i .i64 (yck P k).b]],[],fun _ _=>True,fun _ o=>o⟩
theorem ybkl{ids:SV}{P:List (List (Int×Int))}(hI:∀ls∈P,∀l∈ls,I64 l.1/\I64 l.2):ItC zO 107 [.rf [ids,yba P]] (ybmk P):=by
 intro lo F ω s f m us hc hr _;obtain⟨u,rfl,hu⟩:=rvl1 hr
 have hu0:RV F om0 (.rf [ids,yba P]) u:=by
  obtain⟨bk,p,T,N,e,zz,L,rfl,h1,h2,h3,h4,h5⟩:=hu.rf_inv;exact .rf h1 h2 h3 h4 h5
 obtain⟨A,v,vs,rfl,hg⟩:=ybaw hu0 hI;have el0:∀k,k<(flatAt 0 P).length->(flatAt 0 P)[k]?=some (yck P k):=fun k hk=>by simp[yck,zD,hk]
 refine⟨⟨(flatAt 0 P).length,fun k=>[(yck P k).v0,(yck P k).v1],fun _ m=>graphOf m A=some ⟨v,vs,P⟩,fun _ m=>m,fun _ _ M w M' w'=>M'=M/\w'=w⟩,⟨yqo.1,fun k m hk hw _=>Grow.refl hw,?_,?_⟩,rfl,fun F' ω' s' f' m' k hF _ hc' hk _=>⟨hg m' (hF.trans hc'.sub),fun hk=>⟨.cons .i (.cons (.ag (.cons .i (.cons .i .nil))) .nil),hc'⟩⟩⟩
 ·rintro k φ M w m M' w' hk hw hR hs hp ⟨rfl,rfl⟩;exact Good.refl hR hs
 ·intro l St Stop φ M w cap' hread hgrow hyield h0 hcap;obtain⟨box,rfl,hbox⟩:=yeo hcap;refine CallsIn.mono (yqo.2 l A ⟨v,vs,P⟩ (fun pre φ' M' w'=>φ.le φ'/\(∃post,flatAt 0 P=pre++post)/\St pre.length φ' M' w') Stop φ M w box ?_ ?_ ?_ ⟨φ.le_refl,⟨_,rfl⟩,h0⟩ hbox) ?_
  ·rintro pre φ' M' w' ⟨_,_,hst⟩;exact(hread _ _ _ _ hst).2
  ·rintro pre φ' M' w' w'' ⟨h1,h2,hst⟩ hb;exact⟨h1,h2,hgrow _ _ _ _ _ hst hb⟩
  ·rintro pre x post φ' M' w' ⟨h1,_,hst⟩ hfl;have hfl:flatAt 0 P=pre++x::post:=hfl;have hk:pre.length<(flatAt 0 P).length:=by rw[hfl];simp
   have ex:yck P pre.length=x:=by
    have:=el0 _ hk;rw[hfl,List.getElem?_append_right (zF _)]at this
    simpa using this.symm
   obtain⟨fn,tmps,asg,bd,hy1,hy2⟩:=hyield pre.length φ' M' w' [x.v0,x.v1] hk hst (by
    show VRL φ' [(yck P pre.length).v0,(yck P pre.length).v1] _;rw[ex];exact .cons (.simple rfl) (.cons (VR.atomA (v:=x.v1) rfl) .nil))
   refine⟨fn,tmps,asg,bd,hy1,hy2.mono ?_⟩
   ·rintro e w'' (⟨he,φ'',M'',h3,_,h4⟩|h)
    ·refine .inl ⟨he,φ'',M'',h3,Phi.le_trans h1 h3,⟨post,by rw[hfl];simp⟩,?_⟩
     rw[List.length_append];exact h4 M'' w'' ⟨rfl,rfl⟩
    ·exact .inr h
  ·rintro e w' ⟨h1,(⟨φ',M',_,_,hst⟩|h)⟩
   ·exact⟨h1,.inl ⟨φ',M',hst⟩⟩
   ·exact⟨h1,.inr h⟩
end Sh
end
section
namespace Sh
open Go Ev
def ybvw:LO:=[o3 (.box 25 (.tmp 0)) 1 0,o3 (.mv (.const (.nilFunc))) 2 0]
def ybsz:LO:=[o3 (.mkfn 107 [] [(.tmp 1)]) 3 0,mv' 3 2 1]
def c68:SC:=(.seq (.reg false ybvw) (.seq (.reg false ybsz) .ret))
theorem ybrw:Fn 68 c68 [.t 2]:=fn_0 Tryz.func68 (by kernel_rfl) (by kernel_rfl)
end Sh
end
section
open Ev
theorem yts:∀(ps:List (List (Int×Int))) (v:Nat) (x:El),x∈flatAt v ps->v<=x.v/\x.v<v+ps.length/\(x.a,x.b)∈ps.getD (x.v-v) []
 |[],_,_,h=>absurd h zL
 | ls::l,v,x,h=>by
   rcases List.mem_append.1 h with h|h
   ·obtain⟨y,hy,rfl⟩:=List.mem_map.1 h;refine⟨zF _,by simp,?_⟩
    simp only[Nat.sub_self,List.getD_cons_zero];exact hy
   ·obtain⟨h1,h2,h3⟩:=yts l (v+1) x h;refine⟨by omega,by simp only[zU];omega,?_⟩
    have e:x.v-v=(x.v-(v+1))+1:=by omega
    rw[e,List.getD_cons_succ];exact h3
theorem yth{g:Gr}(hg:ybf g){k:Nat}(hk:k<(flatAt 0 g.ports).length):(Sh.yck g.ports k).v<g.ports.length/\((Sh.yck g.ports k).a,(Sh.yck g.ports k).b)∈g.ports.getD (Sh.yck g.ports k).v []:=by
 have hm:Sh.yck g.ports k∈flatAt 0 g.ports:=by unfold Sh.yck;rw[Sh.getD_at hk];exact zH hk
 obtain⟨_,h2,h3⟩:=yts _ _ _ hm;exact⟨by omega,by simpa using h3⟩
theorem ybfz{g:Gr}(hg:ybf g):∀ls∈g.ports,∀l∈ls,I64 l.1/\I64 l.2:=fun ls hls l hl=>by
 obtain⟨v,hv,e⟩:=List.getElem_of_mem hls;have h24:=hg.2.1;have:g.ports.getD v []=ls:=by simp[zD,hv,e]
 obtain⟨h1,h2,_,h4,h5⟩:=ych hg hv (by rw[this];exact hl)
 exact⟨Sh.ygu (by omega),Sh.ygu (by omega)⟩
end
section
namespace Sh
open Ev Go.RowKit
theorem ybbw{g:Gr}:Returns zO 68 [grV g] (.fn 107 [] [.rf [ybi g.ids,yba g.ports]]):=by
 refine Returns.of (ybrw _ _ ?_);simp only[c68,ybvw,ybsz,grV,clash,go_sem,zC,zI,zX,zAD,↓reduceIte,reduceCtorEq];exact Sim.refl _
end Sh
end
section
section
variable {nm nc nr:ByteArray}{g:Gr}{c:Conf}{u v s:Nat}
end
end
section
namespace Sh
open Go Ev
def c4_0:LO:=[o3 (.box 35 (.tmp 0)) 3 0,o3 (.mv (.const (.bool false))) 6 0]
def c4_1:LO:=[ld' true 6 3 18 0,o3 (.call (.func 16) [(.tmp 18),(ci' 9)]) 19 1,o3 (.alloc 25 1 [.a (.slice none 0 0),.a (.slice none 0 0)]) 7 0,o0 (.store 2 (.tmp 7) (.tmp 19)) 7]
def c4_2:LO:=[fa' 1 1 7 20 0,ld' false 1 20 21 1,ln' 21 22 3,mv' 22 8 7]
def c4_3:LO:=[mv' 1 23 0,mv' 8 24 0,o3 (.bin .add (.tmp 24) (ci' 1)) 25 2,cl' 17 [23,25] 26 7,mv' 26 1 15]
def c4_4:LO:=[o3 (.bslice 22 1 0 [] []) 27 0,o3 (.mv (ci' 0)) 9 0,mv' 27 10 3]
def c4_5:LO:=[o3 (.mv (ci' 0)) 11 0]
def c4_6:LO:=[mv' 11 28 0,mv' 8 29 0,bn' .lss 28 29 30 3]
def c4_8:LO:=[mv' 9 33 0,fa' 1 1 7 34 0,ld' false 1 34 35 2,mv' 11 36 0,ix' 1 35 36 37 14,ld' false 1 37 38 30,ln' 38 39 62,o3 (.mm true (.tmp 33) (.tmp 39)) 40 127,mv' 40 9 255]
def c4_9:LO:=[mv' 10 41 0,mv' 1 42 0,o3 (.bslice 3 1 1 [.i .i64 0] [(0,1,(.tmp 42))]) 43 2,o3 (.bslice 22 1 1 [.a (.slice none 0 0)] [(0,1,(.tmp 43))]) 44 6,o3 (.app 22 1 24 (.tmp 41) (.tmp 44)) 45 15,mv' 45 10 31]
def c4_7:LO:=[mv' 11 31 0,o3 (.bin .add (.tmp 31) (ci' 1)) 32 1,mv' 32 11 3]
def ybzh:LO:=[cl' 19 [] 46 0,cl' 18 [46] 47 1,o3 (.alloc 42 1 [.a (.string (ByteArray.mk #[])),.a (.slice none 0 0),.a (.slice none 0 0)]) 12 0,o0 (.store 3 (.tmp 12) (.tmp 47)) 7]
def ybzd:LO:=[o3 (.mv (ci' 0)) 13 0]
def ybyh:LO:=[mv' 13 48 0,mv' 2 49 0,ln' 49 50 2,mv' 8 51 0,o3 (.wadd (.tmp 50) (.tmp 51)) 52 14,bn' .lss 48 52 53 31,mv' 53 54 63,⟨.mv (.tmp 13),some 55,some (54,true),127⟩,⟨.bin .lss (.tmp 55) (ci' 40),some 56,some (54,true),255⟩,o3 (.pick (.tmp 54) (.tmp 56) (.const (.bool false))) 57 511]
def ybzn:LO:=[mv' 13 60 0,mv' 2 61 0,ln' 61 62 2,bn' .sub 60 62 63 7,mv' 8 64 0,cl' 17 [63,64] 65 31,mv' 65 14 63]
def ybyn:LO:=[mv' 13 66 0,mv' 2 67 0,ln' 67 68 2,bn' .lss 66 68 69 7]
def ybya:LO:=[mv' 2 70 0,mv' 13 71 0,ix' 1 70 71 72 3,ld' false 1 72 73 7,mv' 8 74 0,cl' 17 [73,74] 75 31,mv' 75 14 63]
def ybzg:LO:=[ld' true 2 7 76 0,mv' 10 77 0,cl' 21 [76,77] 78 3,mv' 14 79 0,cl' 20 [78,79] 80 15]
def ybyc:LO:=[ld' true 3 12 82 0,ld' true 2 7 83 0,mv' 10 84 0,mv' 14 85 0,o3 (.conv .u64 (.tmp 85)) 86 8,o3 (.bin .shl (.const (.int .u32 1)) (.tmp 86)) 87 24,cl' 22 [82,83,84,87] 88 63,mv' 88 81 127,xt' 81 0 89 255,xt' 81 1 90 255,mv' 89 15 511,mv' 90 16 2047]
def ybzo:LO:=[mv' 16 91 0,o3 (.bin .neq (.tmp 91) (ci' 0)) 92 1,mv' 92 93 3,⟨.mv (.tmp 15),some 94,some (93,false),7⟩,⟨.len (.tmp 94),some 95,some (93,false),15⟩,⟨.mv (.tmp 8),some 96,some (93,false),7⟩,⟨.bin .neq (.tmp 95) (.tmp 96),some 97,some (93,false),63⟩,o3 (.pick (.tmp 93) (.const (.bool true)) (.tmp 97)) 98 127]
def ybyk:LO:=[o3 (.mv (.const (.bool false))) 6 0]
def ybxq:LO:=[mv' 15 99 0,mv' 99 10 1]
def ybzu:LO:=[mv' 13 58 0,o3 (.bin .add (.tmp 58) (ci' 1)) 59 1,mv' 59 13 3]
def ycab:LO:=[o3 (.mv (ci' 0)) 17 0]
def ybyf:LO:=[mv' 17 100 0,mv' 8 101 0,bn' .lss 100 101 102 3]
def ybxs:LO:=[mv' 10 105 0,mv' 17 106 0,ix' 1 105 106 107 3,ld' false 1 107 108 7,ln' 108 109 15,o3 (.bin .neq (.tmp 109) (ci' 1)) 110 31,mv' 110 111 63,⟨.mv (.tmp 10),some 112,some (111,false),127⟩,⟨.mv (.tmp 17),some 113,some (111,false),127⟩,⟨.idx 1 (.tmp 112) (.tmp 113),some 114,some (111,false),511⟩,⟨.load false 1 (.tmp 114),some 115,some (111,false),1023⟩,⟨.idx 1 (.tmp 115) (ci' 0),some 116,some (111,false),2047⟩,⟨.load false 1 (.tmp 116),some 117,some (111,false),4095⟩,⟨.mv (.tmp 1),some 118,some (111,false),127⟩,⟨.bin .neq (.tmp 117) (.tmp 118),some 119,some (111,false),16383⟩,⟨.mv (.tmp 119),some 120,some (111,false),32767⟩,⟨.mv (.tmp 10),some 121,some (120,true),65535⟩,⟨.mv (.tmp 17),some 122,some (120,true),65535⟩,⟨.idx 1 (.tmp 121) (.tmp 122),some 123,some (120,true),262143⟩,⟨.load false 1 (.tmp 123),some 124,some (120,true),524287⟩,⟨.idx 1 (.tmp 124) (ci' 0),some 125,some (120,true),1048575⟩,⟨.load false 1 (.tmp 125),some 126,some (120,true),2097151⟩,⟨.mv (.tmp 9),some 127,some (120,true),65535⟩,⟨.bin .gtr (.tmp 126) (.tmp 127),some 128,some (120,true),8388607⟩,⟨.pick (.tmp 120) (.tmp 128) (.const (.bool false)),some 129,some (111,false),16777215⟩,o3 (.pick (.tmp 111) (.const (.bool true)) (.tmp 129)) 130 33554431]
def ybze:LO:=[o3 (.mv (.const (.bool false))) 6 0]
def ybyt:LO:=[mv' 17 103 0,o3 (.bin .add (.tmp 103) (ci' 1)) 104 1,mv' 104 17 3]
def ybyv:LO:=[cl' 23 [] 131 0,mv' 131 132 1,⟨.mv (.tmp 2),some 133,some (132,true),3⟩,⟨.len (.tmp 133),some 134,some (132,true),7⟩,⟨.bin .gtr (.tmp 134) (ci' 30),some 135,some (132,true),15⟩,⟨.mv (.tmp 135),some 136,some (132,true),31⟩,⟨.load true 2 (.tmp 7),some 137,some (136,false),63⟩,⟨.mv (.tmp 10),some 138,some (136,false),63⟩,⟨.call (.func 24) [(.tmp 137),(.tmp 138)],some 139,some (136,false),255⟩,⟨.pick (.tmp 136) (.const (.bool true)) (.tmp 139),some 140,some (132,true),511⟩,o3 (.pick (.tmp 132) (.tmp 140) (.const (.bool false))) 141 1023,mv' 141 6 2047]
def c4:SC:=(.seq (.reg false c4_0) (.seq (.reg false c4_1) (.seq (.reg false c4_2) (.seq (.reg false c4_3) (.seq (.reg false c4_4) (.seq (.seq (.reg false c4_5) (.block 0 (.loop (.seq (.seq (.reg false c4_6) (.cond (.tmp 30) .skip (.exit 0))) (.seq (.block 1 (.seq (.reg false c4_8) (.reg false c4_9))) (.reg false c4_7)))))) (.seq (.reg false ybzh) (.seq (.seq (.reg false ybzd) (.block 2 (.loop (.seq (.seq (.reg false ybyh) (.cond (.tmp 57) .skip (.exit 2))) (.seq (.block 3 (.seq (.reg false ybzn) (.seq (.seq (.reg false ybyn) (.cond (.tmp 69) (.reg false ybya) .skip)) (.seq (.reg false ybzg) (.cond (.tmp 80) (.seq (.reg false ybyc) (.seq (.seq (.reg false ybzo) (.cond (.tmp 98) (.seq (.reg false ybyk) .ret) .skip)) (.reg false ybxq))) .skip))))) (.reg false ybzu)))))) (.seq (.seq (.reg false ycab) (.block 4 (.loop (.seq (.seq (.reg false ybyf) (.cond (.tmp 102) .skip (.exit 4))) (.seq (.block 5 (.seq (.reg false ybxs) (.cond (.tmp 130) (.seq (.reg false ybze) .ret) .skip))) (.reg false ybyt)))))) (.seq (.reg false ybyv) .ret))))))))))
end Sh
end
section
theorem ybik{ps:List (List (Int×Int))}{v:Nat}{l:Int×Int}(hv:v<ps.length)(hl:l∈ps.getD v []):(⟨v,l.1,l.2⟩:Ev.El)∈Ev.flatAt 0 ps:=by
 have key:∀(ps:List (List (Int×Int))) (b v:Nat),v<ps.length->l∈ps.getD v []->(⟨b+v,l.1,l.2⟩:Ev.El)∈Ev.flatAt b ps:=by
  intro ps
  induction ps with
  |nil=>intro b v h;simp at h
  | cons x ps ih =>
    intro b v h hl;show _∈(x.map fun y=>(⟨b,y.1,y.2⟩:Ev.El))++Ev.flatAt (b+1) ps;rw[List.mem_append];cases v with
    |zero=>exact .inl (List.mem_map.2 ⟨l,hl,rfl⟩)
    | succ v =>
      right
      have:=ih (b+1) v (by simpa using h) hl
      rwa [show b+1+v=b+(v+1)by omega]at this
 have:=key ps 0 v hv hl
 rwa [Nat.zero_add]at this
namespace Sh
open Ev Go.RowKit
end Sh
end
section
section
variable {nm nh nr:ByteArray}{g:Gr}{c:Conf}{v:Nat}
structure CnC(g:Gr)(c:Conf):Prop where
 len:c.length=g.ids.length
 row:∀v,v<g.ids.length->(c.getD v []).length=1/\(0<=(c.getD v []).getD 0 0/\(c.getD v []).getD 0 0<=g.ids.length)
end
end
section
def hAt(c:Conf)(v:Nat):Int:=(c.getD v []).getD 0 0
def lAt(c:Conf)(v:Nat):Int:=(c.getD v []).getD 1 0
section
variable {nm nh nl nf nd nt ni:ByteArray}{g:Gr}{c:Conf}{u v w:Nat}
structure ElC(g:Gr)(c:Conf):Prop where
 len:c.length=g.ids.length
 row:∀v,v<g.ids.length->(c.getD v []).length=2/\(0<=hAt c v/\hAt c v<=g.ids.length)/\(lAt c v=0\/lAt c v=1)
open Classical in
end
end
section
structure Stab(g:Gr)(c:Conf)(v:Nat):Prop where
 low:¬Peak g v->lAt c v=0
 one:Peak g v->(∀u,adj g v u->htP g u<htP g v)->lAt c v=1
 two:Peak g v->∀u,adj g v u->htP g u=htP g v->lAt c u≠lAt c v
section
variable {nm nh nl nf nd nt ni:ByteArray}{g:Gr}{c:Conf}{u v w s:Nat}
end
end
section
section
variable {g:Gr}{u v:Nat}
end
end
section
section
variable {g:Gr}{a b v:Nat}
end
end
section
namespace Sh
open Go Ev
def ybpw:LO:=[o3 (.box 25 (.tmp 0)) 1 0,o3 (.mv (ci' 0)) 2 0,o3 (.mv (ci' 0)) 3 2]
def ybnz:LO:=[ld' true 2 1 6 0,cl' 64 [6] 7 1,o3 (.un .not (.tmp 7)) 8 3]
def ybwx:LO:=[o3 (.mv (ci' 0)) 2 0,o3 (.mv (ci' 0)) 3 1]
def ybsl:LO:=[fa' 1 1 1 9 0,ld' false 1 9 10 1,ln' 10 11 3,o3 (.mv (ci' 0)) 12 0]
def ybmu:LO:=[bn' .lss 12 11 13 0]
def ybtq:LO:=[ix' 1 10 12 14 0,ld' false 1 14 15 1,mv' 15 5 3]
def ybrl:LO:=[mv' 3 16 0,mv' 5 17 0,ln' 17 18 2,bn' .add 16 18 19 7,mv' 19 3 15]
def ybsa:LO:=[o3 (.bin .add (.tmp 12) (ci' 1)) 20 0,mv' 20 12 1]
def ybvv:LO:=[fa' 0 1 1 21 0,ld' false 1 21 22 1,ln' 22 23 3,mv' 3 24 0,o3 (.bin .quo (.tmp 24) (ci' 2)) 25 8,mv' 23 2 7,mv' 25 3 63]
def c71:SC:=(.seq (.reg false ybpw) (.seq (.seq (.reg false ybnz) (.cond (.tmp 8) (.seq (.reg false ybwx) .ret) .skip)) (.seq (.seq (.reg false ybsl) (.block 0 (.loop (.seq (.reg false ybmu) (.seq (.cond (.tmp 13) .skip (.exit 0)) (.seq (.block 1 (.seq (.reg false ybtq) (.reg false ybrl))) (.reg false ybsa))))))) (.seq (.reg false ybvv) .ret))))
theorem ybte:Fn 71 c71 [.t 2,.t 3]:=fn_0 Tryz.func71 (by kernel_rfl) (by kernel_rfl)
def ybqn:LO:=[o3 (.box 25 (.tmp 0)) 1 0,o3 (.mv (ci' 0)) 2 0,o3 (.mv (ci' 0)) 3 2]
def ybpe:LO:=[ld' true 2 1 6 0,cl' 65 [6] 7 1,o3 (.un .not (.tmp 7)) 8 3]
def ybtg:LO:=[o3 (.mv (ci' 0)) 2 0,o3 (.mv (ci' 0)) 3 1]
def ybsg:LO:=[o3 (.mv (ci' 0)) 4 0]
def ybwr:LO:=[o3 (.mv (ci' 0)) 5 0]
def ybmw:LO:=[mv' 5 9 0,fa' 1 1 1 10 0,ld' false 1 10 11 2,ln' 11 12 6,bn' .lss 9 12 13 15]
def ybuy:LO:=[mv' 4 16 0,fa' 1 1 1 17 0,ld' false 1 17 18 2,mv' 5 19 0,ix' 1 18 19 20 14,ld' false 1 20 21 30,ln' 21 22 62,bn' .add 16 22 23 127,mv' 23 4 255]
def ybwy:LO:=[mv' 5 14 0,o3 (.bin .add (.tmp 14) (ci' 1)) 15 1,mv' 15 5 3]
def ybve:LO:=[fa' 1 1 1 24 0,ld' false 1 24 25 1,ln' 25 26 3,mv' 4 27 0,o3 (.bin .quo (.tmp 27) (ci' 2)) 28 8,mv' 26 2 7,mv' 28 3 63]
def c72:SC:=(.seq (.reg false ybqn) (.seq (.seq (.reg false ybpe) (.cond (.tmp 8) (.seq (.reg false ybtg) .ret) .skip)) (.seq (.reg false ybsg) (.seq (.seq (.reg false ybwr) (.block 0 (.loop (.seq (.seq (.reg false ybmw) (.cond (.tmp 13) .skip (.exit 0))) (.seq (.block 1 (.reg false ybuy)) (.reg false ybwy)))))) (.seq (.reg false ybve) .ret)))))
theorem ybtl:Fn 72 c72 [.t 2,.t 3]:=fn_0 Tryz.func72 (by kernel_rfl) (by kernel_rfl)
end Sh
end
end Go.Proofs.YtiejahgklcjhkaaGreat
