/- Lemmas, joined: RefB Small PlainH LdP SgA SgB GraphA GraphC SgD ScLd PlainI Pm SgN GraphD LdB BfsA LdC. -/
import Derived.Test.YtiejahgklcjhkaaGreatDoorPkC11
import Derived.Test.YtiejahgklcjhkaaGreatDoorPkC8
set_option linter.unusedSimpArgs false
set_option linter.unusedVariables false
namespace Go.Proofs.YtiejahgklcjhkaaGreatDoor
open Go.RowKit

set_option maxHeartbeats 2000000 in
theorem ygh(gv:Value)(g:Gr)(w:World)(hg:GrAt w gv g) :
  Calls Tryz.prog 85 #[gv] w fun e w'=>e = .returned (.bool (ybx g))/\Below w.heap.size w w':=by
 have hg0:=Lib.hid hg;obtain⟨i,p,rfl,hi,hp⟩:=hg;obtain⟨A,c,rfl,hA1,hA2⟩:=ybg hi;obtain⟨A2,c2,rfl,hB1,hB2⟩:=ybg hp;have Hi:=Lib.hid hi;have Hp:=Lib.hid hp
 clear hi hp
 by_cases n1:1<=g.ports.length/\g.ports.length<=24
 ·obtain⟨n1a,n1b⟩:=n1
  by_cases n2:g.ids.length=g.ports.length
  ·have n2':((g.ids.length:Int) != (g.ports.length:Int))=false:=by simp[n2]
   have Hn2:=Lib.hid n2;have n2a:g.ids.length<=g.ports.length:=by omega
   have n2b:g.ports.length<=g.ids.length:=by omega
   clear n2
   go_enter Tryz.func85,Tryz.ntmps85
   go_wp2_with (first | (go_at_call 134;refine(In_t _ _ _ _ (by omega) (by omega)).mono ?_;rintro e w' ⟨rfl,rfl⟩))
   go_loopw [4] (fun t wr=>∃ k:Nat,k<=g.ports.length/\t = .int .i64 k/\Hid (Below (w.heap.size+1) (w.alloc (.cells #[.slice A g.ids.length c,.slice A2 g.ports.length c2] 27)) wr)/\Hid (∀ v,v<k->V2 g v)) (fun t _=>g.ports.length - (intOf t).toNat)
   case atStart=>exact⟨0,by omega,rfl,Lib.hid (Below.refl _ _),Lib.hid (fun v hv=>absurd hv (by omega))⟩
   case round =>
    obtain⟨k,hk,rfl,hbel,hv2⟩:=hrel;obtain⟨q0,q1,hbw,hsz⟩:=box2 hbel.out;have Hbw:=Lib.hid hbw
    clear hbw
    by_cases hlt:k<g.ports.length
    ·obtain⟨b,off,rfl,hb,hcid,hr⟩:=yev (Hi.out.below Stable.int Hbw.out) (show k<g.ids.length by omega)
     obtain⟨b2,off2,lv,rfl,hb2,hcl,hls⟩:=yek (Hp.out.below (Stable.sl Stable.link) Hbw.out) (List.getElem?_eq_getElem hlt);obtain⟨A3,c3,rfl,hl1,hl2⟩:=ybg hls;have Hls:=Lib.hid hls
     clear hls
     obtain⟨x,hx⟩:∃ x,g.ids[k]? = some x:=⟨_,List.getElem?_eq_getElem (by omega)⟩
     have hxe:g.ids[k]=x:=by have:=List.getElem?_eq_getElem (l:=g.ids) (i:=k) (by omega);rw[hx]at this;exact(Option.some.inj this).symm
     simp only[hxe]at hcid hr;obtain⟨ls,hle⟩:∃ ls,g.ports[k]=ls:=⟨_,rfl⟩;have hlp:g.ports[k]? = some ls:=by rw[List.getElem?_eq_getElem hlt,hle]
     simp only[hle]at hcl hl1 Hls;have Hx:=Lib.hid hx;have Hlp:=Lib.hid hlp
     clear hx hxe hle hlp
     obtain⟨hr1,hr2⟩:=hr;have Hbad:=Lib.hid (fun h=>yrp (g:=g) (v:=k) hlt h)
     by_cases c1:0<=x/\x<=255
     ·obtain⟨c1a,c1b⟩:=c1
      by_cases c2:ls.length<g.ports.length
      ·have c2d:decide (g.ports.length<=ls.length)=false:=by simp;omega
       by_cases c3:yls ls (k:Int) (g.ports.length:Int)=true
       ·go_wp2_with (first | (go_at_call 134;refine(In_t _ _ _ _ (by omega) (by omega)).mono ?_;rintro e w' ⟨rfl,rfl⟩) | (go_at_call 135;refine(ygl _ ls _ _ _ Hls.out ⟨by omega,by omega⟩).mono ?_;rintro e w' ⟨rfl,m,rfl⟩))
        obtain⟨w2,hw2⟩:∃ w2,w2=wr.drewN m:=⟨_,rfl⟩;rw[<- hw2];have Hb2:=Lib.hid (ytf hbel.out hw2)
        clear hw2
        go_loopw [5] (fun t wq=>∃ j m2:Nat,j<=k/\t = .int .i64 j/\wq=w2.drewN m2/\Hid (∀ u y,u<j->g.ids[u]? = some y->y ≠ x)) (fun t _=>k - (intOf t).toNat)
        case atStart=>exact⟨0,0,by omega,rfl,rfl,Lib.hid (fun u y hu=>absurd hu (by omega))⟩
        case round =>
         obtain⟨j,m2,hj,rfl,rfl,hne⟩:=hrel;obtain⟨q0,q1,hbw,hsz⟩:=box2 Hb2.out;have Hbw2:=Lib.hid hbw;obtain⟨b',off',e',hb',hcid,_⟩:=yev (Hi.out.below Stable.int Hbw2.out) (show k<g.ids.length by omega)
         cases e'
         clear hbw
         have hkx:g.ids[k]=x:=by have:=List.getElem?_eq_getElem (l:=g.ids) (i:=k) (by omega);rw[Hx.out]at this;exact(Option.some.inj this).symm
         rw[hkx]at hcid
         clear hkx
         by_cases hjk:j<k
         ·obtain⟨b',off',e',hb',hcj,_⟩:=yev (Hi.out.below Stable.int Hbw2.out) (show j<g.ids.length by omega)
          cases e'
          by_cases c4:g.ids[j]=x
          ·have c4':(g.ids[j] == x)=true:=by simp[c4]
           have Hf:=Lib.hid (Hbad.out (fun h=>(h x ls Hx.out Hlp.out).2.2.2 j _ hjk (List.getElem?_eq_getElem (by omega)) c4))
           clear c4
           go_wp2
           go_quiet (fail)
           go_wp2
           go_ret
           exact⟨ybc Hf.out.symm,below_drewN (below_drewN (box2 Hb2.out).2.2.1 _) _⟩
          ·have c4':(g.ids[j] == x)=false:=by simp[c4]
           have Hc4:=Lib.hid c4
           clear c4
           go_wp2
           go_quiet (fail)
           go_wp2
           go_roundw
           case rel =>
            refine⟨j+1,_,by omega,by go_num,rfl,Lib.hid (fun u y hu hy=>?_)⟩
            by_cases huj:u<j
            ·exact hne.out u y huj hy
            ·obtain rfl:u=j:=by omega
             rw[List.getElem?_eq_getElem (by omega)]at hy
             cases hy
             exact Hc4.out
           case measure=>simp[intOf];omega
         ·obtain rfl:j=k:=by omega
          go_wp2
          go_roundw
          case rel =>
           refine⟨j+1,by omega,by go_num,Lib.hid (below_drewN Hb2.out _),Lib.hid (fun v hv=>?_)⟩
           by_cases hvj:v<j
           ·exact hv2.out v hvj
           ·obtain rfl:v=j:=by omega
            intro x' ls' hx' hls';rw[Hx.out]at hx';rw[Hlp.out]at hls';cases hx'
            cases hls'
            exact⟨⟨c1a,c1b⟩,c2,c3,hne.out⟩
          case measure=>simp[intOf];omega
       ·have c3':yls ls (k:Int) (g.ports.length:Int)=false:=by simpa using c3
        have Hf:=Lib.hid (Hbad.out (fun h=>c3 (h x ls Hx.out Hlp.out).2.2.1))
        clear c3
        go_wp2_with (first | (go_at_call 134;refine(In_t _ _ _ _ (by omega) (by omega)).mono ?_;rintro e w' ⟨rfl,rfl⟩) | (go_at_call 135;refine(ygl _ ls _ _ _ Hls.out ⟨by omega,by omega⟩).mono ?_;rintro e w' ⟨rfl,m,rfl⟩))
        go_ret
        exact⟨ybc Hf.out.symm,below_drewN Hbw.out _⟩
      ·have c2d:decide (g.ports.length<=ls.length)=true:=by simp;omega
       have Hf:=Lib.hid (Hbad.out (fun h=>c2 (h x ls Hx.out Hlp.out).2.1))
       go_wp2_with (first | (go_at_call 134;refine(In_t _ _ _ _ (by omega) (by omega)).mono ?_;rintro e w' ⟨rfl,rfl⟩) | (go_at_call 135;refine(ygl _ ls _ _ _ Hls.out ⟨by omega,by omega⟩).mono ?_;rintro e w' ⟨rfl,m,rfl⟩))
       go_ret
       exact⟨ybc Hf.out.symm,Hbw.out⟩
     ·have Hf:=Lib.hid (Hbad.out (fun h=>c1 (h x ls Hx.out Hlp.out).1));have c1':x<0\/255<x:=by omega
      clear c1
      go_wp2_with (first | (go_at_call 134;refine(In_f _ _ _ _ (by omega)).mono ?_;rintro e w' ⟨rfl,rfl⟩))
      go_ret
      exact⟨ybc Hf.out.symm,Hbw.out⟩
    ·obtain rfl:k=g.ports.length:=by omega
     go_wp2
     go_loopw [6] (fun t wr=>∃ k:Nat,k<=g.ports.length/\t = .int .i64 k/\Hid (Below (w.heap.size+1) (w.alloc (.cells #[.slice A g.ids.length c,.slice A2 g.ports.length c2] 27)) wr)/\Hid (∀ v i,v<k->V3 g v i)) (fun t _=>g.ports.length - (intOf t).toNat)
     case atStart=>exact⟨0,by omega,rfl,hbel,Lib.hid (fun v i hv=>absurd hv (by omega))⟩
     case round =>
      clear hbel Hbw q0 q1 hsz
      obtain⟨k,hk,rfl,hbel,hv3⟩:=hrel;obtain⟨q0,q1,hbw,hsz⟩:=box2 hbel.out;have Hbw:=Lib.hid hbw
      clear hbw
      by_cases hlt:k<g.ports.length
      ·obtain⟨ls,hle⟩:∃ ls,g.ports[k]=ls:=⟨_,rfl⟩;have hlp:g.ports[k]? = some ls:=by rw[List.getElem?_eq_getElem hlt,hle]
       have Hlp:=Lib.hid hlp
       clear hle hlp
       have Hlk:=Lib.hid (show ∀ l ∈ ls,ygo k g.ports.length l by
        have:=(hv2.out k hlt _ ls (List.getElem?_eq_getElem (by omega)) Hlp.out).2.2.1
        exact fun l hl=>(of_decide_eq_true this).1 l hl)
       have Hbad:=Lib.hid (fun i h=>yqe (g:=g) (v:=k) (i:=i) hlt h)
       go_wp2
       go_loopw [7] (fun t wr=>∃ i:Nat,i<=ls.length/\t = .int .i64 i/\Hid (Below (w.heap.size+1) (w.alloc (.cells #[.slice A g.ids.length c,.slice A2 g.ports.length c2] 27)) wr)/\Hid (∀ j,j<i->V3 g k j)) (fun t _=>ls.length - (intOf t).toNat)
       case atStart=>exact⟨0,by omega,rfl,hbel,Lib.hid (fun j hj=>absurd hj (by omega))⟩
       case round =>
        clear hbel Hbw q0 q1 hsz
        obtain⟨i,hi,rfl,hbel,hv3'⟩:=hrel;obtain⟨q0,q1,hbw,hsz⟩:=box2 hbel.out;have Hbw:=Lib.hid hbw;obtain⟨b2,off2,lv,rfl,hb2,hcl,hls⟩:=yek (Hp.out.below (Stable.sl Stable.link) Hbw.out) Hlp.out;obtain⟨A3,c3,rfl,hl1,hl2⟩:=ybg hls
        by_cases hil:i<ls.length
        ·obtain⟨A4,c4,e4,_,_,hE⟩:=hls;cases e4
         obtain⟨b3,off3,rfl,hb3,hE⟩:=hE (by omega)
         obtain⟨⟨l1,wt⟩,hle⟩:∃ l,ls[i]=l:=⟨_,rfl⟩;have hl?:ls[i]? = some (l1,wt):=by rw[List.getElem?_eq_getElem hil,hle]
         obtain⟨hx1,hx2,⟨hr1,hr2⟩,⟨hr3,hr4⟩⟩:=hE i _ hl?;have hlk:=Hlk.out (l1,wt) (List.mem_of_getElem? hl?);unfold ygo at hlk;obtain⟨k1,k2,k3,k4,k5⟩:=hlk;simp only at k1 k2 k3 k4 k5 hx1 hx2 hr1 hr2 hr3 hr4;obtain⟨t,rfl⟩:=Int.eq_ofNat_of_zero_le k1;have htl:t<g.ports.length:=by omega
         obtain⟨b',off',lv',e',hb',hcl',hls'⟩:=yek (Hp.out.below (Stable.sl Stable.link) Hbw.out) (List.getElem?_eq_getElem htl);cases e'
         obtain⟨A5,c5,rfl,hm1,hm2⟩:=ybg hls';obtain⟨ls',hle'⟩:∃ ls',g.ports[t]=ls':=⟨_,rfl⟩;have Hlp':=Lib.hid (show g.ports[t]? = some ls' by rw[List.getElem?_eq_getElem htl,hle'])
         rw[hle']at hls' hcl' hm1;have Hl?:=Lib.hid hl?;have HE:=Lib.hid hE;have Hls':=Lib.hid hls';have Hbb:=Lib.hid (Hbad.out i)
         clear hle hle' hl? hE hls' k1 k3 hbw
         have Hgr:=Lib.hid (hg0.out.below Hbw.out);rcases ykt (ls:=ls') (u:=(k:Int))with hpt | ⟨q,hpt,hq⟩
         ·have Hpt:=Lib.hid hpt
          clear hpt
          have Hf:=Lib.hid (Hbb.out (fun h=>by
           obtain⟨ls2,q2,l2,f1,f2,_⟩:=h ls _ Hlp.out Hl?.out;rw[Int.toNat_natCast,Hlp'.out]at f1;cases f1
           rw[Hpt.out]at f2;omega))
          go_wp2_with fail
          refine(yxl _ g t ls' k _ (Hgr.out.below ((Below.refl _ _).alloc (Nat.le_refl _) _)) Hlp'.out).mono ?_;rintro e w3 ⟨rfl,hb3w⟩;rw[Hpt.out];have d0:=keepA hb3w _ _ q0;have d1:=keepA hb3w _ _ q1;have d2:=keepA hb3w _ _ hcl';obtain⟨d3,d4⟩:=ybea hb3w;have Hb3:=Lib.hid (yjt hb3w);have hz3:wr.heap.size<w3.heap.size:=by have:=hb3w.size;simp at this;omega
          clear hb3w
          go_wp2
          go_quiet (fail)
          go_wp2
          go_ret
          exact⟨ybc Hf.out.symm,below_drewN (Hbw.out.trans (Hb3.out.mono Hbw.out.size)) _⟩
         ·have Hpt:=Lib.hid hpt
          clear hpt
          obtain⟨A6,c6,e6,_,_,hE6⟩:=Hls'.out;cases e6
          obtain⟨b6,off6,rfl,hb6,hE6⟩:=hE6 (by omega)
          obtain⟨⟨y1,y2⟩,hqe⟩:∃ l,ls'[q]=l:=⟨_,rfl⟩;have hq?:ls'[q]? = some (y1,y2):=by rw[List.getElem?_eq_getElem hq,hqe]
          obtain⟨_,hx4,_,_⟩:=hE6 q _ hq?;simp only at hx4;have Hq?:=Lib.hid hq?
          clear hqe hq? hE6
          by_cases c7:y2=wt
          ·have c7':(y2 != wt)=false:=by simp[c7]
           have Hv:=Lib.hid (show V3 g k i from fun ls2 l2 f1 f2=>by
            rw[Hlp.out]at f1;cases f1
            rw[Hl?.out]at f2;cases f2
            exact⟨ls',q,(y1,y2),by rw[Int.toNat_natCast];exact Hlp'.out,Hpt.out,Hq?.out,c7⟩)
           clear c7
           go_wp2_with fail
           refine(yxl _ g t ls' k _ (Hgr.out.below ((Below.refl _ _).alloc (Nat.le_refl _) _)) Hlp'.out).mono ?_;rintro e w3 ⟨rfl,hb3w⟩;rw[Hpt.out];have d0:=keepA hb3w _ _ q0;have d1:=keepA hb3w _ _ q1;have d2:=keepA hb3w _ _ hcl';obtain⟨d3,d4⟩:=ybea hb3w;have Hb3:=Lib.hid (yjt hb3w);have hz3:wr.heap.size<w3.heap.size:=by have:=hb3w.size;simp at this;omega
           clear hb3w
           have d5:=(Hb3.out.cell hb6).trans hx4
           go_wp2
           go_quiet (fail)
           go_wp2
           go_roundw
           case rel =>
            refine⟨i+1,by omega,by go_num,Lib.hid (below_drewN (hbel.out.trans (Hb3.out.mono (by have:=hbel.out.size;simp at this;omega))) _),Lib.hid (fun j hj=>?_)⟩
            by_cases hji:j<i
            ·exact hv3'.out j hji
            ·obtain rfl:j=i:=by omega
             exact Hv.out
           case measure=>simp[intOf];omega
          ·have c7':(y2 != wt)=true:=by simp[c7]
           have Hf:=Lib.hid (Hbb.out (fun h=>by
            obtain⟨ls2,q2,l2,f1,f2,f3,f4⟩:=h ls _ Hlp.out Hl?.out;rw[Int.toNat_natCast,Hlp'.out]at f1;cases f1
            rw[Hpt.out]at f2;obtain rfl:q=q2:=by omega
            rw[Hq?.out]at f3;cases f3
            exact c7 f4))
           clear c7
           go_wp2_with fail
           refine(yxl _ g t ls' k _ (Hgr.out.below ((Below.refl _ _).alloc (Nat.le_refl _) _)) Hlp'.out).mono ?_;rintro e w3 ⟨rfl,hb3w⟩;rw[Hpt.out];have d0:=keepA hb3w _ _ q0;have d1:=keepA hb3w _ _ q1;have d2:=keepA hb3w _ _ hcl';obtain⟨d3,d4⟩:=ybea hb3w;have Hb3:=Lib.hid (yjt hb3w);have hz3:wr.heap.size<w3.heap.size:=by have:=hb3w.size;simp at this;omega
           clear hb3w
           have d5:=(Hb3.out.cell hb6).trans hx4
           go_wp2
           go_quiet (fail)
           go_wp2
           go_ret
           exact⟨ybc Hf.out.symm,below_drewN (Hbw.out.trans (Hb3.out.mono Hbw.out.size)) _⟩
        ·obtain rfl:i=ls.length:=by omega
         have HE:=Lib.hid hls
         clear hls hbw
         go_wp2
         go_roundw
         case rel =>
          refine⟨k+1,by omega,by go_num,hbel,Lib.hid (fun v j hv=>?_)⟩
          by_cases hvk:v<k
          ·exact hv3.out v j hvk
          ·obtain rfl:v=k:=by omega
           by_cases hj:j<ls.length
           ·exact hv3'.out j hj
           ·intro ls2 l2 f1 f2;rw[Hlp.out]at f1;cases f1
            rw[List.getElem?_eq_none (by omega)]at f2
            cases f2
         case measure=>simp[intOf];omega
      ·obtain rfl:k=g.ports.length:=by omega
       have Ht:=Lib.hid (show ybx g=true from decide_eq_true (ybb.of n1a n1b Hn2.out hv2.out (fun v i hv=>hv3.out v i hv)))
       go_wp2
       go_ret
       exact⟨ybc Ht.out.symm,Hbw.out⟩
  ·have n2':((g.ids.length:Int) != (g.ports.length:Int))=true:=by simp;omega
   have Hf:=Lib.hid (ydl (g:=g) (fun h=>n2 h.2.2))
   clear n2
   go_enter Tryz.func85,Tryz.ntmps85
   go_wp2_with (first | (go_at_call 134;refine(In_t _ _ _ _ (by omega) (by omega)).mono ?_;rintro e w' ⟨rfl,rfl⟩))
   go_ret
   exact⟨ybc Hf.out.symm,(Below.refl _ _).alloc (Nat.le_refl _) _⟩
 ·have Hf:=Lib.hid (ydl (g:=g) (fun h=>n1 ⟨h.1,h.2.1⟩));have n1':g.ports.length<1\/24<g.ports.length:=by omega
  clear n1
  go_enter Tryz.func85,Tryz.ntmps85
  go_wp2_with (first | (go_at_call 134;refine(In_f _ _ _ _ (by omega)).mono ?_;rintro e w' ⟨rfl,rfl⟩))
  go_ret
  exact⟨ybc Hf.out.symm,(Below.refl _ _).alloc (Nat.le_refl _) _⟩
end Go.Proofs.YtiejahgklcjhkaaGreatDoor

namespace Go.Proofs.YtiejahgklcjhkaaGreatDoor
open Go.RowKit
set_option maxRecDepth 8000

end Go.Proofs.YtiejahgklcjhkaaGreatDoor

namespace Go.Proofs.YtiejahgklcjhkaaGreatDoor

end Go.Proofs.YtiejahgklcjhkaaGreatDoor

namespace Go.Proofs.YtiejahgklcjhkaaGreatDoor

def ybaj(ids:List Int)(k:Nat):Int:=(ids.take k).tail.foldl max (ids.headD 0)
abbrev maxI(ids:List Int):Int:=ybaj ids ids.length
theorem ybmz{ids:List Int}{k:Nat}(h1:1<=k)(hk:k<ids.length):(ids.take (k+1)).tail=(ids.take k).tail ++ [ids[k]]:=by
 rw[List.take_succ_eq_append_getElem hk,List.tail_append_of_ne_nil];intro h;have:=congrArg List.length h;rw[List.length_take,List.length_nil]at this;omega
theorem ybwl(ids:List Int):ybaj ids 1=ids.headD 0:=by cases ids<;>simp[ybaj]
theorem ybjr{ids:List Int}{k:Nat}(h1:1<=k)(hk:k<ids.length):ybaj ids (k+1)=max (ybaj ids k) ids[k]:=by
 unfold ybaj;rw[ybmz h1 hk,List.foldl_append];rfl
theorem ybft{ids:List Int}(h0:0<ids.length)(h:∀ x ∈ ids,0<=x):maxI ids=ids.foldl max 0:=by
 cases ids with
 | nil=>simp at h0
 | cons x l =>
  have hx:max 0 x=x:=Int.max_eq_right (h x (by simp))
  simp[maxI,ybaj,hx]

def idxP(ids:List Int)(x:Int):Int:=match ids.findIdx? (fun y=>x == y)with
 | some i=>i
 | none=>-1
theorem ycbo{ids:List Int}{x:Int}{k:Nat}(hk:k<ids.length)(h:x=ids[k])(hn:(ids.take k).findIdx? (fun y=>x == y)=none):idxP ids x=k:=by
 unfold idxP
 have:ids.findIdx? (fun y=>x == y)=some k:=by
  rw[List.findIdx?_eq_some_iff_getElem];refine⟨hk,by simp[h],fun j hj=>?_⟩
  rw[List.findIdx?_eq_none_iff]at hn;simp[hn ids[j] (List.mem_take_iff_getElem.2 ⟨j,by omega,rfl⟩)]
 rw[this]
theorem ybqw{ids:List Int}{x:Int}(hn:(ids.take ids.length).findIdx? (fun y=>x == y)=none):idxP ids x = -1:=by
 rw[List.take_length]at hn;unfold idxP;rw[hn]
theorem ybxr{ids:List Int}{x:Int}{k:Nat}(hk:k<ids.length)(h:x ≠ ids[k])(hn:(ids.take k).findIdx? (fun y=>x == y)=none):(ids.take (k+1)).findIdx? (fun y=>x == y)=none:=by
 rw[List.take_succ_eq_append_getElem hk,List.findIdx?_append,hn];simp[h]
end Go.Proofs.YtiejahgklcjhkaaGreatDoor

namespace Go.Proofs.YtiejahgklcjhkaaGreatDoor
namespace Sh
open Go Ev

def yj(l:List Int):SV:=.sl 1 l.length (fun k=>[.i .i64 (l.getD k 0)])
def yx(ls:List (Int × Int)):SV:=.sl 2 ls.length (fun j=>[.i .i64 (ls.getD j (0,0)).1,.i .i64 (ls.getD j (0,0)).2])
def yu(ps:List (List (Int × Int))):SV:=.sl 1 ps.length (fun v=>[yx (ps.getD v [])])
def ybf(c:List (List Int)):SV:=.sl 1 c.length (fun v=>[yj (c.getD v [])])
def grV(g:Gr):SV:=.ag [yj g.ids,yu g.ports]
theorem ik{n:Int}(h1:-1000000000000<=n)(h2:n<=1000000000000):inK .i64 n:=by
 unfold inK;simp[IntKind.min,IntKind.max,IntKind.bits,IntKind.signed];omega
theorem ikw{n:Int}(h1:-4611686018427387904<=n)(h2:n<=4611686018427387904):inK .i64 n:=by
 unfold inK;simp[IntKind.min,IntKind.max,IntKind.bits,IntKind.signed];omega
theorem getD_at{α:Type}{l:List α}{k:Nat}{d:α}(h:k<l.length):l.getD k d=l[k]:=by simp[List.getD,h]
theorem ywx{l:List Int}{i k:Nat}{x:Int}(h:i<l.length):(l.set i x).getD k 0=if k=i then x else l.getD k 0:=by
 simp only[List.getD,List.getElem?_set]
 by_cases q:i=k
 ·subst q;simp[h]
 ·rw[if_neg q,if_neg (Ne.symm q)]

set_option maxRecDepth 8000

theorem ybvl(l:List Int)(x:Int)(hl:l.length<=100000):Returns Tryz.prog 165 [yj l,.i .i64 x] (.i .i64 (idxP l x)):=by
 refine Returns.of (ycxh _ _ ?_);simp only[c165,ycoh,ycgp,yj,go_sem,Nat.reduceAdd,↓reduceIte,reduceCtorEq];refine ybd (σ:=Nat) (fun k=>⟨[(8,.i .i64 k),(0,yj l),(1,.i .i64 x),(7,.i .i64 l.length)],[]⟩) (fun k=>k<=l.length/\(l.take k).findIdx? (fun y=>x == y)=none) (fun k=>l.length - k) 0 ⟨Nat.zero_le _,by simp⟩ ?_ ?_
 ·refine yg [] [] [] ?_;simp only[yj,allQ,live,yc,Int.natCast_zero,go_sem,Nat.reduceEqDiff,↓reduceIte,reduceCtorEq]
 ·intro k ⟨hk,hno⟩;simp only[ycdp,ycol,ycpx,ycgj,ycop,ycfl,yj,yw,go_sem,Nat.reduceEqDiff,Nat.reduceAdd,↓reduceIte,reduceCtorEq];refine⟨fun h=>⟨by omega,fun he=>?_,fun he=>⟨ik (by omega) (by omega),?_⟩⟩,fun h=>?_⟩
  ·have hlt:k<l.length:=by omega
   rw[ycbo hlt (by rw[he,getD_at hlt]) hno]
  ·have hlt:k<l.length:=by omega
   refine yh (k+1) ⟨by omega,ybxr hlt (by rw[<- getD_at (d:=0) hlt];exact he) hno⟩ (by omega) ?_
   refine yg [] [] [] ?_;simp only[allQ,live,yc,yw,go_sem,Nat.reduceEqDiff,↓reduceIte,reduceCtorEq];simp
  ·obtain rfl:k=l.length:=by omega
   rw[ybqw hno]
theorem ycwd(l:List Int)(h0:0<l.length)(hl:l.length<=100000):Returns Tryz.prog 160 [yj l] (.i .i64 (maxI l)):=by
 refine Returns.of (ycxv _ _ ?_);simp only[c160,ycnk,yckz,ycpj,ycnm,ycqe,yj,go_sem,Int.reduceToNat,Nat.reduceEqDiff,Nat.reduceAdd,↓reduceIte,reduceCtorEq];refine⟨fun h=>by omega,fun _=>⟨by omega,?_⟩⟩
 refine ybd (σ:=Nat) (fun k=>⟨[(4,.i .i64 k),(3,.i .i64 (ybaj l k)),(0,yj l)],[]⟩) (fun k=>1<=k/\k<=l.length) (fun k=>l.length - k) 1 ⟨by omega,by omega⟩ ?_ ?_
 ·refine yg [] [] [] ?_;simp only[yj,ybwl,allQ,live,yc,yw,go_sem,Nat.reduceEqDiff,↓reduceIte,reduceCtorEq];cases l<;>simp at h0 ⊢
 ·intro k ⟨hk1,hk⟩;simp only[ycqu,ycgl,ycib,ycpk,yj,yw,go_sem,Nat.reduceEqDiff,Nat.reduceAdd,↓reduceIte,reduceCtorEq];refine⟨fun h=>⟨by omega,ik (by omega) (by omega),?_⟩,fun h=>?_⟩
  ·refine yh (k+1) ⟨by omega,by omega⟩ (by omega) ?_
   refine yg [] [] [] ?_;have hlt:k<l.length:=by omega
   simp only[ybjr hk1 hlt,getD_at hlt,allQ,live,yc,yw,go_sem,Nat.reduceEqDiff,↓reduceIte,reduceCtorEq];simp
  ·obtain rfl:k=l.length:=by omega
   rfl
theorem ybbh(l:List Int)(hl:l.length<=100000):Returns Tryz.prog 138 [yj l] (.i .i64 (ybi l)):=by
 refine Returns.of (ycxk _ _ ?_);simp only[c138,ycoe,ycna,ycdm,yj,go_sem,Nat.reduceAdd,↓reduceIte,reduceCtorEq];refine ybd (σ:=Nat) (fun k=>⟨[(8,.i .i64 k),(3,.i .i64 (ybi (l.take k))),(6,yj l),(7,.i .i64 l.length)],[]⟩) (fun k=>k<=l.length) (fun k=>l.length - k) 0 (Nat.zero_le _) ?_ ?_
 ·refine yg [] [] [] ?_;simp only[yj,allQ,live,yc,yw,Int.natCast_zero,go_sem,Nat.reduceEqDiff,↓reduceIte,reduceCtorEq];simp[ybi]
 ·intro k hk;simp only[yccw,ychp,ycmv,ycca,ycoy,yj,yw,go_sem,Nat.reduceEqDiff,Nat.reduceAdd,↓reduceIte,reduceCtorEq];refine⟨fun h=>⟨by omega,ik (by omega) (by omega),?_⟩,fun h=>?_⟩
  ·refine yh (k+1) (by omega) (by omega) ?_
   refine yg [] [] [] ?_;have hlt:k<l.length:=by omega
   simp only[yjv l k hlt,getD_at hlt,allQ,live,yc,yw,go_sem,Nat.reduceEqDiff,↓reduceIte,reduceCtorEq];simp
  ·obtain rfl:k=l.length:=by omega
   simp
end Sh
end Go.Proofs.YtiejahgklcjhkaaGreatDoor

namespace Go.Proofs.YtiejahgklcjhkaaGreatDoor
namespace Sh
open Go Ev Go.RowKit

def GrI(g:Gr):Prop:=(∀ x ∈ g.ids,I64 x) /\ ∀ ls ∈ g.ports,∀ l ∈ ls,I64 l.1/\I64 l.2
def ybnr(c:List (List Int)):Prop:=∀ s ∈ c,∀ x ∈ s,I64 x

section
variable {G:AM} {m:Mem} {φ:Phi} {M:AM} {w:World} {u u':Value}

theorem ycbd {α:Type} {z n:Nat} {gg:Nat->List SV} {xs:List α} {E:Elem α} (hG:Le G m.b.get) (hr:RV G om0 (.sl z n gg) u) (hv:VR φ u u') (hR:Rel φ M w) (hs:Sub m M) (hn:xs.length=n)
  (hE:∀ k x b o L L',xs[k]? = some x->RVL G om0 (gg k) L->VRL φ L L'->(∀ j v,L'[j]? = some v->w.cell? ⟨b,o+j,none⟩=some v)->E w b o x):SlAt z E w u' xs:=by
 rcases hr.sl_inv with⟨rfl,h0⟩ | ⟨bk,p,cp,T,N,e,zz,L,rfl,g1,g2,g3,g4,g5,g6,g7⟩
 ·have:xs = []:=List.eq_nil_of_length_eq_zero hn;subst this;rcases h0 with rfl | ⟨b,o,c,rfl⟩
  ·have e:=hv.eq_simple rfl;subst e;exact SlAt.nil w
  ·obtain⟨lc,A,c',k1,k2,k3,k4,k5,k6,k7⟩:=hv.slice_inv;subst k3;exact⟨some A,c',rfl,Nat.zero_le _,k6,fun q=>absurd q (by simp)⟩
 ·obtain⟨lc,A,c',k1,k2,k3,k4,k5,k6,k7⟩:=hv.slice_inv;subst k3;subst hn;refine⟨some A,c',rfl,k4,k6,fun hpos=>?_⟩;rcases k7 with⟨rfl,_⟩ | k7
  ·obtain⟨lc',h1,h2⟩:=hR.blk _ _ (hs _ _ (hG _ _ g1));have k1':φ bk=some lc:=k1;rw[k1']at h1;cases h1
   obtain⟨h3,h4,cs,e2,fz2,h0,h5,h6,h7⟩:=h2;refine⟨lc.blk,lc.base+p,rfl,(Array.getElem?_eq_some_iff.1 h5).1,fun k x hx=>?_⟩;have hk:k<xs.length:=(List.getElem?_eq_some_iff.1 hx).1;have hin:=yhv (z:=z) hk;have hcells:∀ j v,j<z->(L k)[j]? = some v -> ∃ v',cs[lc.base+(p+k * z+j)]? = some v'/\VR φ v v':=fun j v hj hv=>h7 _ v (by omega) (by rw[g5 k hk j hj];exact hv)
   have hex:∀ (l:List Value) (q:Nat),(∀ j v,l[j]? = some v -> ∃ v',cs[q+j]? = some v'/\VR φ v v') -> ∃ l',VRL φ l l' /\ ∀ j v,l'[j]? = some v->cs[q+j]? = some v:=by
    intro l
    induction l with
    | nil=>intro q _;exact⟨[],.nil,fun j v h=>by simp at h⟩
    | cons a l ih =>
     intro q h;obtain⟨v',e1,e2⟩:=h 0 a rfl;obtain⟨l',e3,e4⟩:=ih (q+1) (fun j v hv=>by have:=h (j+1) v (by simpa using hv);rw[show q+1+j=q+(j+1)by omega];exact this)
     refine⟨v' :: l',.cons e2 e3,fun j v hv=>?_⟩;cases j with
     | zero=>simp at hv;subst hv;exact e1
     | succ j=>have:=e4 j v (by simpa using hv);rw[show q+(j+1)=q+1+j by omega];exact this
   obtain⟨L',r1,r2⟩:=hex (L k) (lc.base+p+k * z) (fun j v hv=>by
    have hj:j<z:=by rw[<- g4 k hk];exact(List.getElem?_eq_some_iff.1 hv).1
    have:=hcells j v hj hv;rw[show lc.base+p+k * z+j=lc.base+(p+k * z+j)by omega]
    exact this)
   exact hE k x _ _ (L k) L' hx (g6 k hk) r1 fun j v hv=>cell_of h5 (by have:=r2 j v hv;exact this)
  ·omega
theorem ints_at{l:List Int}(hG:Le G m.b.get)(hr:RV G om0 (yj l) u)(hv:VR φ u u')(hR:Rel φ M w)(hs:Sub m M)(hI:∀ x ∈ l,I64 x):yic w u' l:=by
 refine ycbd hG hr hv hR hs rfl fun k x b o L L' hx hL hL' hc=>?_;have hk:k<l.length:=(List.getElem?_eq_some_iff.1 hx).1;have hxe:l.getD k 0=x:=by simp[List.getD,hx]
 rw[hxe]at hL;cases hL with
 | cons a b =>
  cases b
  cases a.int_inv
  obtain⟨v',rfl,hvv⟩:=yey hL';have:=hvv.eq_simple rfl;subst this;exact⟨hc 0 _ rfl,hI x (List.mem_of_getElem? hx)⟩
theorem ybxa{ls:List (Int × Int)}(hG:Le G m.b.get)(hr:RV G om0 (yx ls) u)(hv:VR φ u u')(hR:Rel φ M w)(hs:Sub m M)(hI:∀ l ∈ ls,I64 l.1/\I64 l.2):ybdf w u' ls:=by
 refine ycbd hG hr hv hR hs rfl fun k x b o L L' hx hL hL' hc=>?_;have hxe:ls.getD k (0,0)=x:=by simp[List.getD,hx]
 rw[hxe]at hL;cases hL with
 | cons a b =>
  cases b with
  | cons a2 b2 =>
   cases b2
   cases a.int_inv
   cases a2.int_inv
   obtain⟨v1,v2,rfl,h1,h2⟩:=yrs hL';have:=h1.eq_simple rfl;subst this;have:=h2.eq_simple rfl;subst this;exact⟨hc 0 _ rfl,hc 1 _ rfl,hI x (List.mem_of_getElem? hx)⟩
theorem ybza{ps:List (List (Int × Int))}(hG:Le G m.b.get)(hr:RV G om0 (yu ps) u)(hv:VR φ u u')(hR:Rel φ M w)(hs:Sub m M)(hI:∀ ls ∈ ps,∀ l ∈ ls,I64 l.1/\I64 l.2):ywk w u' ps:=by
 refine ycbd hG hr hv hR hs rfl fun k x b o L L' hx hL hL' hc=>?_;have hxe:ps.getD k []=x:=by simp[List.getD,hx]
 rw[hxe]at hL;cases hL with
 | cons a b =>
  cases b
  obtain⟨v',rfl,hvv⟩:=yey hL';exact⟨v',hc 0 _ rfl,ybxa hG a hvv hR hs (hI x (List.mem_of_getElem? hx))⟩
theorem ycwf{c:List (List Int)}(hG:Le G m.b.get)(hr:RV G om0 (ybf c) u)(hv:VR φ u u')(hR:Rel φ M w)(hs:Sub m M)(hI:ybnr c):ycjg w u' c:=by
 refine ycbd hG hr hv hR hs rfl fun k x b o L L' hx hL hL' hc=>?_;have hxe:c.getD k []=x:=by simp[List.getD,hx]
 rw[hxe]at hL;cases hL with
 | cons a b =>
  cases b
  obtain⟨v',rfl,hvv⟩:=yey hL';exact⟨v',hc 0 _ rfl,ints_at hG a hvv hR hs (hI x (List.mem_of_getElem? hx))⟩
theorem ybjj{g:Gr}(hG:Le G m.b.get)(hr:RV G om0 (grV g) u)(hv:VR φ u u')(hR:Rel φ M w)(hs:Sub m M)(hI:GrI g):GrAt w u' g:=by
 obtain⟨L,rfl,hL⟩:=hr.ag_inv;cases hL with
 | cons a b =>
  cases b with
  | cons a2 b2 =>
   cases b2
   obtain⟨L',rfl,hL'⟩:=hv.agg_inv;obtain⟨v1,v2,rfl,h1,h2⟩:=yrs hL';exact⟨v1,v2,rfl,ints_at hG a h1 hR hs hI.1,ybza hG a2 h2 hR hs hI.2⟩
end
theorem ysd {g:FuncId} {args:List SV} {r:SV} {v:Value} (hg:∃ fn c,Tryz.prog.funcs[g]? = some fn/\fn.body=some c) (hrv:∀ F,RV F om0 r v) (hvr:∀ φ,VR φ v v)
  (h:∀ (G:AM) (m:Mem) (us:List Value),Le G m.b.get->RVL G om0 args us -> ∀ φ M w us',Rel φ M w->Sub m M->VRL φ us us'->Calls Tryz.prog g us'.toArray w fun e w'=>e = .returned v/\Below w.heap.size w w'):Returns Tryz.prog g args r:=by
 intro G m us hw hle hr;refine⟨v,enterM m,r,yjr yon hg fun φ M w us' hR hs hv=>(h G m us hle hr φ M w us' hR hs hv).mono ?_,Nat.le_refl _,Le.refl _,rfl,hrv _⟩;rintro e w' ⟨rfl,hb⟩;exact⟨v,rfl,hvr φ,hb⟩
theorem rvl1{F:AM}{ω:Om}{a:SV}{us:List Value}(h:RVL F ω [a] us):∃ u,us = [u]/\RV F ω a u:=by
 cases h with | cons x y=>cases y;exact⟨_,rfl,x⟩
theorem rvl2{F:AM}{ω:Om}{a b:SV}{us:List Value}(h:RVL F ω [a,b] us):∃ u v,us = [u,v]/\RV F ω a u/\RV F ω b v:=by
 cases h with | cons x y=>obtain⟨v,rfl,q⟩:=rvl1 y;exact⟨_,v,rfl,x,q⟩
end Sh
end Go.Proofs.YtiejahgklcjhkaaGreatDoor

namespace Go.Proofs.YtiejahgklcjhkaaGreatDoor
open Go.RowKit

theorem yboz(n k:Nat)(hk:k<n):(List.replicate k (-1:Int) ++ List.replicate (n - k) 0).set k (-1)=List.replicate (k+1) (-1) ++ List.replicate (n - (k+1)) 0:=by
 apply List.ext_getElem
 ·simp;omega
 ·intro i h1 h2;rw[List.getElem_set];split
  ·subst_vars
   rw[List.getElem_append_left (by simp)]
   simp
  ·by_cases hi:i<k
   ·rw[List.getElem_append_left (by simpa using hi),List.getElem_append_left (by simp;omega)];simp
   ·rw[List.getElem_append_right (by simp;omega),List.getElem_append_right (by simp;omega)];simp

theorem ykk(g:Gr)(a:Nat)(h:g.ports.length<=24):1+yby (start g a)<=30:=by
 have h1:=List.countP_le_length (p:=fun x:Int=>decide (x<0)) (l:=start g a);have h2:(start g a).length=g.ports.length:=by simp[start]
 unfold yby;omega

set_option maxHeartbeats 2000000 in
theorem ybli(gv:Value)(g:Gr)(a:Nat)(w:World)(hg:GrAt w gv g)(hgood:ybb g)(ha:a<g.ports.length) :
  Calls Tryz.prog 139 #[gv,.int .i64 a] w (ybwf (ybk g a) w):=by
 have hn24:=hgood.2.1;have Hgood:=Lib.hid hgood
 clear hgood
 obtain⟨i,p,rfl,hi,hp⟩:=hg;obtain⟨A2,c2,rfl,hB1,hB2⟩:=ybg hp;have Hp:=Lib.hid hp
 clear hi hp
 have hmk:=ybaf g.ports.length (by omega)
 go_enter Tryz.func139,Tryz.ntmps139
 go_wp2
 go_loopg [17] g.ports.length (fun q t wr=>∃ k:Nat,q+k=g.ports.length/\t = .int .i64 k/\Hid (Below (w.heap.size+1) (w.alloc (.cells #[i,.slice A2 g.ports.length c2] 27)) wr)/\Hid (IBlk wr (w.heap.size+1) (List.replicate k (-1) ++ List.replicate (g.ports.length - k) 0)))
 case atStart =>
  refine⟨0,by omega,rfl,Lib.hid ((Below.refl _ _).alloc (by simp) _),Lib.hid ?_⟩
  have:=IBlk.new (w.alloc (.cells #[i,.slice A2 g.ports.length c2] 27)) (List.replicate g.ports.length (0:Int))
  simpa using this
 case round =>
  obtain⟨k,hq,rfl,hbel,hblk⟩:=hrel
  by_cases hlt:k<g.ports.length
  ·obtain⟨x,hx⟩:∃ x,wr.cell? ⟨w.heap.size+1,k,none⟩=some (.int .i64 x):=⟨_,hblk.out.cell (by simp;omega)⟩
   have hf:=hblk.out.frozen k
   go_wp2
   go_roundg (gk - 1)
   case measure=>omega
   case rel =>
    refine⟨k+1,by omega,by go_num,Lib.hid (hbel.out.setCell (by simp) _),Lib.hid ?_⟩
    have:=hblk.out.set_ k (-1)
    rwa [yboz _ _ hlt]at this
  ·obtain rfl:k=g.ports.length:=by omega
   have hblk0:IBlk wr (w.heap.size+1) (List.replicate g.ports.length (-1)):=by simpa using hblk.out
   obtain⟨x,hx⟩:∃ x,wr.cell? ⟨w.heap.size+1,a,none⟩=some (.int .i64 x):=⟨_,hblk0.cell (by simpa using ha)⟩
   have hf:=hblk0.frozen a;have Hb0:=Lib.hid hblk0
   clear hblk0 hblk hmk
   go_wp2
   go_loopg [7] (1+yby (start g a)) (fun q t wr=>∃ R Q,q=Q.length+yby R/\q<=30/\Hid (Below (w.heap.size+1) (w.alloc (.cells #[i,.slice A2 g.ports.length c2] 27)) wr)/\Hid (IBlk wr (w.heap.size+1) R)/\Hid (BfsInv g a R Q)/\Hid (Owns wr (w.heap.size+2) 3 1 t Q.length (Q.map (fun q:Nat=>Value.int .i64 (q:Int)))))
   case atStart =>
    refine⟨start g a,[a],rfl,ykk g a hn24,Lib.hid ((hbel.out.setCell (by simp) _).alloc (by have:=hbel.out.size;simp at this ⊢;omega) _),Lib.hid ((Hb0.out.set_ a 0).alloc _),Lib.hid (BfsInv.start ha),Lib.hid ?_⟩
    refine⟨rfl,.inr ⟨_,0,1,#[.int .i64 (a:Int)],rfl,?_,?_,Nat.le_refl _,by simp[maxLen],by simp,?_⟩⟩
    ·have:=Hb0.out.lt;simp;omega
    ·have:=heap_alloc_new (wr.setCell ⟨w.heap.size+1,a,none⟩ (.int .i64 0)) (.cells #[.int .i64 (a:Int)] 3);simpa using this
    ·intro j u hu
     simpa using hu
   case round =>
    clear hbel Hb0 hx hf
    obtain⟨R,Q,hq,hq30,hbel,hblk,hinv,hown⟩:=hrel;obtain⟨AQ,cQ,rfl⟩:=hown.out.val;cases Q with
    | nil =>
     have Hd:=Lib.hid (hinv.out.isDist.unique (yct Hgood.out ha))
     go_wp2
     go_ret
     have h:=hblk.out.ints (fun x hx=>by have:=hinv.out.isDist.bound Hgood.out ha x hx;unfold I64;omega) (by rw[hinv.out.len];omega)
     rw[hinv.out.len,Hd.out]at h;exact⟨_,rfl,h,(box2 hbel.out).2.2.1⟩
    | cons v Q =>
     obtain⟨gQ,oQ,cap,hv,hg1,hg2,hg3,hg4,hcell⟩:=hown.out.form (by simp)
     cases hv
     have hc0:=hcell 0 (.int .i64 (v:Int)) rfl;simp only[Nat.add_zero]at hc0;have Hcell:=Lib.hid hcell;obtain⟨d,hd⟩:=hinv.out.qin v (by simp)
     have hvl:v<g.ports.length:=by rw[<- hinv.out.len];exact(List.getElem?_eq_some_iff.1 hd).1
     obtain⟨q0,q1,hbw,hsz⟩:=box2 hbel.out;obtain⟨b2,off2,lv,rfl,hb2,hclw,hls⟩:=yek Hp.out (List.getElem?_eq_getElem hvl);have hcl:=yfk hbw _ _ hclw
     clear hclw
     obtain⟨A3,c3,rfl,hl1,hl2⟩:=ybg hls;obtain⟨ls,hle⟩:∃ ls,g.ports[v]=ls:=⟨_,rfl⟩;have Hlp:=Lib.hid (show g.ports[v]? = some ls by rw[List.getElem?_eq_getElem hvl,hle])
     rw[hle]at hls hcl hl1;have Hls:=Lib.hid hls;have Hin:=Lib.hid (hinv.out.pop hd ls);have Hbw:=Lib.hid hbw
     clear hle hls hbw hcell hinv hd
     simp only[List.length_cons]at hq hg3 hown hc0;obtain⟨i0,hi0,hz0,hz1,hz2⟩:=info_parts yxh;obtain⟨vQ,hsl,hoQ,hobQ⟩:=ybyt (P:=Tryz.prog) Tryz.underlying22 hi0 hz1 hown.out (k:=1) (by simp) (by simp)
     simp only[Nat.add_sub_cancel,Nat.mul_one,List.map_cons,List.drop_succ_cons,List.drop_zero]at hoQ;have hsl':∀ W,(Instr.slice 22 (.slice (some ⟨gQ,oQ,none⟩) (Q.length+1) cQ) (some (.int .i64 1)) none none).run Tryz.prog W = .ok vQ W:=fun W=>by simpa using hsl W
     have HoQ:=Lib.hid hoQ;have Hi0:=Lib.hid (show _/\_/\_/\_ from⟨hi0,hz0,hz1,hz2⟩)
     clear hoQ hown hsl hobQ hi0 hz0 hz1 hz2
     unfold maxLen at hg4
     go_wp2
     clear hsl'
     obtain⟨go,rfl⟩:∃ go,go=gk:=⟨_,rfl⟩
     go_loopg [43,7] ls.length (fun q t tq wr=>∃ (k:Nat) (R:List Int) (Q:List Nat),q+k=ls.length/\t = .int .i64 k/\Hid (go=Q.length+1+yby R)/\Hid (Below (w.heap.size+1) (w.alloc (.cells #[i,.slice (some ⟨b2,off2,none⟩) g.ports.length c2] 27)) wr)/\Hid (IBlk wr (w.heap.size+1) R)/\Hid (BfsIn g a v d ls k R Q)/\Hid (Owns wr (w.heap.size+2) 3 1 tq Q.length (Q.map (fun q:Nat=>Value.int .i64 (q:Int)))))
     case atStart=>exact⟨0,R,Q,by omega,rfl,Lib.hid (by omega),hbel,hblk,Hin,HoQ⟩
     case round =>
      clear hbel hblk Hin HoQ hq hcl q0 q1 Hbw hsz
      obtain⟨k,R,Q,hq,rfl,Hgk,hbel,hblk,Hin,HoQ⟩:=hrel
      by_cases hlt:k<ls.length
      ·obtain⟨q0,q1,hbw,hsz⟩:=box2 hbel.out;have Hbw:=Lib.hid hbw;obtain⟨A4,c4,e4,_,_,hE⟩:=Hls.out.below Stable.link hbw;cases e4
       obtain⟨b3,off3,rfl,hb3,hE⟩:=hE (by omega)
       obtain⟨⟨l1,wt⟩,hle⟩:∃ l,ls[k]=l:=⟨_,rfl⟩;have hl?:ls[k]? = some (l1,wt):=by rw[List.getElem?_eq_getElem hlt,hle]
       obtain⟨hx1,hx2,⟨hr1,hr2⟩,⟨hr3,hr4⟩⟩:=hE k _ hl?;obtain⟨k1,k2,k3,k4,k5⟩:=Hgood.out.link Hlp.out (List.mem_of_getElem? hl?);simp only at k1 k2 k3 k4 k5 hx1 hx2 hr1 hr2 hr3 hr4;obtain⟨u,rfl⟩:=Int.eq_ofNat_of_zero_le k1;have hul:u<R.length:=by rw[Hin.out.len];omega
       have hvR:v<R.length:=by rw[Hin.out.len];omega
       have hRv:R[v]? = some (d:Int):=Hin.out.rv;have hcv:=hblk.out.cell hvR;rw[show R[v]=(d:Int)by have:=List.getElem?_eq_getElem hvR;rw[hRv]at this;exact(Option.some.inj this).symm]at hcv
       have hcu:=hblk.out.cell hul;have hfu:=hblk.out.frozen u
       have hd24:d<g.ports.length:=by
        rcases Hin.out.val v _ hRv with e | ⟨k',e,h1,h2⟩
        ·omega
        ·obtain rfl:d=k':=by omega
         exact ysa Hgood.out ha h1 h2
       have hle1:ls[k].1=(u:Int):=by rw[hle]
       have hRu:R[u]? = some R[u]:=List.getElem?_eq_getElem hul;have hB:w.heap.size+1<wr.heap.size:=hblk.out.lt
       clear hE hl? hle hbw k1 k3 hRv
       by_cases hneg:R[u]<0
       ·have hRm:R[u]? = some (-1):=by
         rcases Hin.out.val u _ hRu with e | ⟨k',e,_⟩
         ·exact hRu.trans (congrArg some e)
         ·exact absurd e (by omega)
        have Hd:=Lib.hid (Hin.out.discover Hlp.out hlt hle1 hRm);have Hun:=Lib.hid (ysf (R:=R) (u:=u) (x:=(d:Int)+1) hRm (by omega))
        clear hRu hRm hle1
        go_wp2
        go_region
        go_wp2_with (at_builtin;refine ygc _ rfl _ _ 22 rfl (w.heap.size+2) 3 i0 (.int .i64 0) 1 8 Tryz.underlying22 Hi0.out.1 Hi0.out.2.1 Hi0.out.2.2.1 Hi0.out.2.2.2 rfl (by decide) u7 Q.length (Q.map (fun q:Nat=>Value.int .i64 (q:Int))) (by rfl) ?hown _ 1 1 [.int .i64 (u:Int)] (by rfl) rfl ?c1 ?c2 ?c3 ?c4 ?c5 ?_)
        case hown=>exact(((HoQ.out.low (p:=⟨w.heap.size+1,u,none⟩) (by simp) _).alloc _).alloc _).drew
        case c1=>exact ybgr (by simp)
        case c2=>simp[Value.oneCell']
        case c3=>have:=Hgk.out;simp only[maxLen];omega
        case c4=>have:=Hgk.out;omega
        case c5=>simp;omega
        intro vQ' w' hown' hgr hob;have hgo:=Hgk.out;have Hown:=Lib.hid hown';have Hgr:=Lib.hid hgr
        clear hown' hgr hob
        go_wp2
        go_roundg (gk - 1)
        case measure=>omega
        case rel =>
         have hb1:=(((hbel.out.setCell (p:=⟨w.heap.size+1,u,none⟩) (by simp) (.int .i64 ((d:Int)+1))).alloc (by simp;omega) (.cells #[.int .i64 (u:Int),.int .i64 wt] 95)).alloc (by simp;omega) (.cells #[.int .i64 (u:Int)] 3)).drew
         have hk1:=((((hblk.out.set_ u ((d:Int)+1)).alloc (.cells #[.int .i64 (u:Int),.int .i64 wt] 95)).alloc (.cells #[.int .i64 (u:Int)] 3)).drew);refine⟨k+1,R.set u ((d:Int)+1),Q ++ [u],by omega,by go_num,Lib.hid ?_,Lib.hid (hb1.grown Hgr.out (by simp;omega) (fun x hx=>?_)),Lib.hid (hk1.grown Hgr.out (fun e=>?_)),Hd,Lib.hid ?_⟩
         ·have:=Hun.out;simp;omega
         ·have:=(HoQ.out.lt hx).1;omega
         ·have:=(HoQ.out.lt e.symm).1;omega
         ·have:=Hown.out
          simpa using this
       ·have hpos:0<=R[u]:=by omega
        obtain⟨j,hj⟩:=Int.eq_ofNat_of_zero_le hpos;have Hsk:=Lib.hid (Hin.out.skip hlt (j:=j) (by rw[hle1,Int.toNat_natCast,hRu,hj]))
        clear hRu hle1 hj
        go_wp2
        have hgo:=Hgk.out
        go_roundg (gk - 1)
        case measure=>omega
        case rel=>exact⟨k+1,R,Q,by omega,by go_num,Hgk,Lib.hid (hbel.out.alloc (by omega) _),Lib.hid (hblk.out.alloc _),Hsk,Lib.hid (HoQ.out.alloc _)⟩
      ·obtain rfl:k=ls.length:=by omega
       go_wp2
       have hgo:=Hgk.out
       go_roundg (Q.length+yby R)
       case measure=>omega
       case rel=>exact⟨R,Q,rfl,by omega,hbel,hblk,Lib.hid (Hin.out.finish Hlp.out),HoQ⟩
end Go.Proofs.YtiejahgklcjhkaaGreatDoor

namespace Go.Proofs.YtiejahgklcjhkaaGreatDoor
open Go.RowKit

theorem yyc:Tryz.zeroCells195=Array.replicate 256 (.bool false):=by kernel_rfl

def Seen(w:World)(g:Nat)(S:List Int):Prop:=∃ cur,w.heap[g]? = some (.cells cur 195 (0,0))/\cur.size=256 /\ ∀ i:Nat,i<256->cur[i]? = some (.bool (decide ((i:Int) ∈ S)))

theorem Seen.cell{w:World}{g:Nat}{S:List Int}(h:Seen w g S){i:Nat}(hi:i<256):w.cell? ⟨g,i,none⟩=some (.bool (decide ((i:Int) ∈ S))):=by
 obtain⟨cur,h1,h2,h3⟩:=h;simp[World.cell?,h1,h3 i hi]
theorem Seen.frozen{w:World}{g:Nat}{S:List Int}(h:Seen w g S)(i:Nat):w.frozen? ⟨g,i,none⟩=false:=by
 obtain⟨cur,h1,h2,h3⟩:=h;simp[World.frozen?,h1]
theorem Seen.set_{w:World}{g:Nat}{S:List Int}(h:Seen w g S){i:Nat}:Seen (w.setCell ⟨g,i,none⟩ (.bool true)) g (S ++ [(i:Int)]):=by
 obtain⟨cur,h1,h2,h3⟩:=h;refine⟨cur.setIfInBounds i (.bool true),by simp[World.setCell,Array.getElem?_modify,h1],by simp[h2],fun j hj=>?_⟩
 rw[Array.getElem?_setIfInBounds];split
 ·subst_vars
  rw[if_pos (by omega)]
  simp
 ·rw[h3 j hj];congr 3;simp;omega

theorem Seen.start(w:World):Seen (w.alloc (.cells Tryz.zeroCells195 195)) w.heap.size []:=by
 refine⟨_,heap_alloc_new w _,by rw[yyc];simp,fun i hi=>?_⟩
 rw[yyc];simp[hi]

def ybcg(ids:List Int):Bool:=decide ((∀ x ∈ ids,0<=x/\x<=255)/\ids.Nodup)
def yqz(ids:List Int)(k:Nat):Prop:=(∀ x ∈ ids.take k,0<=x/\x<=255)/\(ids.take k).Nodup
theorem ybqo{ids:List Int}{k:Nat}(hk:k<ids.length):yqz ids (k+1) ↔ yqz ids k/\(0<=ids[k]/\ids[k]<=255)/\ids[k] ∉ ids.take k:=by
 unfold yqz;rw[take_snoc ids k hk,List.nodup_append];constructor
 ·rintro⟨h1,h2,_,h3⟩;exact⟨⟨fun x hx=>h1 x (List.mem_append_left _ hx),h2⟩,h1 _ (List.mem_append_right _ (by simp)),fun hm=>h3 _ hm _ (by simp) rfl⟩
 ·rintro⟨⟨h1,h2⟩,h3,h4⟩;refine⟨fun x hx=>?_,h2,by simp,fun a ha b hb e=>?_⟩
  ·rcases List.mem_append.1 hx with hx | hx
   ·exact h1 x hx
   ·simp at hx;subst hx;exact h3
  ·simp at hb;subst hb e;exact h4 ha
theorem ybep{ids:List Int}{k:Nat}(h:¬ yqz ids k):ybcg ids=false:=by
 unfold ybcg;rw[decide_eq_false_iff_not];exact fun hd=>h ⟨fun x hx=>hd.1 x (List.mem_of_mem_take hx),hd.2.sublist (List.take_sublist _ _)⟩
theorem ybkg{ids:List Int}(h:yqz ids ids.length):ybcg ids=true:=by
 unfold yqz at h;rw[List.take_length]at h;exact decide_eq_true h

set_option maxRecDepth 100000 in
set_option maxHeartbeats 1000000 in
theorem yom(iv:Value)(ids:List Int)(w:World)(hi:yic w iv ids) :
  Calls Tryz.prog 152 #[iv] w fun e w'=>e = .returned (.bool (ybcg ids))/\Below w.heap.size w w':=by
 obtain⟨A,c,rfl,hA1,hA2⟩:=ybg hi;have Hi:=Lib.hid hi
 clear hi
 go_enter Tryz.func152,Tryz.ntmps152
 go_wp2
 go_loopg [8] ids.length (fun q t wr=>∃ k:Nat,q+k=ids.length/\t = .int .i64 k/\Hid (Below w.heap.size w wr)/\Hid (Seen wr w.heap.size (ids.take k))/\Hid (yqz ids k))
 case atStart=>exact⟨0,by omega,rfl,Lib.hid ((Below.refl _ _).alloc (Nat.le_refl _) _),Lib.hid (Seen.start w),Lib.hid ⟨by simp,by simp⟩⟩
 case round =>
  obtain⟨k,hq,rfl,hbel,hseen,hok⟩:=hrel
  by_cases hlt:k<ids.length
  ·obtain⟨b,off,rfl,hb,hcid,hr⟩:=yev (Hi.out.below Stable.int hbel.out) hlt;obtain⟨x,hx⟩:∃ x,ids[k]=x:=⟨_,rfl⟩;have Hsn:=Lib.hid (ybqo hlt);rw[hx]at hcid hr Hsn;obtain⟨hr1,hr2⟩:=hr;have Hbad:=Lib.hid (fun h=>ybep (ids:=ids) (k:=k+1) h);have Hts:=Lib.hid (take_snoc ids k hlt);rw[hx]at Hts
   clear hx
   by_cases c1:0<=x/\x<=255
   ·obtain⟨c1a,c1b⟩:=c1;obtain⟨n,rfl⟩:=Int.eq_ofNat_of_zero_le c1a;have hcs:=hseen.out.cell (i:=n) (by omega)
    have hfs:=hseen.out.frozen n
    by_cases c2:(n:Int) ∈ ids.take k
    ·rw[decide_eq_true c2]at hcs;have Hf:=Lib.hid (Hbad.out (fun h=>(Hsn.out.1 h).2.2 c2))
     clear c2
     go_wp2
     go_ret
     exact⟨ybc Hf.out.symm,hbel.out⟩
    ·rw[decide_eq_false c2]at hcs;have Hn:=Lib.hid (Hsn.out.2 ⟨hok.out,⟨by omega,by omega⟩,c2⟩)
     clear c2
     go_wp2
     go_roundg (gk - 1)
     case measure=>omega
     case rel =>
      refine⟨k+1,by omega,by go_num,Lib.hid (hbel.out.setCell (Nat.le_refl _) _),Lib.hid ?_,Hn⟩
      rw[Hts.out];exact hseen.out.set_
   ·have Hf:=Lib.hid (Hbad.out (fun h=>c1 (Hsn.out.1 h).2.1))
    by_cases c3:x<0
    ·clear c1
     go_wp2
     go_ret
     exact⟨ybc Hf.out.symm,hbel.out⟩
    ·have c4:255<x:=by omega
     clear c1
     go_wp2
     go_ret
     exact⟨ybc Hf.out.symm,hbel.out⟩
  ·obtain rfl:k=ids.length:=by omega
   have Ht:=Lib.hid (ybkg hok.out)
   go_wp2
   go_ret
   exact⟨ybc Ht.out.symm,hbel.out⟩

theorem ybmu(g:Gr)(h1:1<=g.ids.length)(h2:g.ids.length<=24)(h3:g.ports.length=g.ids.length):ybx g=(ybcg g.ids && symB g.ports):=by
 unfold ybx ybcg symB;rw[<- Bool.decide_and];congr 1;apply propext;unfold ybb ybxd;constructor
 ·rintro⟨_,_,_,h4,h5,h6,h7⟩;exact⟨⟨h4,h5⟩,h6,h7⟩
 ·rintro⟨⟨h4,h5⟩,h6,h7⟩;exact⟨by omega,by omega,by omega,h4,h5,h6,h7⟩

set_option maxHeartbeats 1000000 in
theorem ysc(gv:Value)(g:Gr)(w:World)(hg:GrAt w gv g) :
  Calls Tryz.prog 96 #[gv] w fun e w'=>e = .returned (.bool (ybx g))/\Below w.heap.size w w':=by
 obtain⟨i,p,rfl,hi,hp⟩:=hg;obtain⟨A,c,rfl,hA1,hA2⟩:=ybg hi;obtain⟨A2,c2,rfl,hB1,hB2⟩:=ybg hp;have Hi:=Lib.hid hi;have Hp:=Lib.hid hp
 clear hi hp
 by_cases n1:1<=g.ids.length
 ·by_cases n2:g.ids.length<=24
  ·by_cases n3:g.ports.length=g.ids.length
   ·have n3':((g.ports.length:Int) != (g.ids.length:Int))=false:=by simp[n3]
    have He:=Lib.hid (ybmu g n1 n2 n3);have n3a:g.ports.length<=24:=by omega
    clear n3
    go_enter Tryz.func96,Tryz.ntmps96
    go_wp2_with fail
    refine(yom _ g.ids _ (Hi.out.below Stable.int ((Below.refl _ _).alloc (Nat.le_refl _) _))).mono ?_;rintro e w1 ⟨rfl,hb1⟩;have Hb1:=Lib.hid (yjt hb1);obtain⟨q0,q1⟩:=ybea hb1
    clear hb1
    cases hd:ybcg g.ids with
    | false =>
     have Hv:=Lib.hid (show ybx g=false by rw[He.out,hd];rfl)
     go_wp2_with fail
     go_ret
     exact⟨ybc Hv.out.symm,Hb1.out⟩
    | true =>
     have Hv:=Lib.hid (show ybx g=symB g.ports by rw[He.out,hd];rfl)
     go_wp2_with fail
     refine(ykl _ g.ports _ (Hp.out.below (Stable.sl Stable.link) Hb1.out) (by omega)).mono ?_
     rintro e w2 ⟨rfl,hb2⟩
     go_wp2_with fail
     go_ret
     exact⟨ybc Hv.out.symm,Hb1.out.trans (hb2.mono Hb1.out.size)⟩
   ·have n3':((g.ports.length:Int) != (g.ids.length:Int))=true:=by simp;omega
    have Hf:=Lib.hid (ydl (g:=g) (fun h=>n3 h.2.2.symm))
    clear n3
    go_enter Tryz.func96,Tryz.ntmps96
    go_wp2
    go_ret
    exact⟨ybc Hf.out.symm,(Below.refl _ _).alloc (Nat.le_refl _) _⟩
  ·have Hf:=Lib.hid (ydl (g:=g) (fun h=>n2 (by omega)))
   go_enter Tryz.func96,Tryz.ntmps96
   go_wp2
   go_ret
   exact⟨ybc Hf.out.symm,(Below.refl _ _).alloc (Nat.le_refl _) _⟩
 ·have Hf:=Lib.hid (ydl (g:=g) (fun h=>n1 (by omega)))
  go_enter Tryz.func96,Tryz.ntmps96
  go_wp2
  go_ret
  exact⟨ybc Hf.out.symm,(Below.refl _ _).alloc (Nat.le_refl _) _⟩
end Go.Proofs.YtiejahgklcjhkaaGreatDoor

namespace Go.Proofs.YtiejahgklcjhkaaGreatDoor
namespace Sh
open Go Ev Go.RowKit
set_option maxRecDepth 8000
theorem yfl{x:Int}(h:-4611686018427387904<=x/\x<=4611686018427387904):I64 x:=by
 unfold I64;omega
theorem ycak{g:Gr}(hg:ybb g):GrI g:=by
 obtain⟨h1,h2,h3,h4,h5,h6,h7⟩:=hg;refine⟨fun x hx=>yfl (by have:=h4 x hx;omega),fun ls hls l hl=>?_⟩
 obtain⟨v,hv,rfl⟩:=List.getElem_of_mem hls;obtain⟨a1,a2,a3,a4,a5⟩:=(h6 ⟨v,hv⟩).1 l hl;exact⟨yfl (by omega),yfl (by omega)⟩
theorem yva{g:Gr}(hI:GrI g):Returns Tryz.prog 96 [grV g] (.b (ybx g)):=by
 refine ysd ⟨_,_,Tryz.func96,rfl⟩ (fun _=>.b) (fun _=>.simple rfl) fun G m us hG hr φ M w us' hR hs hv=>?_;obtain⟨u,rfl,h1⟩:=rvl1 hr;obtain⟨u',rfl,h2⟩:=yey hv;exact ysc u' g w (ybjj hG h1 h2 hR hs hI)
end Sh
end Go.Proofs.YtiejahgklcjhkaaGreatDoor

namespace Go.Proofs.YtiejahgklcjhkaaGreatDoor
namespace Sh
open Go Ev
def ydch:LO:=[o3 (.alloc 87 1 [.a (.string (ByteArray.mk #[])),.i .i64 0,.i .i64 0,.i .i64 0,.i .i64 0,.i .i64 0]) 8 0]
def ydaw:LO:=[mv' 0 9 0,mv' 1 10 0,mv' 2 11 0,mv' 3 12 0,o3 (.build [.a (.string (ByteArray.mk #[])),.i .i64 0,.i .i64 0,.i .i64 0,.i .i64 0,.i .i64 0] [(0,1,(.tmp 9)),(1,1,(ci' 1)),(3,1,(.tmp 10)),(4,1,(.tmp 11)),(5,1,(.tmp 12))]) 13 15,o0 (.store 6 (.tmp 8) (.tmp 13)) 31]
def c79:SC:=(.seq (.reg false ydch) (.seq (.reg false ydaw) .ret))
theorem ydad:Fn 79 c79 [.c 8 true 6]:=fn_0 Tryz.func79 (by kernel_rfl) (by kernel_rfl)
end Sh
end Go.Proofs.YtiejahgklcjhkaaGreatDoor

namespace Go.Proofs.YtiejahgklcjhkaaGreatDoor

structure VarR where
 name:ByteArray
 kind:Int
 lo:Int
 hi:Int
 perNode:Int
 perID:Int

def varE:Elem VarR:=fun w b o x=>w.cell? ⟨b,o,none⟩=some (.string x.name)/\w.cell? ⟨b,o+1,none⟩=some (.int .i64 x.kind)/\w.cell? ⟨b,o+2,none⟩=some (.int .i64 x.lo)/\w.cell? ⟨b,o+3,none⟩=some (.int .i64 x.hi) /\
 w.cell? ⟨b,o+4,none⟩=some (.int .i64 x.perNode)/\w.cell? ⟨b,o+5,none⟩=some (.int .i64 x.perID)
theorem Stable.var:Stable varE:=fun _ _ _ _ _ h _ hx=>⟨h _ _ hx.1,h _ _ hx.2.1,h _ _ hx.2.2.1,h _ _ hx.2.2.2.1,h _ _ hx.2.2.2.2.1,h _ _ hx.2.2.2.2.2⟩
theorem ybjk(ids:List Int)(k:Nat)(hk:k<ids.length):(ids.take (k+1)).foldl max 0=max ((ids.take k).foldl max 0) ids[k]:=by
 rw[take_snoc ids k hk,List.foldl_append];rfl
theorem yyn(D:List Int)(m:Int)(h:∀ x ∈ D,x<=m):∀ a:Int,a<=m->D.foldl max a<=m:=by
 induction D with
 | nil=>intro a ha;exact ha
 | cons x D ih=>intro a ha;exact ih (fun y hy=>h y (by simp[hy])) _ (Int.max_le.2 ⟨ha,h x (by simp)⟩)
theorem ysk{g:Gr}(hg:ybb g):0<=ybcf g/\ybcf g<=255:=⟨ynl _ _,yyn _ _ (fun x hx=>(hg.2.2.2.1 x hx).2) _ (by omega)⟩
end Go.Proofs.YtiejahgklcjhkaaGreatDoor

namespace Go.Proofs.YtiejahgklcjhkaaGreatDoor

abbrev Tm:=Int × Int
structure SetR where
 var:Int
 val:List Tm
structure RuleR where
 name:ByteArray
 guard:List Tm
 sets:List SetR
structure ProgR where
 name:ByteArray
 vars:List VarR
 rules:List RuleR
instance:Inhabited VarR:=⟨⟨.empty,0,0,0,0,0⟩⟩
instance:Inhabited SetR:=⟨⟨0,[]⟩⟩
instance:Inhabited RuleR:=⟨⟨.empty,[],[]⟩⟩

inductive Ex where
 | leaf (op arg:Int)
 | un (op:Int) (a:Ex)
 | agg (op:Int) (a:Ex)
 | bin (op:Int) (a b:Ex)
 | ite (c a b:Ex)
def Ex.ser:Ex->List Tm
 | .leaf op arg=>[(op,arg)]
 | .un op a=>(op,0) :: a.ser
 | .agg op a=>(op,0) :: a.ser
 | .bin op a b=>(op,0) :: (a.ser ++ b.ser)
 | .ite c a b=>(43,0) :: (c.ser ++ (a.ser ++ b.ser))

def satP(a:Int):Int:=max (-1073741824) (min a 1073741824)
def yer(b:Bool):Int:=if b then 1 else 0
def ysy(a b:Int):Int:=if b=0 then 0 else if a.tmod b ≠ 0/\(decide (a<0) ≠ decide (b<0))then a.tdiv b - 1 else a.tdiv b
def unP(op a:Int):Int:=if op=18 then -a else yer (a == 0)
def cmpP(op a b:Int):Bool:=if op=35 then a == b else if op=36 then a != b else if op=37 then decide (a<b)else if op=38 then decide (a<=b)else if op=39 then decide (a > b)else decide (a >= b)
def binP(op a b:Int):Int :=
 if op=30 then satP (a * b)else if op=31 then satP (ysy a b)else if op=32 then(if b=0 then 0 else satP (a - b * ysy a b))else if op=33 then satP (a+b)else if op=34 then satP (a - b)
 else if op=41 then yer (a != 0 && b != 0)else if op=42 then yer (a != 0 || b != 0)else yer (cmpP op a b)
def countP(l:List Int):Int:=((l.filter (· != 0)).length:Int)
def ynk(l:List Int):Int:=l.foldl min 1073741824
def yco(l:List Int):Int × Int:=l.foldl (fun p a=>if a > p.1 then(a,p.1)else(p.1,max p.2 a)) (-1073741824,-1073741824)
def ysv(l:List Int):Nat->Int->Int
 | 0,r=>r
 | n+1,r=>if l.elem r then ysv l n (r+1)else r
def mexP(l:List Int):Int:=ysv l (l.length+1) 0
def yep(l:List Int):Int:=match l.findIdx? (· != 0)with | some i=>i | none=>-1
def yhd(op:Int)(l:List Int):Int :=
 if op=20 then yer (countP l == l.length)else if op=21 then yer (decide (countP l > 0))else if op=22 then countP l else if op=23 then yep l else if op=24 then ynk l else if op=25 then(yco l).1
 else if op=26 then satP l.sum else if op=27 then mexP l else if op=28 then(yco l).2 else l.headD 0

structure Sc where
 g:Gr
 c:Conf
def ycd(g:Gr)(v port:Nat):Int × Int:=(g.ports.getD v []).getD port (0,0)
def yip(g:Gr)(v:Nat):List Int:=(g.ports.getD v []).map fun l=>yfm (g.ports.getD l.1.toNat []) v
def ykj(g:Gr)(op:Int)(v:Nat)(port:Int):Int :=
 if op=6 then g.ids.length else if op=7 then ybcf g else if op=8 then g.ids.getD v 0 else if op=9 then((g.ports.getD v []).length:Int)else if op=10 then yer ((v:Int) == 0)else if op=11 then port
 else(let l:=ycd g v port.toNat
  if op=13 then g.ids.getD l.1.toNat 0 else if op=14 then((g.ports.getD l.1.toNat []).length:Int)else if op=15 then yer (l.1 == 0)else if op=16 then l.2 else(yip g v).getD port.toNat 0)
def yrr(g:Gr)(c:Conf)(op arg:Int)(v:Nat)(port:Int):Int :=
 if op=1 then arg else if op=2 then 1 else if op=3 then 0 else if op=4 then -1 else if op=5 then(c.getD v []).getD arg.toNat 0 else if op=12 then(c.getD (ycd g v port.toNat).1.toNat []).getD arg.toNat 0
 else ykj g op v port
def yec(g:Gr)(c:Conf)(v:Nat):Ex->Int->Int
 | .leaf op arg,p=>yrr g c op arg v p
 | .un op a,p=>unP op (yec g c v a p)
 | .agg op a,_=>yhd op ((List.range (g.ports.getD v []).length).map fun(q:Nat)=>yec g c v a (q:Int))
 | .bin op a b,p=>binP op (yec g c v a p) (yec g c v b p)
 | .ite x a b,p=>if yec g c v x p ≠ 0 then yec g c v a p else yec g c v b p

def Ex.ok(nv:Int)(bnd:Bool):Ex->Bool
 | .leaf op arg=>decide (1<=op/\op<=17) && (if op=1 then decide (0<=arg/\arg<=1073741824)else if op=5\/op=12 then decide (0<=arg/\arg<nv)else true) && (if 11<=op then bnd else true)
 | .un op a=>decide (op=18\/op=19) && a.ok nv bnd
 | .agg op a=>decide (20<=op/\op<=29) && a.ok nv true
 | .bin op a b=>decide (30<=op/\op<=42) && a.ok nv bnd && b.ok nv bnd
 | .ite x a b=>x.ok nv bnd && a.ok nv bnd && b.ok nv bnd

def InB(x:Int):Prop:=-1073741824<=x/\x<=1073741824
theorem ynd(a:Int):InB (satP a):=by unfold InB satP;omega
theorem yej(b:Bool):InB (yer b):=by unfold InB yer;cases b<;>simp
theorem yddc{op a:Int}(h:InB a):InB (unP op a):=by
 unfold unP;split
 ·unfold InB at *;omega
 ·exact yej _
theorem ycuo(op a b:Int):InB (binP op a b):=by
 unfold binP;split;· exact ynd _
 split;· exact ynd _
 split
 ·split
  ·unfold InB;omega
  ·exact ynd _
 split;· exact ynd _
 split;· exact ynd _
 split;· exact yej _
 split;· exact yej _
 exact yej _
theorem countP_le(l:List Int):0<=countP l/\countP l<=l.length:=by
 unfold countP;have:=List.length_filter_le (· != 0) l;omega
theorem ybqb(l:List Int)(h:∀ x ∈ l,InB x):InB (ynk l):=by
 unfold ynk
 have:∀ (l:List Int) (a:Int),InB a->(∀ x ∈ l,InB x)->InB (l.foldl min a):=by
  intro l
  induction l with
  | nil=>intro a ha _;exact ha
  | cons x l ih =>
   intro a ha hl;refine ih _ ?_ fun y hy=>hl y (List.mem_cons_of_mem _ hy);have:=hl x List.mem_cons_self;unfold InB at *;omega
 exact this l _ (by unfold InB;omega) h
theorem yuy(l:List Int)(h:∀ x ∈ l,InB x):InB (yco l).1/\InB (yco l).2:=by
 unfold yco
 have:∀ (l:List Int) (p:Int × Int),InB p.1/\InB p.2->(∀ x ∈ l,InB x)->InB (l.foldl (fun p a=>if a > p.1 then(a,p.1)else(p.1,max p.2 a)) p).1/\InB (l.foldl (fun p a=>if a > p.1 then(a,p.1)else(p.1,max p.2 a)) p).2:=by
  intro l
  induction l with
  | nil=>intro p hp _;exact hp
  | cons x l ih =>
   intro p hp hl;refine ih _ ?_ fun y hy=>hl y (List.mem_cons_of_mem _ hy);have:=hl x List.mem_cons_self;unfold InB at *
   dsimp only
   split<;>dsimp only<;>omega
 exact this l _ (by unfold InB;simp) h
theorem ybgg(l:List Int):∀ (n:Nat) (r:Int),r<=ysv l n r/\ysv l n r<=r+n
 | 0,r=>by unfold ysv;omega
 | n+1,r=>by
  unfold ysv;have:=ybgg l n (r+1);split<;>omega
theorem ybbf(l:List Int):-1<=yep l/\yep l<l.length\/yep l = -1:=by
 unfold yep;split
 ·rename_i i hi
  obtain⟨h,_⟩:=List.findIdx?_eq_some_iff_getElem.1 hi;left;omega
 ·exact .inr rfl
theorem ybyz{op:Int}{l:List Int}(hl:l.length<=1000)(h:∀ x ∈ l,InB x):InB (yhd op l):=by
 have hc:=countP_le l;unfold yhd;split;· exact yej _
 split;· exact yej _
 split;· unfold InB;omega
 split;· have:=ybbf l;unfold InB;omega
 split;· exact ybqb l h
 split;· exact(yuy l h).1
 split;· exact ynd _
 split;· have:=ybgg l (l.length+1) 0;unfold mexP InB;omega
 split;· exact(yuy l h).2
 cases l with
 | nil=>unfold InB;simp
 | cons x l=>exact h x List.mem_cons_self

structure ConfIn(n nv:Nat)(c:Conf):Prop where
 len:c.length=n
 row:∀ s ∈ c,s.length=nv /\ ∀ x ∈ s,InB x

theorem ConfIn.at_{n nv:Nat}{c:Conf}(h:ConfIn n nv c){v:Nat}(hv:v<n):(c.getD v []).length=nv /\ ∀ k,InB ((c.getD v []).getD k 0):=by
 have hlt:v<c.length:=by rw[h.len];exact hv
 have e:c.getD v []=c[v]:=by simp[List.getD,hlt]
 obtain⟨h1,h2⟩:=h.row c[v] (List.getElem_mem hlt);rw[e];refine⟨h1,fun k=>?_⟩;rw[List.getD_eq_getElem?_getD];cases hk:c[v][k]? with
 | none=>simp;unfold InB;omega
 | some x=>simp;exact h2 x (List.mem_of_getElem? hk)
theorem ybb.ycd{g:Gr}(hg:ybb g){v p:Nat}(hv:v<g.ports.length)(hp:p<(g.ports.getD v []).length):0<=(ycd g v p).1/\(ycd g v p).1<g.ports.length/\1<=(ycd g v p).2/\(ycd g v p).2<=15:=by
 have e:g.ports.getD v []=g.ports[v]:=by simp[List.getD,hv]
 have h1:=hg.2.2.2.2.2.1 ⟨v,hv⟩;rw[e]at hp;have hm:(g.ports[v])[p] ∈ g.ports[v]:=List.getElem_mem hp;have h2:=h1.1 _ hm;unfold ygo at h2;have e2:Go.Proofs.YtiejahgklcjhkaaGreatDoor.ycd g v p=(g.ports[v])[p]:=by unfold Go.Proofs.YtiejahgklcjhkaaGreatDoor.ycd;rw[e];simp[List.getD,hp]
 rw[e2];omega
theorem ybb.deg_lt{g:Gr}(hg:ybb g){v:Nat}:(g.ports.getD v []).length<24:=by
 by_cases hv:v<g.ports.length
 ·have h1:=hg.2.2.2.2.2.1 ⟨v,hv⟩;have:=yrg hv h1;have e:g.ports.getD v []=g.ports[v]:=by simp[List.getD,hv]
  rw[e];have:=hg.2.1;have h3:g.ports[(⟨v,hv⟩:Fin g.ports.length)].length=g.ports[v].length:=rfl;omega
 ·rw[List.getD_eq_getElem?_getD,List.getElem?_eq_none (by omega)]
  simp
theorem ybb.id_in{g:Gr}(hg:ybb g)(v:Nat):0<=g.ids.getD v 0/\g.ids.getD v 0<=255:=by
 rw[List.getD_eq_getElem?_getD];cases h:g.ids[v]? with
 | none=>simp
 | some x=>exact hg.2.2.2.1 x (List.mem_of_getElem? h)
theorem ycbe{g:Gr}{c:Conf}{n nv:Nat}(hg:ybb g)(hn:g.ports.length=n)(hc:ConfIn n nv c){op arg:Int}{bnd:Bool}(ho:(Ex.leaf op arg).ok nv bnd=true){v:Nat}(hv:v<n){p:Int}(hp:bnd=true->0<=p/\p<(g.ports.getD v []).length)(hpi:InB p):InB (yrr g c op arg v p):=by
 subst hn;have h24:=hg.2.1;have hd:=hg.deg_lt (v:=v);unfold yrr;simp only[Ex.ok,Bool.and_eq_true,decide_eq_true_eq]at ho;obtain⟨⟨ho1,ho2⟩,ho3⟩:=ho;split
 ·rename_i h;rw[if_pos h]at ho2;simp at ho2;unfold InB;omega
 split;· unfold InB;omega
 split;· unfold InB;omega
 split;· unfold InB;omega
 split;· exact(hc.at_ hv).2 _
 split
 ·rename_i h
  rw[if_pos (by omega)]at ho3
  obtain⟨q1,q2⟩:=hp ho3;have hl:=hg.ycd hv (p:=p.toNat) (by omega)
  exact(hc.at_ (v:=(ycd g v p.toNat).1.toNat) (by omega)).2 _
 ·unfold ykj;split;· rw[hg.2.2.1];unfold InB;omega
  split;· have:=ysk hg;unfold InB;omega
  split;· have:=hg.id_in v;unfold InB;omega
  split;· unfold InB;omega
  split;· exact yej _
  split;· exact hpi
  rename_i h6 h7 h8 h9 h10 h11
  rw[if_pos (by omega)]at ho3
  obtain⟨q1,q2⟩:=hp ho3;have hl:=hg.ycd hv (p:=p.toNat) (by omega)
  simp only;split;· have:=hg.id_in (ycd g v p.toNat).1.toNat;unfold InB;omega
  split;· have:=hg.deg_lt (v:=(ycd g v p.toNat).1.toNat);unfold InB;omega
  split;· exact yej _
  split;· unfold InB;omega
  ·unfold yip;rw[List.getD_eq_getElem?_getD,List.getElem?_map];cases hk:(g.ports.getD v [])[p.toNat]? with
   | none=>simp;unfold InB;omega
   | some l =>
    simp;have hd2:=hg.deg_lt (v:=l.1.toNat);rcases ykt (ls:=g.ports.getD l.1.toNat []) (u:=(v:Int))with e | ⟨k,e,hk⟩
    ·simp at e;rw[e];unfold InB;omega
    ·simp at e hk hd2;rw[e];unfold InB;omega
theorem yge{g:Gr}{c:Conf}{n nv:Nat}(hg:ybb g)(hn:g.ports.length=n)(hc:ConfIn n nv c){v:Nat}(hv:v<n):∀ (x:Ex) {bnd:Bool} {p:Int},x.ok nv bnd=true->(bnd=true->0<=p/\p<(g.ports.getD v []).length)->InB p->InB (yec g c v x p)
 | .leaf op arg,bnd,p,h,hp,hpi=>ycbe hg hn hc h hv hp hpi
 | .un op a,bnd,p,h,hp,hpi=>by
  simp only[Ex.ok,Bool.and_eq_true]at h;exact yddc (yge hg hn hc hv a h.2 hp hpi)
 | .agg op a,bnd,p,h,hp,hpi=>by
  simp only[Ex.ok,Bool.and_eq_true]at h;have:=hg.deg_lt (v:=v);refine ybyz (by simp;simp at this;omega) fun x hx=>?_
  obtain⟨q,hq,rfl⟩:=List.mem_map.1 hx;have hq:=List.mem_range.1 hq;exact yge hg hn hc hv a h.2 (fun _=>by omega) (by unfold InB;omega)
 | .bin op a b,bnd,p,h,hp,hpi=>ycuo _ _ _
 | .ite x a b,bnd,p,h,hp,hpi=>by
  simp only[Ex.ok,Bool.and_eq_true]at h;unfold yec;split
  ·exact yge hg hn hc hv a h.1.2 hp hpi
  ·exact yge hg hn hc hv b h.2 hp hpi
end Go.Proofs.YtiejahgklcjhkaaGreatDoor

namespace Go.Proofs.YtiejahgklcjhkaaGreatDoor
namespace Sh
open Go Ev
def varC(x:VarR):List SV:=[.a (.string x.name),.i .i64 x.kind,.i .i64 x.lo,.i .i64 x.hi,.i .i64 x.perNode,.i .i64 x.perID]
def ycn(l:List VarR):SV:=.sl 6 l.length (fun k=>varC (l.getD k default))
def ygs(l:List SetR):SV:=.sl 2 l.length (fun k=>[.i .i64 (l.getD k default).var,yx (l.getD k default).val])
def yci(l:List RuleR):SV:=.sl 3 l.length (fun k=>[.a (.string (l.getD k default).name),yx (l.getD k default).guard,ygs (l.getD k default).sets])
def ylc(p:ProgR):List SV:=[.a (.string p.name),ycn p.vars,yci p.rules]
def ycu(g:Gr):SV:=.sl 1 g.ports.length (fun v=>[yj (yip g v)])
def yeq(p:ProgR)(g:Gr):List SV:=[.a (.string p.name),ycn p.vars,yci p.rules,yj g.ids,yu g.ports,.i .i64 (ybcf g),ycu g]
def yhm(p:ProgR)(g:Gr)(c:Conf)(v:Nat)(e:List Tm):List SV:=[.rf (yeq p g),ybf c,.i .i64 v,yx e]
theorem yblo(l:List Int):one1 (yj l)=true:=rfl
theorem ybbx{n:Nat}(l:List Int):owned (n+1) (yj l)=false:=rfl
theorem yyy{n:Nat}(l:List Int):scalar (n+1) (yj l)=false:=rfl
theorem ybld{n:Nat}(o:Own)(l:List Int):view o (n+1) (yj l)=yj l:=rfl
theorem ybsp{n:Nat}(o:Own)(l:List Int):vok o (n+1) (yj l)=True:=rfl
theorem ybnp{n:Nat}(h:Nm->Nm)(l:List Int):ren h (n+1) (yj l)=yj l:=rfl
theorem ybml{n:Nat}(L:Nm->Bool)(l:List Int):cln L (n+1) (yj l)=true:=rfl
theorem ybeh(l:List (Int × Int)):one1 (yx l)=true:=rfl
theorem ybad{n:Nat}(l:List (Int × Int)):owned (n+1) (yx l)=false:=rfl
theorem yvo{n:Nat}(l:List (Int × Int)):scalar (n+1) (yx l)=false:=rfl
theorem ybfi{n:Nat}(o:Own)(l:List (Int × Int)):view o (n+1) (yx l)=yx l:=rfl
theorem ybke{n:Nat}(o:Own)(l:List (Int × Int)):vok o (n+1) (yx l)=True:=rfl
theorem ybiw{n:Nat}(h:Nm->Nm)(l:List (Int × Int)):ren h (n+1) (yx l)=yx l:=rfl
theorem ybiq{n:Nat}(L:Nm->Bool)(l:List (Int × Int)):cln L (n+1) (yx l)=true:=rfl
theorem ybdv(l:List (List (Int × Int))):one1 (yu l)=true:=rfl
theorem yzx{n:Nat}(l:List (List (Int × Int))):owned (n+1) (yu l)=false:=rfl
theorem ywu{n:Nat}(l:List (List (Int × Int))):scalar (n+1) (yu l)=false:=rfl
theorem ybbt{n:Nat}(o:Own)(l:List (List (Int × Int))):view o (n+1) (yu l)=yu l:=rfl
theorem ybie{n:Nat}(o:Own)(l:List (List (Int × Int))):vok o (n+1) (yu l)=True:=rfl
theorem yblb{n:Nat}(h:Nm->Nm)(l:List (List (Int × Int))):ren h (n+1) (yu l)=yu l:=rfl
theorem ybih{n:Nat}(L:Nm->Bool)(l:List (List (Int × Int))):cln L (n+1) (yu l)=true:=rfl
theorem ybls(l:List (List Int)):one1 (ybf l)=true:=rfl
theorem ybcn{n:Nat}(l:List (List Int)):owned (n+1) (ybf l)=false:=rfl
theorem yzn{n:Nat}(l:List (List Int)):scalar (n+1) (ybf l)=false:=rfl
theorem ybjd{n:Nat}(o:Own)(l:List (List Int)):view o (n+1) (ybf l)=ybf l:=rfl
theorem ybwe{n:Nat}(o:Own)(l:List (List Int)):vok o (n+1) (ybf l)=True:=rfl
theorem ybqh{n:Nat}(h:Nm->Nm)(l:List (List Int)):ren h (n+1) (ybf l)=ybf l:=rfl
theorem ybpd{n:Nat}(L:Nm->Bool)(l:List (List Int)):cln L (n+1) (ybf l)=true:=rfl
theorem ybkr(l:List VarR):one1 (ycn l)=true:=rfl
theorem ybce{n:Nat}(l:List VarR):owned (n+1) (ycn l)=false:=rfl
theorem yyj{n:Nat}(l:List VarR):scalar (n+1) (ycn l)=false:=rfl
theorem yblh{n:Nat}(o:Own)(l:List VarR):view o (n+1) (ycn l)=ycn l:=rfl
theorem ybsd{n:Nat}(o:Own)(l:List VarR):vok o (n+1) (ycn l)=True:=rfl
theorem ybnu{n:Nat}(h:Nm->Nm)(l:List VarR):ren h (n+1) (ycn l)=ycn l:=rfl
theorem ybnj{n:Nat}(L:Nm->Bool)(l:List VarR):cln L (n+1) (ycn l)=true:=rfl
theorem yblk(l:List SetR):one1 (ygs l)=true:=rfl
theorem ybch{n:Nat}(l:List SetR):owned (n+1) (ygs l)=false:=rfl
theorem yyq{n:Nat}(l:List SetR):scalar (n+1) (ygs l)=false:=rfl
theorem yblt{n:Nat}(o:Own)(l:List SetR):view o (n+1) (ygs l)=ygs l:=rfl
theorem ybol{n:Nat}(o:Own)(l:List SetR):vok o (n+1) (ygs l)=True:=rfl
theorem yboy{n:Nat}(h:Nm->Nm)(l:List SetR):ren h (n+1) (ygs l)=ygs l:=rfl
theorem ybmy{n:Nat}(L:Nm->Bool)(l:List SetR):cln L (n+1) (ygs l)=true:=rfl
theorem ybde(l:List RuleR):one1 (yci l)=true:=rfl
theorem yyp{n:Nat}(l:List RuleR):owned (n+1) (yci l)=false:=rfl
theorem yxp{n:Nat}(l:List RuleR):scalar (n+1) (yci l)=false:=rfl
theorem ybes{n:Nat}(o:Own)(l:List RuleR):view o (n+1) (yci l)=yci l:=rfl
theorem ybkc{n:Nat}(o:Own)(l:List RuleR):vok o (n+1) (yci l)=True:=rfl
theorem ybkz{n:Nat}(h:Nm->Nm)(l:List RuleR):ren h (n+1) (yci l)=yci l:=rfl
theorem ybkh{n:Nat}(L:Nm->Bool)(l:List RuleR):cln L (n+1) (yci l)=true:=rfl
theorem ybef(l:Gr):one1 (ycu l)=true:=rfl
theorem yzw{n:Nat}(l:Gr):owned (n+1) (ycu l)=false:=rfl
theorem ywd{n:Nat}(l:Gr):scalar (n+1) (ycu l)=false:=rfl
theorem ybfd{n:Nat}(o:Own)(l:Gr):view o (n+1) (ycu l)=ycu l:=rfl
theorem ybkp{n:Nat}(o:Own)(l:Gr):vok o (n+1) (ycu l)=True:=rfl
theorem ybky{n:Nat}(h:Nm->Nm)(l:Gr):ren h (n+1) (ycu l)=ycu l:=rfl
theorem ybji{n:Nat}(L:Nm->Bool)(l:Gr):cln L (n+1) (ycu l)=true:=rfl
theorem ybbq{n:Nat}(fr:List Nm)(o:Own)(l:List Int):ycl fr o (n+1) (yj l)=yj l:=rfl
theorem ybtd{n:Nat}(fr:List Nm)(o:Own)(l:List Int):pok fr o (n+1) (yj l)=True:=rfl
theorem ybbd{n:Nat}(fr:List Nm)(o:Own)(l:List (Int × Int)):ycl fr o (n+1) (yx l)=yx l:=rfl
theorem ybjy{n:Nat}(fr:List Nm)(o:Own)(l:List (Int × Int)):pok fr o (n+1) (yx l)=True:=rfl
theorem yzd{n:Nat}(fr:List Nm)(o:Own)(l:List (List (Int × Int))):ycl fr o (n+1) (yu l)=yu l:=rfl
theorem ybjc{n:Nat}(fr:List Nm)(o:Own)(l:List (List (Int × Int))):pok fr o (n+1) (yu l)=True:=rfl
theorem ybbz{n:Nat}(fr:List Nm)(o:Own)(l:List (List Int)):ycl fr o (n+1) (ybf l)=ybf l:=rfl
theorem ybum{n:Nat}(fr:List Nm)(o:Own)(l:List (List Int)):pok fr o (n+1) (ybf l)=True:=rfl
theorem ybci{n:Nat}(fr:List Nm)(o:Own)(l:List VarR):ycl fr o (n+1) (ycn l)=ycn l:=rfl
theorem ybvf{n:Nat}(fr:List Nm)(o:Own)(l:List VarR):pok fr o (n+1) (ycn l)=True:=rfl
theorem ybcb{n:Nat}(fr:List Nm)(o:Own)(l:List SetR):ycl fr o (n+1) (ygs l)=ygs l:=rfl
theorem ybnt{n:Nat}(fr:List Nm)(o:Own)(l:List SetR):pok fr o (n+1) (ygs l)=True:=rfl
theorem yzt{n:Nat}(fr:List Nm)(o:Own)(l:List RuleR):ycl fr o (n+1) (yci l)=yci l:=rfl
theorem ybkd{n:Nat}(fr:List Nm)(o:Own)(l:List RuleR):pok fr o (n+1) (yci l)=True:=rfl
theorem ybbb{n:Nat}(fr:List Nm)(o:Own)(l:Gr):ycl fr o (n+1) (ycu l)=ycu l:=rfl
theorem yblf{n:Nat}(fr:List Nm)(o:Own)(l:Gr):pok fr o (n+1) (ycu l)=True:=rfl
theorem ybdr(l:List Int):SV.cells (yj l) = [yj l]:=rfl
theorem ybae(l:List (Int × Int)):SV.cells (yx l) = [yx l]:=rfl
theorem ybbg(l:List (List (Int × Int))):SV.cells (yu l) = [yu l]:=rfl
theorem ybdg(l:List (List Int)):SV.cells (ybf l) = [ybf l]:=rfl
theorem ybez(l:List VarR):SV.cells (ycn l) = [ycn l]:=rfl
theorem ybbr(l:List SetR):SV.cells (ygs l) = [ygs l]:=rfl
theorem yyo(l:List RuleR):SV.cells (yci l) = [yci l]:=rfl
theorem yyw(l:Gr):SV.cells (ycu l) = [ycu l]:=rfl
attribute [go_sem] yblo ybbx yyy ybld ybsp ybnp ybml ybeh ybad yvo ybfi ybke ybiw ybiq
attribute [go_sem] ybdv yzx ywu ybbt ybie yblb ybih ybls ybcn yzn ybjd ybwe ybqh
attribute [go_sem] ybpd ybkr ybce yyj yblh ybsd ybnu ybnj yblk ybch yyq yblt ybol yboy
attribute [go_sem] ybmy ybde yyp yxp ybes ybkc ybkz ybkh ybef yzw ywd ybfd ybkp
attribute [go_sem] ybky ybji ybbq ybtd ybbd ybjy yzd ybjc ybbz ybum ybci ybvf ybcb ybnt
attribute [go_sem] yzt ybkd ybbb yblf ybdr ybae ybbg ybdg ybez ybbr yyo yyw
end Sh
end Go.Proofs.YtiejahgklcjhkaaGreatDoor

namespace Go.Proofs.YtiejahgklcjhkaaGreatDoor
open Go.RowKit

theorem ywi(gv:Value)(g:Gr)(w:World)(hg:GrAt w gv g) :
  Calls Tryz.prog 137 #[gv] w fun e w'=>e = .returned (.bool (ycw g))/\Below w.heap.size w w':=by
 have hg0:=Lib.hid hg;obtain⟨i,p,rfl,hi,hp⟩:=hg
 clear hi hp
 cases hv:ybx g with
 | false =>
  have Hf:=Lib.hid (show ycw g=false by unfold ycw;rw[hv];rfl)
  go_enter Tryz.func137,Tryz.ntmps137
  go_wp2_with fail
  refine(ysc _ g _ (hg0.out.below ((Below.refl _ _).alloc (Nat.le_refl _) _))).mono ?_;rintro e w1 ⟨rfl,hb1⟩
  go_wp2_with fail
  go_ret
  exact⟨ybc Hf.out.symm,yjt hb1⟩
 | true =>
  have hgood:=(ybq g).1 hv;have hn1:=hgood.1;have hn24:=hgood.2.1;have Hgood:=Lib.hid hgood;have Hd:=Lib.hid (yeo hgood (a:=0) (by omega))
  have Hc:=Lib.hid (show ycw g=(ybk g 0).all (fun x=>decide (0<=x))by unfold ycw;rw[hv];rfl)
  clear hgood
  go_enter Tryz.func137,Tryz.ntmps137
  go_wp2_with fail
  refine(ysc _ g _ (hg0.out.below ((Below.refl _ _).alloc (Nat.le_refl _) _))).mono ?_;rintro e w1 ⟨rfl,hb1⟩;obtain⟨q0,q1⟩:=ybea hb1;have Hb1:=Lib.hid (yjt hb1)
  clear hb1
  go_wp2_with fail
  refine(ybli _ g 0 _ (hg0.out.below Hb1.out) Hgood.out (by omega)).mono ?_
  rintro e w2 ⟨v,rfl,hv2,hb2⟩;have Hb2:=Lib.hid (Hb1.out.trans (hb2.mono Hb1.out.size));obtain⟨A,c,rfl,hA1,hA2⟩:=ybg hv2;have Hv2:=Lib.hid hv2
  clear hb2 hv2
  obtain⟨D,hD⟩:∃ D,ybk g 0=D:=⟨_,rfl⟩;rw[hD]at Hv2 Hd hA1 Hc ⊢
  clear hD
  go_wp2
  go_loopg [11] D.length (fun q t wr=>∃ k:Nat,q+k=D.length/\t = .int .i64 k/\wr=w2/\Hid (∀ j (hj:j<D.length),j<k->0<=D[j]))
  case atStart=>exact⟨0,by omega,rfl,rfl,Lib.hid (fun j _ hj=>absurd hj (by omega))⟩
  case round =>
   obtain⟨k,hq,rfl,rfl,hall⟩:=hrel
   by_cases hlt:k<D.length
   ·obtain⟨b,off,rfl,hb,hc,hr⟩:=yev Hv2.out hlt
    by_cases c1:D[k]<0
    ·have Hf:=Lib.hid (show ycw g=false by
      rw[Hc.out,List.all_eq_false];exact⟨D[k],List.getElem_mem hlt,by simp;omega⟩)
     go_wp2
     go_ret
     exact⟨ybc Hf.out.symm,Hb2.out⟩
    ·go_wp2
     go_roundg (gk - 1)
     case measure=>omega
     case rel =>
      refine⟨k+1,by omega,by go_num,rfl,Lib.hid (fun j hj hjk=>?_)⟩
      by_cases e:j=k
      ·subst e;omega
      ·exact hall.out j hj (by omega)
   ·obtain rfl:k=D.length:=by omega
    have Ht:=Lib.hid (show ycw g=true by
     rw[Hc.out,List.all_eq_true];intro x hx;obtain⟨j,hj,rfl⟩:=List.mem_iff_getElem.1 hx;exact decide_eq_true (hall.out j hj hj))
    go_wp2
    go_ret
    exact⟨ybc Ht.out.symm,Hb2.out⟩

theorem yee{g:Gr}(h:ycw g=true):ybx g=true:=(Bool.and_eq_true _ _ ▸ h).1

end Go.Proofs.YtiejahgklcjhkaaGreatDoor

namespace Go.Proofs.YtiejahgklcjhkaaGreatDoor
open Go
namespace Sh
open Ev Go.RowKit
set_option maxRecDepth 8000
theorem ydhw{α:Type}(l:List α)(x d:α)(i:Nat):(l ++ [x]).getD i d=if i<l.length then l.getD i d else if i=l.length then x else d:=by
 by_cases h:i<l.length
 ·simp[List.getD,List.getElem?_append_left h,h]
 ·by_cases e:i=l.length
  ·subst e;simp[List.getD]
  ·rw[if_neg h,if_neg e,List.getD,List.getElem?_eq_none (by simp;omega)]
   rfl
theorem ydjo(k i:Nat)(hi:i ≠ k):(if i<k+1 then(-1:Int)else 0)=if i<k then -1 else 0:=by
 by_cases h:i<k
 ·rw[if_pos h,if_pos (by omega)]
 ·rw[if_neg h,if_neg (by omega)]
theorem ybij(g:Gr)(a i:Nat)(ha:a<g.ports.length)(hi:i<g.ports.length):(start g a).getD i 0=if i=a then 0 else -1:=by
 unfold start;rw[ywx (by simpa using ha)]
 split
 ·rfl
 ·rw[List.getD_eq_getElem?_getD,List.getElem?_replicate,if_pos hi];rfl
theorem ybjs{g:Gr}(hg:ybb g){a:Nat}(ha:a<g.ports.length):Returns Tryz.prog 139 [grV g,.i .i64 a] (yj (ybk g a)):=by
 refine Returns.of (ycwl _ _ ?_);obtain⟨n,hn⟩:∃ n,g.ports.length=n:=⟨_,rfl⟩;have h24:=hg.2.1;have h1:=hg.1;rw[hn]at h24 h1 ha;obtain⟨PV,hPV⟩:∃ P,yu g.ports=P:=⟨_,rfl⟩;simp only[c139,ycfc,ycjp,ycqa,grV,yu,hn,go_sem,Nat.reduceEqDiff,Nat.reduceAdd,Nat.reduceLT,↓reduceIte,reduceCtorEq];refine⟨by omega,?_⟩
 refine ybd (σ:=Nat) (fun k=>⟨[(17,.i .i64 k),(16,.i .i64 n),(5,.os (14,0) 0 n true),(2,.pt (2,0) 0 0),(1,.i .i64 a)],
   [(2,.one (some ⟨27,true,2,1,fun _=>[yj g.ids,yu g.ports]⟩)),(14,.one (some ⟨3,false,1,n,fun i=>[.i .i64 (if i<k then -1 else 0)]⟩))]⟩) (fun k=>k<=n) (fun k=>n - k) 0 (Nat.zero_le _) ?_ ?_
 ·refine yg [] [] [] ?_;simp only[yu,hn,allQ,live,yc,yw,Int.natCast_zero,go_sem,Nat.reduceEqDiff,↓reduceIte,reduceCtorEq];exact fun i _=>by rw[if_neg (by omega)]
 ·intro k hk
  by_cases hlt:k<n
  ·have ht:decide ((k:Int)<(n:Int))=true:=decide_eq_true (by omega)
   simp only[ybri,ycbz,ychw,ycjd,ht,splice,and_false,go_sem,Nat.reduceEqDiff,Nat.reduceAdd,↓reduceIte,reduceCtorEq];refine⟨by omega,by omega,ikw (by omega) (by omega),?_⟩
   refine yh (k+1) (by omega) (by omega) ?_
   refine yg [] [] [] ?_;simp only[go_sem,allQ,live,yc,yw,go_sem,Nat.reduceEqDiff,↓reduceIte,reduceCtorEq];refine⟨by omega,fun i hi=>?_⟩
   by_cases q:i=k
   ·subst q;simp only[if_pos (Nat.lt_succ_self i)];simp only[live,yc,go_sem,↓reduceIte,reduceCtorEq]
   ·simp only[if_neg q,ydjo k i q];simp only[live,yc,go_sem,reduceCtorEq]
  ·obtain rfl:k=n:=by omega
   have ht:decide ((k:Int)<(k:Int))=false:=decide_eq_false (by omega)
   simp only[ybri,ycgx,ychr,ht,splice,and_false,go_sem,Nat.reduceEqDiff,Nat.reduceAdd,Nat.reduceLT,↓reduceIte,reduceCtorEq];refine⟨⟨by omega,by omega⟩,by omega,?_⟩
   refine ybd (σ:=List Int × List Nat × Nat) (fun q=>⟨[(7,.os (128,0) q.2.2 (q.2.1.length - q.2.2) true),(5,.os (14,0) 0 k true),(2,.pt (2,0) 0 0)],
     [(2,.one (some ⟨27,true,2,1,fun _=>[yj g.ids,yu g.ports]⟩)),(14,.one (some ⟨3,false,1,k,fun i=>[.i .i64 (q.1.getD i 0)]⟩)),(128,.one (some ⟨3,false,1,q.2.1.length,fun i=>[.i .i64 (q.2.1.getD i 0:Nat)]⟩))]⟩)
     (fun q=>q.2.2<=q.2.1.length/\BfsInv g a q.1 (q.2.1.drop q.2.2)/\q.2.1.length - q.2.2+yby q.1<=30/\q.2.1.length<=31) (fun q=>q.2.1.length - q.2.2+yby q.1) (start g a,[a],0) ⟨Nat.zero_le _,BfsInv.start (by omega),ykk g a (by omega),by simp⟩ ?_ ?_
   ·refine yg [(128,fun i=>(28,i))] [] [] ?_;simp only[go_sem,allQ,live,yc,go_sem,Nat.reduceEqDiff,↓reduceIte,reduceCtorEq];refine⟨fun i hi=>?_,fun i hi=>?_⟩
    ·rw[ybij g a i (by omega) (by omega),if_pos hi]
     by_cases q:i=a
     ·simp only[if_pos q];simp only[live,yc,go_sem,reduceCtorEq]
     ·simp only[if_neg q];simp only[live,yc,go_sem,reduceCtorEq]
    ·obtain rfl:i=0:=by omega
     simp only[List.getD_cons_zero,live,yc,go_sem,reduceCtorEq]
   ·rintro⟨R,W,o⟩ ⟨ho,hinv,hm30,hw31⟩;have ho:o<=W.length:=ho;have hinv:BfsInv g a R (W.drop o):=hinv;have hm30:W.length - o+yby R<=30:=hm30;have hw31:W.length<=31:=hw31;obtain⟨m,hm⟩:∃ m,W.length=m:=⟨_,rfl⟩;rw[hm]at ho hm30 hw31
    by_cases hlt2:o<m
    ·have hQ:W.drop o=W[o] :: W.drop (o+1):=(List.drop_eq_getElem_cons (by omega))
     obtain⟨v,hv⟩:∃ v,W.getD o 0=v:=⟨_,rfl⟩;have hv':W[o]=v:=by rw[<- hv,getD_at (show o<W.length by omega)]
     rw[hv']at hQ;rw[hQ]at hinv;obtain⟨d,hd⟩:=hinv.qin v (by simp)
     have hvl:v<g.ports.length:=by rw[<- hinv.len];exact(List.getElem?_eq_some_iff.1 hd).1
     obtain⟨ls,hls⟩:∃ ls,g.ports.getD v []=ls:=⟨_,rfl⟩;have hls?:g.ports[v]? = some ls:=by rw[<- hls];simp[List.getD,hvl]
     have hin:=hinv.pop hd ls;have hls24:ls.length<24:=by rw[<- hls];exact hg.deg_lt
     have ht2:decide (((m - o:Nat):Int) > 0)=true:=decide_eq_true (by omega)
     simp only[yblz,ybur,ybor,ybmj,ht2,hm,hv,yu,yx,hls,hn,go_sem,Int.reduceToNat,Nat.reduceEqDiff,Nat.reduceAdd,↓reduceIte,reduceCtorEq];refine⟨⟨by omega,by omega⟩,hlt2,⟨by omega,by omega,by omega⟩,⟨by omega,by omega⟩,?_⟩
     refine ybd (σ:=Nat × List Int × List Nat × Nat) (fun q=>⟨[(43,.i .i64 q.1),(42,.i .i64 ls.length),(41,yx ls),(8,.i .i64 v),(7,.os (128,0) q.2.2.2 (q.2.2.1.length - q.2.2.2) true),(5,.os (14,0) 0 k true),(2,.pt (2,0) 0 0)],
       [(2,.one (some ⟨27,true,2,1,fun _=>[yj g.ids,yu g.ports]⟩)),(14,.one (some ⟨3,false,1,k,fun i=>[.i .i64 (q.2.1.getD i 0)]⟩)),(128,.one (some ⟨3,false,1,q.2.2.1.length,fun i=>[.i .i64 (q.2.2.1.getD i 0:Nat)]⟩))]⟩)
       (fun q=>q.1<=ls.length/\q.2.2.2<=q.2.2.1.length/\BfsIn g a v d ls q.1 q.2.1 (q.2.2.1.drop q.2.2.2)/\q.2.2.1.length - q.2.2.2+1+yby q.2.1=m - o+yby R/\q.2.2.1.length<=31) (fun q=>ls.length - q.1) (0,R,W,o+1) ⟨Nat.zero_le _,by show o+1<=W.length;omega,hin,by show W.length - (o+1)+1+yby R=_;omega,by show W.length<=31;omega⟩ ?_ ?_
     ·refine yg [] [] [] ?_;simp only[yu,yx,hn,hm,Nat.sub_sub,allQ,live,yc,Int.natCast_zero,go_sem,Nat.reduceEqDiff,↓reduceIte,reduceCtorEq]
     ·rintro⟨j,R',W',o'⟩ ⟨hj,ho',hin',hun',hw'⟩;have hj:j<=ls.length:=hj;have ho':o'<=W'.length:=ho';have hin':BfsIn g a v d ls j R' (W'.drop o'):=hin';have hun':W'.length - o'+1+yby R'=m - o+yby R:=hun';have hw':W'.length<=31:=hw';obtain⟨m',hm'⟩:∃ m,W'.length=m:=⟨_,rfl⟩;rw[hm']at ho' hun' hw'
      by_cases hjl:j<ls.length
      ·have ht3:decide ((j:Int)<(ls.length:Int))=true:=decide_eq_true (by omega)
       obtain⟨l,hl⟩:∃ l,ls.getD j (0,0)=l:=⟨_,rfl⟩;have hl':ls[j]=l:=by rw[<- hl,getD_at hjl]
       have hlm:l ∈ ls:=by rw[<- hl'];exact List.getElem_mem _
       obtain⟨k1,k2,k3,k4,k5⟩:=hg.link hls? hlm;obtain⟨u,hu⟩:=Int.eq_ofNat_of_zero_le k1;have hul:u<R'.length:=by rw[hin'.len];omega
       have hRv:R'.getD v 0=(d:Int):=by have:=hin'.rv;simp[List.getD,this]
       have hd24:d<g.ports.length:=by
        rcases hin'.val v _ hin'.rv with e | ⟨k',e,h1,h2⟩
        ·omega
        ·obtain rfl:d=k':=by omega
         exact ysa hg (by omega) h1 h2
       have hRu:R'[u]? = some (R'.getD u 0):=by rw[getD_at hul];exact List.getElem?_eq_getElem hul
       by_cases hneg:R'.getD u 0<0
       ·have ht4:decide (R'.getD u 0<0)=true:=decide_eq_true hneg;simp only[ywo,yws,yxb,yxa,yxk,ywg,yx,hl,hu,ht3,ht4,hm',hRv,splice,and_false,go_sem,Nat.reduceEqDiff,Nat.reduceAdd,Nat.reduceLeDiff,Nat.reduceLT,↓reduceIte,reduceCtorEq];refine⟨⟨by omega,by omega⟩,⟨by omega,by omega⟩,by omega,⟨by omega,by omega⟩,by omega,ikw (by omega) (by omega),⟨by omega,by omega⟩,by omega,by decide,⟨by omega,by omega,by omega⟩,ikw (by omega) (by omega),?_⟩
        have hRm:R'[u]? = some (-1):=by
         rcases hin'.val u _ hRu with e | ⟨k',e,_⟩
         ·rw[hRu,e]
         ·omega
        have hdis:=hin'.discover hls? hjl (u:=u) (by rw[hl'];exact hu) hRm
        have hunf:=ysf (R:=R') (u:=u) (x:=(d:Int)+1) hRm (by omega)
        have hlen:(W'.drop o' ++ [u]).length=m' - o'+1:=by rw[List.length_append,List.length_drop,hm'];rfl
        refine yh (j+1,R'.set u ((d:Int)+1),W'.drop o' ++ [u],0) ⟨by show j+1<=_;omega,Nat.zero_le _,hdis,by show(W'.drop o' ++ [u]).length - 0+1+yby (R'.set u ((d:Int)+1))=_;omega,by show(W'.drop o' ++ [u]).length<=31;omega⟩ (by show ls.length - (j+1)<ls.length - j;omega) ?_
        refine yg [(128,fun i=>(66,i))] [] [] ?_;simp only[yu,yx,hn,hlen,allQ,live,yc,yw,go_sem,Nat.reduceEqDiff,↓reduceIte,reduceCtorEq];refine⟨⟨by omega,Sim.refl _⟩,fun i hi=>?_,fun i hi=>?_⟩
        ·rw[ywx hul]
         by_cases q:i=u
         ·simp only[if_pos q];simp only[live,yc,go_sem,reduceCtorEq]
         ·simp only[if_neg q];simp only[live,yc,go_sem,reduceCtorEq]
        ·rw[ydhw,List.length_drop,hm']
         by_cases q:i<m' - o'
         ·have e:(W'.drop o').getD i 0=W'.getD (o'+i) 0:=by simp[List.getD,List.getElem?_drop]
          simp only[if_pos q,e];simp only[live,yc,go_sem,reduceCtorEq]
         ·obtain rfl:i=m' - o':=by omega
          simp only[if_neg q,Nat.sub_self,Nat.zero_mul,↓reduceIte];simp only[live,yc,go_sem,reduceCtorEq]
       ·have ht4:decide (R'.getD u 0<0)=false:=decide_eq_false hneg;simp only[ywo,yws,yxb,yxa,yxk,ywg,yx,hl,hu,ht3,ht4,hm',splice,go_sem,Nat.reduceEqDiff,Nat.reduceAdd,Nat.reduceLeDiff,Nat.reduceLT,↓reduceIte,reduceCtorEq];refine⟨⟨by omega,by omega⟩,⟨by omega,by omega⟩,by omega,ikw (by omega) (by omega),?_⟩
        obtain⟨y,hy⟩:=Int.eq_ofNat_of_zero_le (show 0<=R'.getD u 0 by omega)
        have hsk:=hin'.skip hjl (j:=y) (by rw[hl',hu,Int.toNat_natCast,hRu,hy])
        refine yh (j+1,R',W',o') ⟨by show j+1<=_;omega,by show o'<=W'.length;omega,hsk,by show W'.length - o'+1+yby R'=_;omega,by show W'.length<=31;omega⟩ (by show ls.length - (j+1)<ls.length - j;omega) ?_
        refine yg [] [] [] ?_;simp only[yu,yx,hn,hm',allQ,live,yc,yw,go_sem,Nat.reduceEqDiff,↓reduceIte,reduceCtorEq];omega
      ·obtain rfl:j=ls.length:=by omega
       have ht3:decide ((ls.length:Int)<(ls.length:Int))=false:=decide_eq_false (by omega)
       simp only[ywo,yws,yxb,yxa,yxk,ywg,ht3,go_sem,Nat.reduceEqDiff,↓reduceIte];refine yh (R',W',o') ⟨by show o'<=W'.length;omega,hin'.finish hls?,by show W'.length - o'+yby R'<=30;omega,by show W'.length<=31;omega⟩ (by show W'.length - o'+yby R'<m - o+yby R;omega) ?_
       refine yg [] [] [] ?_;simp only[yu,yx,hn,hm',allQ,live,yc,go_sem,Nat.reduceEqDiff,↓reduceIte,reduceCtorEq]
    ·obtain rfl:o=m:=by omega
     have ht2:decide (((o - o:Nat):Int) > 0)=false:=decide_eq_false (by omega)
     rw[List.drop_eq_nil_of_le (by omega)]at hinv
     have hdist:=hinv.isDist.unique (yct hg (by omega))
     subst hdist;have hlen:=hinv.len;simp only[yblz,yboh,ht2,hm,yu,yx,hn,go_sem,Nat.reduceEqDiff,Nat.reduceAdd,↓reduceIte,reduceCtorEq];have e:(ybk g a).length=k:=by omega
     unfold yj;rw[e];exact Sim.refl _
theorem yyk{g:Gr}(hI:GrI g):Returns Tryz.prog 137 [grV g] (.b (ycw g)):=by
 refine ysd ⟨_,_,Tryz.func137,rfl⟩ (fun _=>.b) (fun _=>.simple rfl) fun G m us hG hr φ M w us' hRl hs hv=>?_;obtain⟨u,rfl,h1⟩:=rvl1 hr;obtain⟨u',rfl,h2⟩:=yey hv;exact ywi u' g w (ybjj hG h1 h2 hRl hs hI)
end Sh
end Go.Proofs.YtiejahgklcjhkaaGreatDoor

namespace Go.Proofs.YtiejahgklcjhkaaGreatDoor
open Go.RowKit

theorem yjq(g:Gr)(G:List Int)(v:Nat):(ydd g G v).length=G.length:=by simp[ydd]

set_option maxHeartbeats 2000000 in
theorem yna(gv cv Gv:Value)(g:Gr)(c:Conf)(G:List Int)(w:World)(hg:GrAt w gv g)(hc:ycjg w cv c)(hG:yic w Gv G)(hgood:ybb g) :
  Calls Tryz.prog 102 #[gv,cv,Gv] w fun e w'=>e = .returned (.bool (ypd g.ports.length (ydd g G) c))/\Below w.heap.size w w':=by
 have hn24:=hgood.2.1;have hid:=hgood.2.2.1;have Hid':=Lib.hid hid
 clear hgood
 obtain⟨i,p,rfl,hi,hp⟩:=hg;obtain⟨A,c0,rfl,hA1,hA2⟩:=ybg hi;obtain⟨A2,c2,rfl,hB1,hB2⟩:=ybg hp;obtain⟨A3,c3,rfl,hC1,hC2⟩:=ybg hc;obtain⟨A4,c4,rfl,hD1,hD2⟩:=ybg hG;have Hp:=Lib.hid hp;have Hc:=Lib.hid hc;have HG:=Lib.hid hG
 clear hi hp hc hG
 by_cases n1:c.length=g.ids.length
 ·have n1':((c.length:Int) != (g.ids.length:Int))=false:=by simp[n1]
  have Hn:=Lib.hid (n1.trans hid);have hcn:c.length<=24:=by omega
  clear n1 hid
  go_enter Tryz.func102,Tryz.ntmps102
  go_wp2
  obtain⟨W1,hW1⟩:∃ W,W=w.alloc (.cells #[.slice A g.ids.length c0,.slice A2 g.ports.length c2] 27):=⟨_,rfl⟩;have hbox:W1.cell? ⟨w.heap.size,1,none⟩=some (.slice A2 g.ports.length c2):=by subst hW1;simp
  have HbW:=Lib.hid (show Below w.heap.size w W1 by subst hW1;exact(Below.refl _ _).alloc (Nat.le_refl _) _)
  rw[<- hW1]
  clear hW1
  go_loopg [21] c.length (fun q t wr=>∃ v n:Nat,q+v=c.length/\t = .int .i64 v/\wr=W1.drewN n/\Hid (∀ (u:Nat) s,u<v->c[u]? = some s->ydt (ydd g G u) s))
  case atStart=>exact⟨0,0,by omega,rfl,rfl,Lib.hid (fun u s hu=>absurd hu (by omega))⟩
  case round =>
   obtain⟨v,n,hq,rfl,rfl,hok⟩:=hrel
   by_cases hlt:v<c.length
   ·obtain⟨b3,off3,sv,rfl,hb3,hcs,hs⟩:=yek (Hc.out.below (Stable.sl Stable.int) HbW.out) (List.getElem?_eq_getElem hlt);obtain⟨A5,c5,rfl,hE1,hE2⟩:=ybg hs;obtain⟨s,hse⟩:∃ s,c[v]=s:=⟨_,rfl⟩;have Hs?:=Lib.hid (show c[v]? = some s by rw[List.getElem?_eq_getElem hlt,hse])
    rw[hse]at hs hcs hE1;have Hbad:=Lib.hid (show ¬ ydt (ydd g G v) s->ypd g.ports.length (ydd g G) c=false from fun h=>yhf (fun hc=>h (hc.2 v s Hs?.out)))
    have Hs:=Lib.hid hs
    clear hs hse
    by_cases c1:s.length=G.length
    ·have c1':((s.length:Int) != (G.length:Int))=false:=by simp[c1]
     have Hsl:=Lib.hid c1
     clear c1
     have hvp:v<g.ports.length:=by rw[<- Hn.out];exact hlt
     go_wp2
     obtain⟨go,rfl⟩:∃ go,go=gk:=⟨_,rfl⟩
     go_loopg [33] s.length (fun q t wr=>∃ x n:Nat,q+x=s.length/\t = .int .i64 x/\wr=W1.drewN n/\Hid (∀ (j:Nat) b z,j<x->(ydd g G v)[j]? = some b->s[j]? = some z->b.1<=z/\z<=b.2))
     case atStart=>exact⟨0,n,by omega,rfl,rfl,Lib.hid (fun j b z hj=>absurd hj (by omega))⟩
     case round =>
      obtain⟨x,n,hqx,rfl,rfl,hst⟩:=hrel
      by_cases hxl:x<s.length
      ·have hxG:x<G.length:=by rw[<- Hsl.out];exact hxl
       obtain⟨b5,o5,rfl,hb5,hc5,hr5⟩:=yev (Hs.out) hxl;obtain⟨b6,o6,rfl,hb6,hc6,hr6⟩:=yev (HG.out.below Stable.int HbW.out) hxG;obtain⟨b7,o7,lv,rfl,hb7,hc7,hl7⟩:=yek (Hp.out.below (Stable.sl Stable.link) HbW.out) (List.getElem?_eq_getElem hvp);obtain⟨A8,c8,rfl,hF1,hF2⟩:=ybg hl7;obtain⟨ds,hds⟩:∃ ds,g.ports[v]=ds:=⟨_,rfl⟩;have hdeg:ycsc g v=ds.length:=by simp[ycsc,List.getD,List.getElem?_eq_getElem hvp,hds]
       rw[hds]at hc7 hF1;obtain⟨y,hy⟩:∃ y,s[x]=y:=⟨_,rfl⟩;obtain⟨h,hh⟩:∃ h,G[x]=h:=⟨_,rfl⟩;have Hy?:=Lib.hid (show s[x]? = some y by rw[List.getElem?_eq_getElem hxl,hy])
       have hb?:(ydd g G v)[x]? = some (if h = -1 then(-1,(ds.length:Int) - 1)else(0,h)):=by
        simp[ydd,hxG,hh,hdeg]
       rw[hy]at hc5 hr5;rw[hh]at hc6 hr6;obtain⟨hr5a,hr5b⟩:=hr5;obtain⟨hr6a,hr6b⟩:=hr6
       clear hl7 hds hdeg hy hh
       by_cases c2:h = -1
       ·have c2':(h == -1)=true:=by simp[c2]
        rw[if_pos c2]at hb?;have Hb?:=Lib.hid hb?
        clear hb? c2
        by_cases c3:y < -1
        ·have Hf:=Lib.hid (Hbad.out (fun h=>by have:=h.2 x _ y Hb?.out Hy?.out;simp only at this;omega))
         go_wp2
         go_quiet (fail)
         go_wp2
         go_quiet (fail)
         go_wp2
         go_ret
         exact⟨ybc Hf.out.symm,below_drewN HbW.out _⟩
        ·by_cases c4:(ds.length:Int) - 1<y
         ·have Hf:=Lib.hid (Hbad.out (fun h=>by have:=h.2 x _ y Hb?.out Hy?.out;simp only at this;omega))
          go_wp2
          go_quiet (fail)
          go_wp2
          go_quiet (fail)
          go_wp2
          go_ret
          exact⟨ybc Hf.out.symm,below_drewN HbW.out _⟩
         ·have c4d:decide ((ds.length:Int) - 1<y)=false:=by simp;omega
          go_wp2
          go_quiet (fail)
          go_wp2
          go_quiet (fail)
          go_wp2
          go_roundg (gk - 1)
          case measure=>omega
          case rel =>
           refine⟨x+1,_,by omega,by go_num,rfl,Lib.hid (fun j b z hj hb hz=>?_)⟩
           by_cases hjx:j<x
           ·exact hst.out j b z hjx hb hz
           ·obtain rfl:j=x:=by omega
            rw[Hb?.out]at hb;rw[Hy?.out]at hz;cases hb
            cases hz
            simp only;omega
       ·have c2':(h == -1)=false:=by simp[c2]
        rw[if_neg c2]at hb?;have Hb?:=Lib.hid hb?
        clear hb? c2
        by_cases c3:y<0
        ·have Hf:=Lib.hid (Hbad.out (fun h=>by have:=h.2 x _ y Hb?.out Hy?.out;simp only at this;omega))
         go_wp2
         go_quiet (fail)
         go_wp2
         go_ret
         exact⟨ybc Hf.out.symm,below_drewN HbW.out _⟩
        ·by_cases c4:h<y
         ·have Hf:=Lib.hid (Hbad.out (fun h=>by have:=h.2 x _ y Hb?.out Hy?.out;simp only at this;omega))
          go_wp2
          go_quiet (fail)
          go_wp2
          go_ret
          exact⟨ybc Hf.out.symm,below_drewN HbW.out _⟩
         ·have c4d:decide (h<y)=false:=by simp;omega
          go_wp2
          go_quiet (fail)
          go_wp2
          go_roundg (gk - 1)
          case measure=>omega
          case rel =>
           refine⟨x+1,_,by omega,by go_num,rfl,Lib.hid (fun j b z hj hb hz=>?_)⟩
           by_cases hjx:j<x
           ·exact hst.out j b z hjx hb hz
           ·obtain rfl:j=x:=by omega
            rw[Hb?.out]at hb;rw[Hy?.out]at hz;cases hb
            cases hz
            simp only;omega
      ·obtain rfl:x=s.length:=by omega
       go_wp2
       go_roundg (go - 1)
       case measure=>omega
       case rel =>
        refine⟨v+1,_,by omega,by go_num,rfl,Lib.hid (fun u s' hu hs'=>?_)⟩
        by_cases huv:u<v
        ·exact hok.out u s' huv hs'
        ·obtain rfl:u=v:=by omega
         rw[Hs?.out]at hs';cases hs'
         refine⟨by rw[yjq,Hsl.out],fun j b z hb hz=>hst.out j b z (List.getElem?_eq_some_iff.1 hz).1 hb hz⟩
    ·have c1':((s.length:Int) != (G.length:Int))=true:=by simp;omega
     have Hf:=Lib.hid (Hbad.out (fun h=>c1 (by rw[h.1,yjq])))
     clear c1
     go_wp2
     go_ret
     exact⟨ybc Hf.out.symm,below_drewN HbW.out _⟩
   ·obtain rfl:v=c.length:=by omega
    have Ht:=Lib.hid (ytx (n:=g.ports.length) (bs:=ydd g G) (c:=c) ⟨Hn.out,fun v s hs=>hok.out v s (List.getElem?_eq_some_iff.1 hs).1 hs⟩)
    go_wp2
    go_ret
    exact⟨ybc Ht.out.symm,below_drewN HbW.out _⟩
 ·have n1':((c.length:Int) != (g.ids.length:Int))=true:=by simp;omega
  have Hf:=Lib.hid (yhf (n:=g.ports.length) (bs:=ydd g G) (c:=c) (fun h=>n1 (h.1.trans hid.symm)))
  clear n1 hid
  go_enter Tryz.func102,Tryz.ntmps102
  go_wp2
  go_ret
  exact⟨ybc Hf.out.symm,(Below.refl _ _).alloc (Nat.le_refl _) _⟩
end Go.Proofs.YtiejahgklcjhkaaGreatDoor

namespace Go.Proofs.YtiejahgklcjhkaaGreatDoor
open Go
namespace Sh
open Ev Go.RowKit
set_option maxRecDepth 8000
def clmV(kind:Int)(fair silent:Bool)(rounds moves:Int):List SV:=[.i .i64 kind,.b fair,.b silent,.i .i64 rounds,.i .i64 moves]
theorem ybym{g:Gr}(hg:ybb g){c:Conf}(hR:ybnr c){G:List Int}(hG:∀ x ∈ G,I64 x):Returns Tryz.prog 102 [grV g,ybf c,yj G] (.b (ypd g.ports.length (ydd g G) c)):=by
 refine ysd ⟨_,_,Tryz.func102,rfl⟩ (fun _=>.b) (fun _=>.simple rfl) fun H m us hH hr φ M w us' hRl hs hv=>?_
 obtain⟨u,us2,rfl,h1,h2⟩:∃ u us2,us=u :: us2/\RV H om0 (grV g) u/\RVL H om0 [ybf c,yj G] us2:=by
  cases hr with | cons x y=>exact⟨_,_,rfl,x,y⟩
 obtain⟨u2,u3,rfl,h3,h4⟩:=rvl2 h2
 obtain⟨u',us3,rfl,h5,h6⟩:∃ u' us3,us'=u' :: us3/\VR φ u u'/\VRL φ [u2,u3] us3:=by
  cases hv with | cons x y=>exact⟨_,_,rfl,x,y⟩
 obtain⟨u2',u3',rfl,h7,h8⟩:=yrs h6;exact yna u' u2' u3' g c G w (ybjj hH h1 h5 hRl hs (ycak hg)) (ycwf hH h3 h7 hRl hs hR) (ints_at hH h4 h8 hRl hs hG) hg
end Sh
end Go.Proofs.YtiejahgklcjhkaaGreatDoor

