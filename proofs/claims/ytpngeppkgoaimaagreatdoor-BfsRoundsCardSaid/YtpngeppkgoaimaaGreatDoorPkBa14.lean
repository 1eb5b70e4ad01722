/- Lemmas, joined: GraphD BfsA BfsB BfsC RefC RefD SiB SiC Pg Ph SiD RowC. -/
import Derived.Test.YtpngeppkgoaimaaGreatDoorPkBa12
import Derived.Test.YtpngeppkgoaimaaGreatDoorPkBa9
import Derived.Test.YtpngeppkgoaimaaGreatDoorPkBa8
import Derived.Test.YtpngeppkgoaimaaGreatDoorPkBa13
import Derived.Test.YtpngeppkgoaimaaGreatDoorPkBa10
set_option linter.unusedSimpArgs false
set_option linter.unusedVariables false
namespace Go.Proofs.YtpngeppkgoaimaaGreatDoor
open Go.RowKit

theorem ybak (dv:Value) (D:List Int) (w:World) (hd:yen w dv D) :
  Calls Tryz.prog 110 #[dv] w fun e w'=>e = .returned (.int .i64 (ybm D)) /\ w = w':=by
 obtain ⟨A,c,rfl,hA1,hA2⟩:=ybf hd
 have Hd:=Lib.hid hd
 clear hd
 go_enter Tryz.func110,Tryz.ntmps110
 go_wp2
 go_loopg [3,8] D.length (fun q m t wr=>∃ k:Nat,q + k = D.length /\ t = .int .i64 k /\ wr = w /\ m = .int .i64 (ybm (D.take k)))
 case atStart=>exact ⟨0,by omega,rfl,rfl,by simp [ybm]⟩
 case round =>
  obtain ⟨k,hq,rfl,rfl,rfl⟩:=hrel
  by_cases hlt:k < D.length
  ·obtain ⟨b,off,rfl,hb,hc,hr⟩:=ydf Hd.out hlt
   have Hs:=Lib.hid (yjz D k hlt)
   go_wp2
   all_goals
    go_roundg (gk - 1)
    case measure=>omega
    case rel=>exact ⟨k + 1,by omega,by go_num,rfl,by rw [Hs.out]; try (congr 1; omega)⟩
  ·obtain rfl:k = D.length:=by omega
   go_wp2
   go_ret
   exact ⟨yfh (by rw [List.take_length]),rfl⟩

theorem yek (gv:Value) (g:Gr) (w:World) (hg:GrAt w gv g) :
  Calls Tryz.prog 100 #[gv] w fun e w'=>e = .returned (.bool (ycb g)) /\ Below w.heap.size w w':=by
 have hg0:=Lib.hid hg
 obtain ⟨i,p,rfl,hi,hp⟩:=hg
 clear hi hp
 cases hv:ych g with
 | false =>
  have Hf:=Lib.hid (show ycb g = false by unfold ycb; rw [hv]; rfl)
  go_enter Tryz.func100,Tryz.ntmps100
  go_wp2_with fail
  refine (ygb _ g _ (hg0.out.below ((Below.refl _ _).alloc (Nat.le_refl _) _))).mono ?_
  rintro e w1 ⟨rfl,hb1⟩
  go_wp2_with fail
  go_ret
  exact ⟨yx Hf.out.symm,ycr hb1⟩
 | true =>
  have hgood:=(ybz g).1 hv
  have hn1:=hgood.1
  have hn24:=hgood.2.1
  have Hgood:=Lib.hid hgood
  have Hd:=Lib.hid (ycm hgood (a:=0) (by omega))
  have Hc:=Lib.hid (show ycb g = (ybi g 0).all (fun x=>decide (0 <= x)) by unfold ycb; rw [hv]; rfl)
  clear hgood
  go_enter Tryz.func100,Tryz.ntmps100
  go_wp2_with fail
  refine (ygb _ g _ (hg0.out.below ((Below.refl _ _).alloc (Nat.le_refl _) _))).mono ?_
  rintro e w1 ⟨rfl,hb1⟩
  obtain ⟨q0,q1⟩:=ymj hb1
  have Hb1:=Lib.hid (ycr hb1)
  clear hb1
  go_wp2_with fail
  refine (ynk _ g 0 _ (hg0.out.below Hb1.out) Hgood.out (by omega)).mono ?_
  rintro e w2 ⟨v,rfl,hv2,hb2⟩
  have Hb2:=Lib.hid (Hb1.out.trans (hb2.mono Hb1.out.size))
  obtain ⟨A,c,rfl,hA1,hA2⟩:=ybf hv2
  have Hv2:=Lib.hid hv2
  clear hb2 hv2
  obtain ⟨D,hD⟩:∃ D,ybi g 0 = D:=⟨_,rfl⟩
  rw [hD] at Hv2 Hd hA1 Hc ⊢
  clear hD
  go_wp2
  go_loopg [11] D.length (fun q t wr=>∃ k:Nat,q + k = D.length /\ t = .int .i64 k /\ wr = w2 /\ Hid (∀ j (hj:j < D.length),j < k -> 0 <= D[j]))
  case atStart=>exact ⟨0,by omega,rfl,rfl,Lib.hid (fun j _ hj=>absurd hj (by omega))⟩
  case round =>
   obtain ⟨k,hq,rfl,rfl,hall⟩:=hrel
   by_cases hlt:k < D.length
   ·obtain ⟨b,off,rfl,hb,hc,hr⟩:=ydf Hv2.out hlt
    by_cases c1:D[k] < 0
    ·have Hf:=Lib.hid (show ycb g = false by
      rw [Hc.out,List.all_eq_false]
      exact ⟨D[k],List.getElem_mem hlt,by simp; omega⟩)
     go_wp2
     go_ret
     exact ⟨yx Hf.out.symm,Hb2.out⟩
    ·go_wp2
     go_roundg (gk - 1)
     case measure=>omega
     case rel =>
      refine ⟨k + 1,by omega,by go_num,rfl,Lib.hid (fun j hj hjk=>?_)⟩
      by_cases e:j = k
      ·subst e; omega
      ·exact hall.out j hj (by omega)
   ·obtain rfl:k = D.length:=by omega
    have Ht:=Lib.hid (show ycb g = true by
     rw [Hc.out,List.all_eq_true]
     intro x hx
     obtain ⟨j,hj,rfl⟩:=List.mem_iff_getElem.1 hx
     exact decide_eq_true (hall.out j hj hj))
    go_wp2
    go_ret
    exact ⟨yx Ht.out.symm,Hb2.out⟩

theorem yga {g:Gr} (h:ycb g = true):ych g = true:=(Bool.and_eq_true _ _ ▸ h).1

theorem yot (gv:Value) (g:Gr) (v:Int) (w:World) (hg:GrAt w gv g) :
  Calls Tryz.prog 74 #[gv,.int .i64 v] w fun e w'=>e = .returned (.int .i64 (eccP g v)) /\ Below w.heap.size w w':=by
 have hg0:=Lib.hid hg
 obtain ⟨i,p,rfl,hi,hp⟩:=hg
 obtain ⟨A2,c2,rfl,hB1,hB2⟩:=ybf hp
 clear hi hp
 cases hc:ycb g with
 | false =>
  have Hf:=Lib.hid (show eccP g v = -1 by unfold eccP; rw [hc]; simp)
  go_enter Tryz.func74,Tryz.ntmps74
  go_wp2_with fail
  refine (yek _ g _ (hg0.out.below ((Below.refl _ _).alloc (Nat.le_refl _) _))).mono ?_
  rintro e w1 ⟨rfl,hb1⟩
  go_wp2_with fail
  go_ret
  exact ⟨yfh Hf.out.symm,ycr hb1⟩
 | true =>
  have Hgood:=Lib.hid ((ybz g).1 (yga hc))
  by_cases c1:v < 0
  ·have Hf:=Lib.hid (show eccP g v = -1 by unfold eccP; rw [if_neg]; omega)
   go_enter Tryz.func74,Tryz.ntmps74
   go_wp2_with fail
   refine (yek _ g _ (hg0.out.below ((Below.refl _ _).alloc (Nat.le_refl _) _))).mono ?_
   rintro e w1 ⟨rfl,hb1⟩
   go_wp2_with fail
   go_ret
   exact ⟨yfh Hf.out.symm,ycr hb1⟩
  ·by_cases c2:v < g.ports.length
   ·obtain ⟨u,rfl⟩:=Int.eq_ofNat_of_zero_le (show 0 <= v by omega)
    have Hf:=Lib.hid (show eccP g u = ybm (ybi g u) by unfold eccP; rw [if_pos ⟨hc,by omega,c2⟩]; rfl)
    have c3:u < g.ports.length:=by omega
    have c4:decide ((g.ports.length:Int) <= (u:Int)) = false:=by simp; omega
    have c5:decide (g.ports.length <= u) = false:=by simp; omega
    go_enter Tryz.func74,Tryz.ntmps74
    go_wp2_with fail
    refine (yek _ g _ (hg0.out.below ((Below.refl _ _).alloc (Nat.le_refl _) _))).mono ?_
    rintro e w1 ⟨rfl,hb1⟩
    obtain ⟨q0,q1⟩:=ymj hb1
    have Hb1:=Lib.hid (ycr hb1)
    clear hb1
    go_wp2_with fail
    refine (ynk _ g u _ (hg0.out.below Hb1.out) Hgood.out c3).mono ?_
    rintro e w2 ⟨x,rfl,hv2,hb2⟩
    have Hb2:=Lib.hid (Hb1.out.trans (hb2.mono Hb1.out.size))
    have Hv2:=Lib.hid hv2
    clear hb2 hv2
    go_wp2_with fail
    refine (ybak _ _ _ Hv2.out).mono ?_
    rintro e w3 ⟨rfl,rfl⟩
    go_wp2_with fail
    go_ret
    exact ⟨yfh Hf.out.symm,Hb2.out⟩
   ·have Hf:=Lib.hid (show eccP g v = -1 by unfold eccP; rw [if_neg]; omega)
    have c4:decide ((g.ports.length:Int) <= v) = true:=by simp; omega
    go_enter Tryz.func74,Tryz.ntmps74
    go_wp2_with fail
    refine (yek _ g _ (hg0.out.below ((Below.refl _ _).alloc (Nat.le_refl _) _))).mono ?_
    rintro e w1 ⟨rfl,hb1⟩
    obtain ⟨q0,q1⟩:=ymj hb1
    go_wp2_with fail
    go_ret
    exact ⟨yfh Hf.out.symm,ycr hb1⟩

theorem ywt (gv:Value) (g:Gr) (v:Int) (w:World) (hg:GrAt w gv g) :
  Calls Tryz.prog 71 #[gv,.int .i64 v] w (ybdo (ygv g v) w):=by
 have hg0:=Lib.hid hg
 obtain ⟨i,p,rfl,hi,hp⟩:=hg
 obtain ⟨A2,c2,rfl,hB1,hB2⟩:=ybf hp
 clear hi hp
 cases hc:ych g with
 | false =>
  have Hf:=Lib.hid (show ygv g v = [] from yep (by simp [hc]))
  go_enter Tryz.func71,Tryz.ntmps71
  go_wp2_with fail
  refine (ygb _ g _ (hg0.out.below ((Below.refl _ _).alloc (Nat.le_refl _) _))).mono ?_
  rintro e w1 ⟨rfl,hb1⟩
  go_wp2_with fail
  go_ret
  exact ⟨_,rfl,by rw [Hf.out]; exact SlAt.nil _,ycr hb1⟩
 | true =>
  have Hgood:=Lib.hid ((ybz g).1 hc)
  by_cases c1:v < 0
  ·have Hf:=Lib.hid (show ygv g v = [] from yep (by omega))
   go_enter Tryz.func71,Tryz.ntmps71
   go_wp2_with fail
   refine (ygb _ g _ (hg0.out.below ((Below.refl _ _).alloc (Nat.le_refl _) _))).mono ?_
   rintro e w1 ⟨rfl,hb1⟩
   go_wp2_with fail
   go_ret
   exact ⟨_,rfl,by rw [Hf.out]; exact SlAt.nil _,ycr hb1⟩
  ·by_cases c2:v < g.ports.length
   ·obtain ⟨u,rfl⟩:=Int.eq_ofNat_of_zero_le (show 0 <= v by omega)
    have Hf:=Lib.hid (show ygv g u = ybi g u from yjc hc (by omega) c2)
    have c3:u < g.ports.length:=by omega
    have c4:decide ((g.ports.length:Int) <= (u:Int)) = false:=by simp; omega
    have c5:decide (g.ports.length <= u) = false:=by simp; omega
    go_enter Tryz.func71,Tryz.ntmps71
    go_wp2_with fail
    refine (ygb _ g _ (hg0.out.below ((Below.refl _ _).alloc (Nat.le_refl _) _))).mono ?_
    rintro e w1 ⟨rfl,hb1⟩
    obtain ⟨q0,q1⟩:=ymj hb1
    have Hb1:=Lib.hid (ycr hb1)
    clear hb1
    go_wp2_with fail
    refine (ynk _ g u _ (hg0.out.below Hb1.out) Hgood.out c3).mono ?_
    rintro e w2 ⟨x,rfl,hv2,hb2⟩
    have Hb2:=Lib.hid (Hb1.out.trans (hb2.mono Hb1.out.size))
    have Hv2:=Lib.hid hv2
    clear hb2 hv2
    go_wp2_with fail
    go_ret
    exact ⟨_,rfl,by rw [Hf.out]; exact Hv2.out,Hb2.out⟩
   ·have Hf:=Lib.hid (show ygv g v = [] from yep (by omega))
    have c4:decide ((g.ports.length:Int) <= v) = true:=by simp; omega
    go_enter Tryz.func71,Tryz.ntmps71
    go_wp2_with fail
    refine (ygb _ g _ (hg0.out.below ((Below.refl _ _).alloc (Nat.le_refl _) _))).mono ?_
    rintro e w1 ⟨rfl,hb1⟩
    obtain ⟨q0,q1⟩:=ymj hb1
    go_wp2_with fail
    go_ret
    exact ⟨_,rfl,by rw [Hf.out]; exact SlAt.nil _,ycr hb1⟩
end Go.Proofs.YtpngeppkgoaimaaGreatDoor

namespace Go.Proofs.YtpngeppkgoaimaaGreatDoor
open Go.RowKit

theorem ykd (g:Gr) (G:List Int) (v:Nat):(yeg g G v).length = G.length:=by simp [yeg]

set_option maxHeartbeats 2000000 in
theorem yns (gv cv Gv:Value) (g:Gr) (c:Conf) (G:List Int) (w:World) (hg:GrAt w gv g) (hc:ybhc w cv c) (hG:yen w Gv G) (hgood:ybc g) :
  Calls Tryz.prog 79 #[gv,cv,Gv] w fun e w'=>e = .returned (.bool (yor g.ports.length (yeg g G) c)) /\ Below w.heap.size w w':=by
 have hn24:=hgood.2.1
 have hid:=hgood.2.2.1
 have Hid':=Lib.hid hid
 clear hgood
 obtain ⟨i,p,rfl,hi,hp⟩:=hg
 obtain ⟨A,c0,rfl,hA1,hA2⟩:=ybf hi
 obtain ⟨A2,c2,rfl,hB1,hB2⟩:=ybf hp
 obtain ⟨A3,c3,rfl,hC1,hC2⟩:=ybf hc
 obtain ⟨A4,c4,rfl,hD1,hD2⟩:=ybf hG
 have Hp:=Lib.hid hp
 have Hc:=Lib.hid hc
 have HG:=Lib.hid hG
 clear hi hp hc hG
 by_cases n1:c.length = g.ids.length
 ·have n1':((c.length:Int) != (g.ids.length:Int)) = false:=by simp [n1]
  have Hn:=Lib.hid (n1.trans hid)
  have hcn:c.length <= 24:=by omega
  clear n1 hid
  go_enter Tryz.func79,Tryz.ntmps79
  go_wp2
  obtain ⟨W1,hW1⟩:∃ W,W = w.alloc (.cells #[.slice A g.ids.length c0,.slice A2 g.ports.length c2] 28):=⟨_,rfl⟩
  have hbox:W1.cell? ⟨w.heap.size,1,none⟩ = some (.slice A2 g.ports.length c2):=by subst hW1; simp
  have HbW:=Lib.hid (show Below w.heap.size w W1 by subst hW1; exact (Below.refl _ _).alloc (Nat.le_refl _) _)
  rw [<- hW1]
  clear hW1
  go_loopg [21] c.length (fun q t wr=>∃ v n:Nat,q + v = c.length /\ t = .int .i64 v /\ wr = W1.drewN n /\ Hid (∀ (u:Nat) s,u < v -> c[u]? = some s -> yed (yeg g G u) s))
  case atStart=>exact ⟨0,0,by omega,rfl,rfl,Lib.hid (fun u s hu=>absurd hu (by omega))⟩
  case round =>
   obtain ⟨v,n,hq,rfl,rfl,hok⟩:=hrel
   by_cases hlt:v < c.length
   ·obtain ⟨b3,off3,sv,rfl,hb3,hcs,hs⟩:=yei (Hc.out.below (Stable.sl Stable.int) HbW.out) (List.getElem?_eq_getElem hlt)
    obtain ⟨A5,c5,rfl,hE1,hE2⟩:=ybf hs
    obtain ⟨s,hse⟩:∃ s,c[v] = s:=⟨_,rfl⟩
    have Hs?:=Lib.hid (show c[v]? = some s by rw [List.getElem?_eq_getElem hlt,hse])
    rw [hse] at hs hcs hE1
    have Hbad:=Lib.hid (show ¬ yed (yeg g G v) s -> yor g.ports.length (yeg g G) c = false from fun h=>yhq (fun hc=>h (hc.2 v s Hs?.out)))
    have Hs:=Lib.hid hs
    clear hs hse
    by_cases c1:s.length = G.length
    ·have c1':((s.length:Int) != (G.length:Int)) = false:=by simp [c1]
     have Hsl:=Lib.hid c1
     clear c1
     have hvp:v < g.ports.length:=by rw [<- Hn.out]; exact hlt
     go_wp2
     obtain ⟨go,rfl⟩:∃ go,go = gk:=⟨_,rfl⟩
     go_loopg [33] s.length (fun q t wr=>∃ x n:Nat,q + x = s.length /\ t = .int .i64 x /\ wr = W1.drewN n /\ Hid (∀ (j:Nat) b z,j < x -> (yeg g G v)[j]? = some b -> s[j]? = some z -> b.1 <= z /\ z <= b.2))
     case atStart=>exact ⟨0,n,by omega,rfl,rfl,Lib.hid (fun j b z hj=>absurd hj (by omega))⟩
     case round =>
      obtain ⟨x,n,hqx,rfl,rfl,hst⟩:=hrel
      by_cases hxl:x < s.length
      ·have hxG:x < G.length:=by rw [<- Hsl.out]; exact hxl
       obtain ⟨b5,o5,rfl,hb5,hc5,hr5⟩:=ydf (Hs.out) hxl
       obtain ⟨b6,o6,rfl,hb6,hc6,hr6⟩:=ydf (HG.out.below Stable.int HbW.out) hxG
       obtain ⟨b7,o7,lv,rfl,hb7,hc7,hl7⟩:=yei (Hp.out.below (Stable.sl Stable.link) HbW.out) (List.getElem?_eq_getElem hvp)
       obtain ⟨A8,c8,rfl,hF1,hF2⟩:=ybf hl7
       obtain ⟨ds,hds⟩:∃ ds,g.ports[v] = ds:=⟨_,rfl⟩
       have hdeg:ybvm g v = ds.length:=by simp [ybvm,List.getD,List.getElem?_eq_getElem hvp,hds]
       rw [hds] at hc7 hF1
       obtain ⟨y,hy⟩:∃ y,s[x] = y:=⟨_,rfl⟩
       obtain ⟨h,hh⟩:∃ h,G[x] = h:=⟨_,rfl⟩
       have Hy?:=Lib.hid (show s[x]? = some y by rw [List.getElem?_eq_getElem hxl,hy])
       have hb?:(yeg g G v)[x]? = some (if h = -1 then (-1,(ds.length:Int) - 1) else (0,h)):=by
        simp [yeg,hxG,hh,hdeg]
       rw [hy] at hc5 hr5
       rw [hh] at hc6 hr6
       obtain ⟨hr5a,hr5b⟩:=hr5
       obtain ⟨hr6a,hr6b⟩:=hr6
       clear hl7 hds hdeg hy hh
       by_cases c2:h = -1
       ·have c2':(h == -1) = true:=by simp [c2]
        rw [if_pos c2] at hb?
        have Hb?:=Lib.hid hb?
        clear hb? c2
        by_cases c3:y < -1
        ·have Hf:=Lib.hid (Hbad.out (fun h=>by have:=h.2 x _ y Hb?.out Hy?.out; simp only at this; omega))
         go_wp2
         go_quiet (fail)
         go_wp2
         go_quiet (fail)
         go_wp2
         go_ret
         exact ⟨yx Hf.out.symm,below_drewN HbW.out _⟩
        ·by_cases c4:(ds.length:Int) - 1 < y
         ·have Hf:=Lib.hid (Hbad.out (fun h=>by have:=h.2 x _ y Hb?.out Hy?.out; simp only at this; omega))
          go_wp2
          go_quiet (fail)
          go_wp2
          go_quiet (fail)
          go_wp2
          go_ret
          exact ⟨yx Hf.out.symm,below_drewN HbW.out _⟩
         ·have c4d:decide ((ds.length:Int) - 1 < y) = false:=by simp; omega
          go_wp2
          go_quiet (fail)
          go_wp2
          go_quiet (fail)
          go_wp2
          go_roundg (gk - 1)
          case measure=>omega
          case rel =>
           refine ⟨x + 1,_,by omega,by go_num,rfl,Lib.hid (fun j b z hj hb hz=>?_)⟩
           by_cases hjx:j < x
           ·exact hst.out j b z hjx hb hz
           ·obtain rfl:j = x:=by omega
            rw [Hb?.out] at hb
            rw [Hy?.out] at hz
            cases hb
            cases hz
            simp only
            omega
       ·have c2':(h == -1) = false:=by simp [c2]
        rw [if_neg c2] at hb?
        have Hb?:=Lib.hid hb?
        clear hb? c2
        by_cases c3:y < 0
        ·have Hf:=Lib.hid (Hbad.out (fun h=>by have:=h.2 x _ y Hb?.out Hy?.out; simp only at this; omega))
         go_wp2
         go_quiet (fail)
         go_wp2
         go_ret
         exact ⟨yx Hf.out.symm,below_drewN HbW.out _⟩
        ·by_cases c4:h < y
         ·have Hf:=Lib.hid (Hbad.out (fun h=>by have:=h.2 x _ y Hb?.out Hy?.out; simp only at this; omega))
          go_wp2
          go_quiet (fail)
          go_wp2
          go_ret
          exact ⟨yx Hf.out.symm,below_drewN HbW.out _⟩
         ·have c4d:decide (h < y) = false:=by simp; omega
          go_wp2
          go_quiet (fail)
          go_wp2
          go_roundg (gk - 1)
          case measure=>omega
          case rel =>
           refine ⟨x + 1,_,by omega,by go_num,rfl,Lib.hid (fun j b z hj hb hz=>?_)⟩
           by_cases hjx:j < x
           ·exact hst.out j b z hjx hb hz
           ·obtain rfl:j = x:=by omega
            rw [Hb?.out] at hb
            rw [Hy?.out] at hz
            cases hb
            cases hz
            simp only
            omega
      ·obtain rfl:x = s.length:=by omega
       go_wp2
       go_roundg (go - 1)
       case measure=>omega
       case rel =>
        refine ⟨v + 1,_,by omega,by go_num,rfl,Lib.hid (fun u s' hu hs'=>?_)⟩
        by_cases huv:u < v
        ·exact hok.out u s' huv hs'
        ·obtain rfl:u = v:=by omega
         rw [Hs?.out] at hs'
         cases hs'
         refine ⟨by rw [ykd,Hsl.out],fun j b z hb hz=>hst.out j b z (List.getElem?_eq_some_iff.1 hz).1 hb hz⟩
    ·have c1':((s.length:Int) != (G.length:Int)) = true:=by simp; omega
     have Hf:=Lib.hid (Hbad.out (fun h=>c1 (by rw [h.1,ykd])))
     clear c1
     go_wp2
     go_ret
     exact ⟨yx Hf.out.symm,below_drewN HbW.out _⟩
   ·obtain rfl:v = c.length:=by omega
    have Ht:=Lib.hid (ysz (n:=g.ports.length) (bs:=yeg g G) (c:=c) ⟨Hn.out,fun v s hs=>hok.out v s (List.getElem?_eq_some_iff.1 hs).1 hs⟩)
    go_wp2
    go_ret
    exact ⟨yx Ht.out.symm,below_drewN HbW.out _⟩
 ·have n1':((c.length:Int) != (g.ids.length:Int)) = true:=by simp; omega
  have Hf:=Lib.hid (yhq (n:=g.ports.length) (bs:=yeg g G) (c:=c) (fun h=>n1 (h.1.trans hid.symm)))
  clear n1 hid
  go_enter Tryz.func79,Tryz.ntmps79
  go_wp2
  go_ret
  exact ⟨yx Hf.out.symm,(Below.refl _ _).alloc (Nat.le_refl _) _⟩
end Go.Proofs.YtpngeppkgoaimaaGreatDoor

namespace Go.Proofs.YtpngeppkgoaimaaGreatDoor
open Go.RowKit

theorem ybbb (u wt:Int) (bd bv:Nat) (dv:Value) (D:List Int) (v:Nat) (w:World) (h1:w.cell? ⟨bd,0,none⟩ = some dv) (h2:w.cell? ⟨bv,0,none⟩ = some (.int .i64 v)) (hD:yen w dv D)
  (hu:0 <= u) (hul:u < D.length) (hv:v < D.length) (hb:-1 <= D[v]) (hb2:D[v] <= 1000) :
  Calls Tryz.prog 109 #[.agg #[.int .i64 u,.int .i64 wt],.pointer (some ⟨bd,0,none⟩),.pointer (some ⟨bv,0,none⟩)] w fun e w'=>e = .returned (.bool (yeh D v (u,wt))) /\ Below w.heap.size w w':=by
 obtain ⟨n,rfl⟩:=Int.eq_ofNat_of_zero_le hu
 have hnl:n < D.length:=by omega
 obtain ⟨b,off,c,rfl,hbl,hc1,hc2,hcn,_⟩:=hD.at_ hnl
 obtain ⟨b',off',c',e',_,_,_,hcv,_⟩:=hD.at_ hv
 cases e'
 have hbd:=World.block_lt_of_cell? w _ h1
 have hbv:=World.block_lt_of_cell? w _ h2
 simp only at hbd hbv
 have Ht:=Lib.hid (show yeh D v ((n:Int),wt) = (D[n] == D[v] - 1) by simp [yeh,List.getD,hnl,hv])
 clear hD
 go_enter Tryz.func109,Tryz.ntmps109
 go_wp2
 go_quiet (fail)
 go_wp2
 go_ret
 exact ⟨yx Ht.out.symm,below_drewN ((Below.refl _ _).alloc (Nat.le_refl _) _) _⟩

end Go.Proofs.YtpngeppkgoaimaaGreatDoor

namespace Go.Proofs.YtpngeppkgoaimaaGreatDoor
open Go.RowKit

theorem ydcv (w:World) (x y:Int) (hx:I64 x) (hy:I64 y):yen (w.alloc (.cells #[.int .i64 x,.int .i64 y] 3)) (.slice (some ⟨w.heap.size,0,none⟩) 2 2) [x,y]:=by
 refine ⟨_,2,rfl,by simp,by omega,fun _=>⟨w.heap.size,0,rfl,by simp,fun j z hj=>?_⟩⟩
 match j,hj with
 | 0,hj=>simp at hj; subst hj; exact ⟨by simp,hx⟩
 | 1,hj=>simp at hj; subst hj; exact ⟨by simp,hy⟩
 | j + 2,hj=>simp at hj

theorem ybym {w:World} {x:Value} {t:TypeId} {o:Obj}:((w.alloc (.cells #[x] t)).alloc o).cell? ⟨w.heap.size,0,none⟩ = some x:=ybzq (by simp)

theorem yxm (acc:Int × Int -> Bool) (ls:List (Int × Int)):-1 <= ydg acc ls /\ ydg acc ls <= ls.length:=by
 unfold ydg
 split
 ·rename_i i hi
  obtain ⟨hlt,_⟩:=List.findIdx?_eq_some_iff_getElem.1 hi
  omega
 ·omega

set_option maxHeartbeats 1000000 in
theorem ybqq (gv dv sv:Value) (g:Gr) (v:Nat) (D s:List Int) (w:World) (hg:GrAt w gv g) (hD:yen w dv D) (hs:yen w sv s) (hgood:ybc g) (hv:v < g.ports.length) (hDl:D.length = g.ports.length) (hDb:∀ x ∈ D,-1 <= x /\ x <= 1000) :
  Calls Tryz.prog 72 #[gv,.int .i64 v,dv,sv] w fun e w'=>e = .returned (.bool (yls g D v s)) /\ Below w.heap.size w w':=by
 have hg0:=Lib.hid hg
 have hn24:=hgood.2.1
 obtain ⟨i,p,rfl,hi,hp⟩:=hg
 obtain ⟨A2,c2,rfl,hB1,hB2⟩:=ybf hp
 clear hi hp
 have hvD:v < D.length:=by omega
 obtain ⟨ls,hls⟩:∃ ls,g.ports[v]? = some ls:=⟨_,List.getElem?_eq_getElem hv⟩
 have hll:ls.length < g.ports.length:=by
  have:=(hgood.v2 hv _ ls (List.getElem?_eq_getElem (by rw [hgood.2.2.1]; exact hv)) hls).2.1
  exact this
 obtain ⟨x,hx⟩:∃ x,D[v] = x:=⟨_,rfl⟩
 have hxb:=hDb _ (List.getElem_mem hvD)
 rw [hx] at hxb
 obtain ⟨hxb1,hxb2⟩:=hxb
 have Hway:=Lib.hid (show wayP g D v = ydg (yeh D v) ls by unfold wayP; rw [show g.ports.getD v [] = ls by simp [List.getD,hls]])
 have Hgd:=Lib.hid (show D.getD v 0 = x by simp [List.getD,hvD,hx])
 obtain ⟨bd,od,cd,rfl,hbd,hd1,hd2,hdc,_⟩:=hD.at_ hvD
 rw [hx] at hdc
 have HD:=Lib.hid hD
 have Hs:=Lib.hid hs
 have Hlk:=Lib.hid (fun l (hl:l ∈ ls)=>hgood.link hls hl)
 have Hls:=Lib.hid hls
 have HDl:=Lib.hid hDl
 have HDb:=Lib.hid hDb
 have Hx:=Lib.hid hx
 clear hD hs hls hDl hDb hx hgood
 go_enter Tryz.func72,Tryz.ntmps72
 go_wp2_with fail
 obtain ⟨W1,hW1⟩:∃ W,W = ((w.alloc (.cells #[i,.slice A2 g.ports.length c2] 28)).alloc (.cells #[.int .i64 (v:Int)] 3)).alloc (.cells #[.slice (some ⟨bd,od,none⟩) D.length cd] 22):=⟨_,rfl⟩
 have Hb1:=Lib.hid (show Below w.heap.size w W1 by subst hW1; exact (((Below.refl _ _).alloc (Nat.le_refl _) _).alloc (by simp) _).alloc (by simp; omega) _)
 have hv1:W1.cell? ⟨w.heap.size + 1,0,none⟩ = some (.int .i64 (v:Int)):=by
  subst hW1
  have:=ybym (w:=w.alloc (.cells #[i,.slice A2 g.ports.length c2] 28)) (x:=.int .i64 (v:Int)) (t:=3) (o:=.cells #[.slice (some ⟨bd,od,none⟩) D.length cd] 22)
  simpa using this
 have hd1':W1.cell? ⟨w.heap.size + 2,0,none⟩ = some (.slice (some ⟨bd,od,none⟩) D.length cd):=by
  subst hW1
  have:=World.cell?_alloc_new ((w.alloc (.cells #[i,.slice A2 g.ports.length c2] 28)).alloc (.cells #[.int .i64 (v:Int)] 3)) #[.slice (some ⟨bd,od,none⟩) D.length cd] 22 0
  simpa using this
 rw [<- hW1]
 clear hW1
 refine (yuy _ g v ls _ _ (yeh D v) W1 (hg0.out.below Hb1.out) Hls.out ?_).mono ?_
 ·intro l hl W hW
  obtain ⟨k1,k2,k3,k4,k5⟩:=Hlk.out l hl
  refine ybbb l.1 l.2 _ _ _ D v W (ybr hW _ _ hd1') (ybr hW _ _ hv1) ((HD.out.below Stable.int Hb1.out).below Stable.int hW) k1 (by rw [HDl.out]; exact k2) hvD (by rw [Hx.out]; exact hxb1) (by rw [Hx.out]; exact hxb2)
 ·rintro e w2 ⟨rfl,hb2⟩
  have Hb2:=Lib.hid (Hb1.out.trans (hb2.mono Hb1.out.size))
  have hv2:=ybr hb2 _ _ hv1
  have hd2:=ybr hb2 _ _ hd1'
  have hdc2:=ybr Hb2.out _ _ hdc
  have hrg:=yxm (yeh D v) ls
  have Hrb:=Lib.hid (show yls g D v s = decide (s = [x,ydg (yeh D v) ls]) by unfold yls; rw [Hgd.out,Hway.out])
  obtain ⟨y,hy⟩:∃ y,ydg (yeh D v) ls = y:=⟨_,rfl⟩
  rw [hy] at hrg Hrb ⊢
  obtain ⟨hrg1,hrg2⟩:=hrg
  clear hb2 hv1 hd1' hy
  go_wp2_with fail
  refine (ybqr _ _ s [x,y] _ (Hs.out.below Stable.int (Hb2.out.alloc Hb2.out.size _)) (ydcv w2 x y ⟨by omega,by omega⟩ ⟨by omega,by omega⟩)).mono ?_
  rintro e w3 ⟨rfl,m,rfl⟩
  go_wp2_with fail
  go_ret
  exact ⟨yx Hrb.out.symm,below_drewN (Hb2.out.alloc Hb2.out.size _) _⟩

theorem yuv (gv:Value) (g:Gr) (w:World) (hg:GrAt w gv g) :
  Calls Tryz.prog 82 #[gv] w fun e w'=>e = .returned (.bool (ycb g)) /\ Below w.heap.size w w':=by
 have hg0:=Lib.hid hg
 obtain ⟨i,p,rfl,hi,hp⟩:=hg
 clear hi hp
 go_enter Tryz.func82,Tryz.ntmps82
 go_wp2_with fail
 refine (yek _ g _ (hg0.out.below ((Below.refl _ _).alloc (Nat.le_refl _) _))).mono ?_
 rintro e w1 ⟨rfl,hb1⟩
 go_wp2_with fail
 go_ret
 exact ⟨rfl,ycr hb1⟩

def ydy (g:Gr) (c:Conf):Bool:=ycb g && yor g.ports.length (yeg g [(g.ports.length:Int),-1]) c

theorem yeo (gv cv:Value) (g:Gr) (c:Conf) (w:World) (hg:GrAt w gv g) (hc:ybhc w cv c) :
  Calls Tryz.prog 69 #[gv,cv] w fun e w'=>e = .returned (.bool (ydy g c)) /\ Below w.heap.size w w':=by
 have hg0:=Lib.hid hg
 have hc0:=Lib.hid hc
 obtain ⟨i,p,rfl,hi,hp⟩:=hg
 obtain ⟨A,c0,rfl,hA1,hA2⟩:=ybf hi
 clear hi hp hc
 cases hcn:ycb g with
 | false =>
  have Hf:=Lib.hid (show ydy g c = false by unfold ydy; rw [hcn]; rfl)
  go_enter Tryz.func69,Tryz.ntmps69
  go_wp2_with fail
  refine (yuv _ g _ (hg0.out.below ((Below.refl _ _).alloc (Nat.le_refl _) _))).mono ?_
  rintro e w1 ⟨rfl,hb1⟩
  go_wp2_with fail
  go_ret
  exact ⟨yx Hf.out.symm,ycr hb1⟩
 | true =>
  have hgood:=(ybz g).1 (yga hcn)
  have Hgood:=Lib.hid hgood
  have hidn:=hgood.2.2.1
  have hn24:=hgood.2.1
  have Hf:=Lib.hid (show ydy g c = yor g.ports.length (yeg g [(g.ids.length:Int),-1]) c by unfold ydy; rw [hcn,hidn]; rfl)
  have hid24:g.ids.length <= 24:=by omega
  clear hgood hidn
  go_enter Tryz.func69,Tryz.ntmps69
  go_wp2_with fail
  refine (yuv _ g _ (hg0.out.below ((Below.refl _ _).alloc (Nat.le_refl _) _))).mono ?_
  rintro e w1 ⟨rfl,hb1⟩
  obtain ⟨q0,q1⟩:=ymj hb1
  have Hb1:=Lib.hid (ycr hb1)
  clear hb1
  go_wp2_with fail
  refine (yns _ _ _ g c [(g.ids.length:Int),-1] _ (hg0.out.below (Hb1.out.alloc Hb1.out.size _)) (hc0.out.below (Stable.sl Stable.int) (Hb1.out.alloc Hb1.out.size _)) (ydcv w1 _ _ ⟨by omega,by omega⟩ ⟨by omega,by omega⟩) Hgood.out).mono ?_
  rintro e w2 ⟨rfl,hb2⟩
  go_wp2_with fail
  go_ret
  exact ⟨yx Hf.out.symm,Hb1.out.trans ((ycr hb2).mono Hb1.out.size)⟩

def ybq (g:Gr) (c:Conf):Bool:=ydy g c && c.zipIdx.all (fun p=>yls g (ybi g 0) p.2 p.1)

theorem yxu {c:Conf} {f:List Int -> Nat -> Bool} {v:Nat} {s:List Int} (hs:c[v]? = some s) (h:f s v = false):c.zipIdx.all (fun p=>f p.1 p.2) = false:=by
 rw [List.all_eq_false]
 exact ⟨(s,v),List.mem_zipIdx_iff_getElem?.2 hs,by simp [h]⟩
theorem ybbv {c:Conf} {f:List Int -> Nat -> Bool} (h:∀ (v:Nat) s,c[v]? = some s -> f s v = true):c.zipIdx.all (fun p=>f p.1 p.2) = true:=by
 rw [List.all_eq_true]
 rintro ⟨s,v⟩ hp
 exact h v s (List.mem_zipIdx_iff_getElem?.1 hp)

set_option maxHeartbeats 1000000 in
theorem yboq (gv cv:Value) (g:Gr) (c:Conf) (w:World) (hg:GrAt w gv g) (hc:ybhc w cv c) :
  Calls Tryz.prog 36 #[gv,cv] w fun e w'=>e = .returned (.bool (ybq g c)) /\ Below w.heap.size w w':=by
 have hg0:=Lib.hid hg
 have hc0:=Lib.hid hc
 obtain ⟨i,p,rfl,hi,hp⟩:=hg
 obtain ⟨A3,c3,rfl,hC1,hC2⟩:=ybf hc
 clear hi hp hc
 cases hcn:ydy g c with
 | false =>
  have Hf:=Lib.hid (show ybq g c = false by unfold ybq; rw [hcn]; rfl)
  go_enter Tryz.func36,Tryz.ntmps36
  go_wp2_with fail
  refine (yeo _ _ g c _ (hg0.out.below ((Below.refl _ _).alloc (Nat.le_refl _) _)) (hc0.out.below (Stable.sl Stable.int) ((Below.refl _ _).alloc (Nat.le_refl _) _))).mono ?_
  rintro e w1 ⟨rfl,hb1⟩
  go_wp2_with fail
  go_ret
  exact ⟨yx Hf.out.symm,ycr hb1⟩
 | true =>
  have hconn:ycb g = true:=(Bool.and_eq_true _ _ ▸ hcn).1
  have hconf:=(yfb _ _ _).1 (Bool.and_eq_true _ _ ▸ hcn).2
  have hgood:=(ybz g).1 (yga hconn)
  have hn1:=hgood.1
  have hn24:=hgood.2.1
  have Hcl:=Lib.hid hconf.1
  have hcl24:c.length <= 24:=by have:=hconf.1; omega
  have Hds:=Lib.hid (show ygv g 0 = ybi g 0 from yjc (yga hconn) (by omega) (by omega))
  have Hdl:=Lib.hid (ycm hgood (a:=0) (by omega))
  have Hdb:=Lib.hid (show ∀ x ∈ ybi g 0,-1 <= x /\ x <= 1000 from fun x hx=>by have:=(ydc hgood (a:=0) (by omega)).bound hgood (by omega) x hx; omega)
  have Hl:=Lib.hid (show ybq g c = c.zipIdx.all (fun p=>yls g (ybi g 0) p.2 p.1) by unfold ybq; rw [hcn]; rfl)
  have Hgood:=Lib.hid hgood
  clear hgood hconf hconn
  go_enter Tryz.func36,Tryz.ntmps36
  go_wp2_with fail
  refine (yeo _ _ g c _ (hg0.out.below ((Below.refl _ _).alloc (Nat.le_refl _) _)) (hc0.out.below (Stable.sl Stable.int) ((Below.refl _ _).alloc (Nat.le_refl _) _))).mono ?_
  rintro e w1 ⟨rfl,hb1⟩
  obtain ⟨q0,q1⟩:=ymj hb1
  have Hb1:=Lib.hid (ycr hb1)
  clear hb1
  go_wp2_with fail
  refine (ywt _ g 0 _ (hg0.out.below Hb1.out)).mono ?_
  rintro e w2 ⟨dv,rfl,hdv,hb2⟩
  rw [Hds.out] at hdv
  have q0':=ybr hb2 _ _ q0
  have q1':=ybr hb2 _ _ q1
  have Hb2:=Lib.hid (Hb1.out.trans (hb2.mono Hb1.out.size))
  have hsz2:w.heap.size < w2.heap.size:=World.block_lt_of_cell? _ _ q0'
  have Hdv:=Lib.hid hdv
  obtain ⟨D,hD⟩:∃ D,ybi g 0 = D:=⟨_,rfl⟩
  rw [hD] at Hdv Hdl Hdb Hl
  clear hb2 hdv hD q0 q1 Hb1 Hds
  go_wp2
  go_loopg [16] c.length (fun q t wr=>∃ v:Nat,q + v = c.length /\ t = .int .i64 v /\ Hid (Below w2.heap.size w2 wr) /\ Hid (∀ (u:Nat) s,u < v -> c[u]? = some s -> yls g D u s = true))
  case atStart=>exact ⟨0,by omega,rfl,Lib.hid (Below.refl _ _),Lib.hid (fun u s hu=>absurd hu (by omega))⟩
  case round =>
   obtain ⟨v,hq,rfl,hbel,hok⟩:=hrel
   have p0:=ybr hbel.out _ _ q0'
   have p1:=ybr hbel.out _ _ q1'
   have Hbw:=Lib.hid (Hb2.out.trans (hbel.out.mono Hb2.out.size))
   by_cases hlt:v < c.length
   ·have hvp:v < g.ports.length:=by rw [<- Hcl.out]; exact hlt
    obtain ⟨b3,off3,sv,rfl,hb3,hcs,hs⟩:=yei (hc0.out.below (Stable.sl Stable.int) Hbw.out) (List.getElem?_eq_getElem hlt)
    obtain ⟨s,hse⟩:∃ s,c[v] = s:=⟨_,rfl⟩
    have Hs?:=Lib.hid (show c[v]? = some s by rw [List.getElem?_eq_getElem hlt,hse])
    rw [hse] at hs
    have Hs:=Lib.hid hs
    clear hs hse
    obtain ⟨A9,c9,rfl,_,_⟩:=ybf Hs.out
    go_wp2_with fail
    refine (ybqq _ _ _ g v D s _ (hg0.out.below Hbw.out) (Hdv.out.below Stable.int hbel.out) Hs.out Hgood.out hvp Hdl.out Hdb.out).mono ?_
    rintro e w3 ⟨rfl,hb3w⟩
    have Hb3:=Lib.hid (hbel.out.trans (hb3w.mono hbel.out.size))
    clear hb3w
    cases hr:yls g D v s with
    | true =>
     have Hr:=Lib.hid hr
     clear hr
     go_wp2_with fail
     go_roundg (gk - 1)
     case measure=>omega
     case rel =>
      refine ⟨v + 1,by omega,by go_num,Hb3,Lib.hid (fun u s' hu hs'=>?_)⟩
      by_cases huv:u < v
      ·exact hok.out u s' huv hs'
      ·obtain rfl:u = v:=by omega
       rw [Hs?.out] at hs'
       cases hs'
       exact Hr.out
    | false =>
     have Hf:=Lib.hid (show ybq g c = false by rw [Hl.out]; exact yxu (f:=fun s v=>yls g D v s) Hs?.out hr)
     clear hr
     go_wp2_with fail
     go_ret
     exact ⟨yx Hf.out.symm,Hb2.out.trans (Hb3.out.mono Hb2.out.size)⟩
   ·obtain rfl:v = c.length:=by omega
    have Ht:=Lib.hid (show ybq g c = true by rw [Hl.out]; exact ybbv (f:=fun s v=>yls g D v s) (fun v s hs=>hok.out v s (List.getElem?_eq_some_iff.1 hs).1 hs))
    go_wp2
    go_ret
    exact ⟨yx Ht.out.symm,Hbw.out⟩

def yky:Value:=.agg #[.int .i64 0,.bool false,.bool false,.int .i64 0,.int .i64 0]
def yfc (g:Gr):Value:=if ycb g = true then .agg #[.int .i64 3,.bool false,.bool true,.int .i64 (eccP g 0 + 1),.int .i64 (-1)] else yky

theorem yqa (g:Gr) (v:Int):-1 <= eccP g v /\ eccP g v <= 1000:=by
 unfold eccP
 split
 ·rename_i h
  have hgood:=(ybz g).1 (yga h.1)
  refine ⟨yvf _,yban _ _ (by omega) (fun x hx=>?_)⟩
  have:=(ydc hgood (a:=v.toNat) (by omega)).bound hgood (by omega) x hx
  omega
 ·omega

theorem ybmh (gv:Value) (g:Gr) (w:World) (hg:GrAt w gv g) :
  Calls Tryz.prog 42 #[gv] w fun e w'=>e = .returned (yfc g) /\ Below w.heap.size w w':=by
 have hg0:=Lib.hid hg
 obtain ⟨i,p,rfl,hi,hp⟩:=hg
 clear hi hp
 cases hcn:ycb g with
 | false =>
  have Hf:=Lib.hid (show yfc g = yky by unfold yfc; rw [hcn]; rfl)
  go_enter Tryz.func42,Tryz.ntmps42
  go_wp2_with fail
  refine (yuv _ g _ (hg0.out.below (((Below.refl _ _).alloc (Nat.le_refl _) _).alloc (by simp) _))).mono ?_
  rintro e w1 ⟨rfl,hb1⟩
  obtain ⟨q0,q1,hcc,hff,hbw,hsz⟩:=ycac hb1
  have Hbw:=Lib.hid hbw
  have HF:=Lib.hid (yddy hb1)
  clear hb1 hbw
  go_wp2_with fail
  refine bodyPost_ret (v:=yky) (by simp [results,Tryz.results42,go_sem,hcc,yky]) rfl ⟨by rw [Hf.out],?_⟩
  exact (((((Hbw.out.setCell (by simp) _).setCell (by simp) _).setCell (by simp) _).setCell (by simp) _).setCell (by simp) _)
 | true =>
  have Hf:=Lib.hid (show yfc g = .agg #[.int .i64 3,.bool false,.bool true,.int .i64 (eccP g 0 + 1),.int .i64 (-1)] by unfold yfc; rw [hcn]; rfl)
  have her:=yqa g 0
  obtain ⟨he1,he2⟩:=her
  go_enter Tryz.func42,Tryz.ntmps42
  go_wp2_with fail
  refine (yuv _ g _ (hg0.out.below (((Below.refl _ _).alloc (Nat.le_refl _) _).alloc (by simp) _))).mono ?_
  rintro e w1 ⟨rfl,hb1⟩
  obtain ⟨q0,q1,hcc,hff,hbw,hsz⟩:=ycac hb1
  have Hbw:=Lib.hid hbw
  have HF:=Lib.hid (yddy hb1)
  clear hb1 hbw
  go_wp2_with fail
  refine (yot _ g 0 _ (hg0.out.below Hbw.out)).mono ?_
  rintro e w2 ⟨rfl,hb2⟩
  have hcc2:∀ o,w2.cell? ⟨w.heap.size + 1,o,none⟩ = (#[.int .i64 0,.bool false,.bool false,.int .i64 0,.int .i64 0]:Array Value)[o]?:=fun o=>(hb2.cell hsz).trans (hcc o)
  have hff2:∀ o,w2.frozen? ⟨w.heap.size + 1,o,none⟩ = false:=fun o=>(hb2.frozen hsz).trans (hff o)
  have Hbw2:=Lib.hid (Hbw.out.trans (hb2.mono Hbw.out.size))
  clear hb2 hcc hff q0 q1
  obtain ⟨y,hy⟩:∃ y,eccP g 0 = y:=⟨_,rfl⟩
  rw [hy] at Hf he1 he2 ⊢
  clear hy
  go_wp2_with fail
  refine bodyPost_ret (v:=.agg #[.int .i64 3,.bool false,.bool true,.int .i64 (y + 1),.int .i64 (-1)]) (by simp [results,Tryz.results42,go_sem,hcc2]) rfl ⟨by rw [Hf.out],?_⟩
  exact (((((Hbw2.out.setCell (by simp) _).setCell (by simp) _).setCell (by simp) _).setCell (by simp) _).setCell (by simp) _)

end Go.Proofs.YtpngeppkgoaimaaGreatDoor

namespace Go.Proofs.YtpngeppkgoaimaaGreatDoor
open Go.RowKit

theorem ymm (R:List Int) (x:Int) (ls:List (Int × Int)) (i:Nat) (hi:i < ls.length):yfn R x (ls.take (i + 1)) = (yfn R x (ls.take i) || decide (R[ls[i].1.toNat]? = some x)):=by
 unfold yfn
 rw [take_snoc ls i hi,List.any_append]
 simp

def layers (g:Gr) (a D:Nat):List Int:=(List.range (D - 1)).foldl (fun R d=>stepD g R (d + 1)) (start g a)
theorem ybdt (g:Gr) (a:Nat) {D:Nat} (hD:1 <= D):layers g a (D + 1) = stepD g (layers g a D) D:=by
 obtain ⟨k,rfl⟩:∃ k,D = k + 1:=⟨D - 1,by omega⟩
 unfold layers
 rw [Nat.add_sub_cancel,List.range_succ,List.foldl_append]
 rfl
def ypt (g:Gr) (R:List Int) (D v:Nat):List Int:=(List.range v).foldl (yhc g D) R
theorem yxj (g:Gr) (R:List Int) (D v:Nat):ypt g R D (v + 1) = yhc g D (ypt g R D v) v:=by
 unfold ypt
 rw [List.range_succ,List.foldl_append]
 rfl
theorem yqx (R:List Int) (k:Nat) (x:Int):(R.map (Value.int .i64)).set k (.int .i64 x) = (R.set k x).map (Value.int .i64):=by rw [List.map_set]
theorem ybda (g:Gr) (a:Nat):((List.replicate g.ports.length (-1:Int)).map (Value.int .i64)).set a (.int .i64 0) = (start g a).map (Value.int .i64):=by rw [yqx]; rfl

set_option maxHeartbeats 4000000 in
theorem yif (gv:Value) (g:Gr) (v:Int) (w:World) (hg:GrAt w gv g) (hv64:I64 v) :
  Calls Tryz.prog 23 #[gv,.int .i64 v] w (ybdo (ygv g v) w):=by
 have hg0:=Lib.hid hg
 obtain ⟨i,p,rfl,hi,hp⟩:=hg
 obtain ⟨A2,c2,rfl,hB1,hB2⟩:=ybf hp
 have Hp:=Lib.hid hp
 clear hi hp
 cases hc:ych g with
 | false =>
  have Hf:=Lib.hid (show ygv g v = [] from yep (by simp [hc]))
  go_enter Tryz.func23,Tryz.ntmps23
  go_wp2_with fail
  refine (ygr _ g _ (hg0.out.below ((Below.refl _ _).alloc (Nat.le_refl _) _))).mono ?_
  rintro e w1 ⟨rfl,hb1⟩
  go_wp2_with fail
  go_ret
  exact ⟨_,rfl,by rw [Hf.out]; exact SlAt.nil _,ycr hb1⟩
 | true =>
  have hgood:=(ybz g).1 hc
  have hn1:=hgood.1
  have hn24:=hgood.2.1
  have Hgood:=Lib.hid hgood
  clear hgood
  obtain ⟨hv1,hv2⟩:=hv64
  by_cases c2:0 <= v /\ v < g.ports.length
  ·obtain ⟨c2a,c2b⟩:=c2
   obtain ⟨a,rfl⟩:=Int.eq_ofNat_of_zero_le c2a
   have Hf:=Lib.hid (show ygv g a = ybi g a from yjc hc (by omega) c2b)
   have ha:a < g.ports.length:=by omega
   go_enter Tryz.func23,Tryz.ntmps23
   go_wp2_with fail
   refine (ygr _ g _ (hg0.out.below ((Below.refl _ _).alloc (Nat.le_refl _) _))).mono ?_
   rintro e w1 ⟨rfl,hb1⟩
   obtain ⟨q0,q1⟩:=ymj hb1
   have Hb1:=Lib.hid hb1
   clear hb1
   go_wp2_with fail
   refine (In_t _ _ _ _ (by omega) (by omega)).mono ?_
   rintro e w1' ⟨rfl,rfl⟩
   go_wp2_with fail
   obtain ⟨i0,hi0,hz0,hz1,hz2⟩:=info_parts ywb
   have Hi0:=Lib.hid (show _ /\ _ /\ _ /\ _ from ⟨hi0,hz0,hz1,hz2⟩)
   clear hi0 hz0 hz1 hz2
   obtain ⟨W1,hW1⟩:∃ W,W = w.alloc (.cells #[i,.slice A2 g.ports.length c2] 28):=⟨_,rfl⟩
   have HB:=Lib.hid (show ∀ wr,Below (w.heap.size + 1) W1 wr -> wr.cell? ⟨w.heap.size,0,none⟩ = some i /\ wr.cell? ⟨w.heap.size,1,none⟩ = some (.slice A2 g.ports.length c2) /\ Below w.heap.size w wr /\ w.heap.size < wr.heap.size by subst hW1; exact fun wr h=>box2 h)
   have Hb1':=Lib.hid (show Below (w.heap.size + 1) W1 w1 by subst hW1; simpa using Hb1.out)
   clear hW1 Hb1
   go_loopg [6,7] g.ports.length (fun q t6 t wr=>∃ k:Nat,q + k = g.ports.length /\ t = .int .i64 k /\ Hid (Below (w.heap.size + 1) W1 wr) /\ Hid (Owns wr (w.heap.size + 1) 3 1 t6 k ((List.replicate k (-1:Int)).map (Value.int .i64))))
   case atStart=>exact ⟨0,by omega,rfl,Hb1',Lib.hid (Owns.nil _ _ _ _)⟩
   case round =>
    clear q0 q1 Hb1'
    obtain ⟨k,hq,rfl,hbel,hown⟩:=hrel
    have hsz:=(HB.out _ hbel.out).2.2.2
    by_cases hlt:k < g.ports.length
    ·go_wp2_with (at_builtin; refine ygu _ rfl _ _ 22 rfl (w.heap.size + 1) 3 i0 (.int .i64 0) 1 8 Tryz.underlying22 Hi0.out.1 Hi0.out.2.1 Hi0.out.2.2.1 Hi0.out.2.2.2 rfl (by decide) u6 k ((List.replicate k (-1:Int)).map (Value.int .i64)) (by rfl) (hown.out.alloc _) _ 1 1 [.int .i64 (-1)] (by rfl) rfl (ybgl rfl) (by simp [Value.oneCell']) (by simp only [maxLen]; omega) (by omega) (by simp; omega) ?_; intro v' w' hown' hgr hob)
     have Hown:=Lib.hid hown'
     have Hgr:=Lib.hid hgr
     clear hown' hgr hob
     go_wp2
     go_roundg (gk - 1)
     case measure=>omega
     case rel =>
      refine ⟨k + 1,by omega,by go_num,Lib.hid ((hbel.out.alloc (by omega) _).grown Hgr.out (by simp; omega) (fun x hx=>(hown.out.lt hx).1)),Lib.hid ?_⟩
      have:=Hown.out
      rwa [<- List.map_singleton (f:=Value.int .i64),<- List.map_append,<- List.replicate_succ'] at this
    ·obtain rfl:k = g.ports.length:=by omega
     obtain ⟨gO,oO,cO,rfl,hO1,hO2,hO3,hO4,hO5⟩:=hown.out.form (by omega)
     unfold maxLen at hO4
     have hca:=hO5 a (.int .i64 (-1)) (by simp [ha])
     have hfa:=hown.out.frozen (oO + a)
     clear hO5
     go_wp2
     go_loopg [8] (g.ports.length - 1) (fun q t wr=>∃ D:Nat,1 <= D /\ q + D = g.ports.length /\ t = .int .i64 D /\ Hid (Below (w.heap.size + 1) W1 wr) /\ Hid (Owns wr (w.heap.size + 1) 3 1 (.slice (some ⟨gO,oO,none⟩) g.ports.length cO) g.ports.length ((layers g a D).map (Value.int .i64))))
     case atStart =>
      refine ⟨1,Nat.le_refl _,by omega,rfl,Lib.hid (hbel.out.setCell (by simp; omega) _),Lib.hid ?_⟩
      have:=hown.out.store1 ha (.int .i64 0)
      rw [ybda] at this
      exact this
     case round =>
      clear hbel hown hca hfa hsz hO2
      obtain ⟨D,hD1,hq,rfl,hbel,hown⟩:=hrel
      by_cases hlt:D < g.ports.length
      ·go_wp2
       obtain ⟨go,rfl⟩:∃ go,go = gk:=⟨_,rfl⟩
       go_loopg [9] g.ports.length (fun q t wr=>∃ v:Nat,q + v = g.ports.length /\ t = .int .i64 v /\ Hid (Below (w.heap.size + 1) W1 wr) /\ Hid (Owns wr (w.heap.size + 1) 3 1 (.slice (some ⟨gO,oO,none⟩) g.ports.length cO) g.ports.length ((ypt g (layers g a D) D v).map (Value.int .i64))))
       case atStart=>exact ⟨0,by omega,rfl,hbel,hown⟩
       case round =>
        clear hbel hown
        obtain ⟨v,hqv,rfl,hbel,hown⟩:=hrel
        by_cases hvlt:v < g.ports.length
        ·obtain ⟨R,hR⟩:∃ R,ypt g (layers g a D) D v = R:=⟨_,rfl⟩
         have Hst:=Lib.hid (yxj g (layers g a D) D v)
         rw [hR] at hown Hst
         clear hR
         have Hlen:=Lib.hid (show R.length = g.ports.length by have:=hown.out.1; simpa using this)
         obtain ⟨b2,off2,lv,rfl,hb2,hclw,hls⟩:=yei Hp.out (List.getElem?_eq_getElem hvlt)
         obtain ⟨A3,c3,rfl,hl1,hl2⟩:=ybf hls
         obtain ⟨ls,hle⟩:∃ ls,g.ports[v] = ls:=⟨_,rfl⟩
         have Hlp:=Lib.hid (show g.ports[v]? = some ls by rw [List.getElem?_eq_getElem hvlt,hle])
         rw [hle] at hls hclw hl1
         have Hls:=Lib.hid hls
         have Hst2:=Lib.hid (show yhc g D R v = if decide (R.getD v 0 < 0) && yfn R ((D:Int) - 1) ls then R.set v D else R by
          unfold yhc; rw [show g.ports.getD v [] = ls by simp [List.getD,Hlp.out]])
         clear hle hls
         have hRv:v < R.length:=by rw [Hlen.out]; exact hvlt
         obtain ⟨xv,hxv⟩:∃ x,R[v] = x:=⟨_,rfl⟩
         have Hgd:=Lib.hid (show R.getD v 0 = xv by simp [List.getD,hRv,hxv])
         clear hxv
         go_wp2
         obtain ⟨gv,rfl⟩:∃ gv,gv = gk:=⟨_,rfl⟩
         go_loopg [10] ls.length (fun q t wr=>∃ i:Nat,q + i = ls.length /\ t = .int .i64 i /\ Hid (Below (w.heap.size + 1) W1 wr) /\ ∃ R' x,R'[v]? = some x /\ Hid (Owns wr (w.heap.size + 1) 3 1 (.slice (some ⟨gO,oO,none⟩) g.ports.length cO) g.ports.length (R'.map (Value.int .i64))) /\ Hid ((R' = R /\ x = xv /\ yfn R ((D:Int) - 1) (ls.take i) = false) \/ (R' = yhc g D R v /\ 0 <= x)))
         case atStart=>exact ⟨0,by omega,rfl,hbel,R,xv,by rw [List.getElem?_eq_getElem hRv]; have:=Hgd.out; simp [List.getD,hRv] at this; rw [this],hown,Lib.hid (.inl ⟨rfl,rfl,by simp [yfn]⟩)⟩
         case round =>
          clear hbel hown
          obtain ⟨i,hqi,rfl,hbel,R',x,hx,hown,hdis⟩:=hrel
          obtain ⟨p0,p1,hbw,hsz⟩:=HB.out _ hbel.out
          have hcl:=ybr hbw _ _ hclw
          have Hlen':=Lib.hid (show R'.length = g.ports.length by have:=hown.out.1; simpa using this)
          obtain ⟨_,_,_,e5,_,_,_,_,hO5⟩:=hown.out.form (by omega)
          cases e5
          have hcv:=hO5 v (.int .i64 x) (by simp [hx])
          have hfv:=hown.out.frozen (oO + v)
          have Hx:=Lib.hid hx
          have HO5:=Lib.hid hO5
          have Hbw:=Lib.hid hbw
          clear hx hO5 hbw
          by_cases hil:i < ls.length
          ·obtain ⟨A4,c4,e4,_,_,hE⟩:=Hls.out.below Stable.link Hbw.out
           cases e4
           obtain ⟨b3,off3,rfl,hb3,hE⟩:=hE (by omega)
           obtain ⟨⟨l1,wt⟩,hle⟩:∃ l,ls[i] = l:=⟨_,rfl⟩
           have hl?:ls[i]? = some (l1,wt):=by rw [List.getElem?_eq_getElem hil,hle]
           obtain ⟨hx1,hx2,⟨hr1,hr2⟩,⟨hr3,hr4⟩⟩:=hE i _ hl?
           obtain ⟨k1,k2,k3,k4,k5⟩:=Hgood.out.link Hlp.out (List.mem_of_getElem? hl?)
           simp only at k1 k2 k3 k4 k5 hx1 hx2 hr1 hr2 hr3 hr4
           obtain ⟨u,rfl⟩:=Int.eq_ofNat_of_zero_le k1
           have Hl?:=Lib.hid hl?
           have Hsn:=Lib.hid (ymm R ((D:Int) - 1) ls i hil)
           rw [hle] at Hsn
           have HE:=Lib.hid hE
           clear hE hl? hle k1 k3
           by_cases c2:x < 0
           ·have Hin:=Lib.hid (show R' = R /\ x = xv /\ yfn R ((D:Int) - 1) (ls.take i) = false by
             rcases hdis.out with h | h
             ·exact h
             ·omega)
            have hul:u < R'.length:=by rw [Hlen'.out]; omega
            obtain ⟨y,hy⟩:∃ y,R'[u]? = some y:=⟨_,List.getElem?_eq_getElem hul⟩
            have hcu:=HO5.out u (.int .i64 y) (by simp [hy])
            have Hy:=Lib.hid hy
            clear hy
            by_cases c3:y = (D:Int) - 1
            ·have c3':(y == (D:Int) - 1) = true:=by simp [c3]
             have Hset:=Lib.hid (show yhc g D R v = R'.set v D by
              obtain ⟨e1,e2,_⟩:=Hin.out
              rw [Hst2.out,Hgd.out,if_pos,e1]
              rw [Bool.and_eq_true]
              refine ⟨decide_eq_true (by omega),?_⟩
              unfold yfn
              rw [List.any_eq_true]
              refine ⟨_,List.mem_of_getElem? Hl?.out,decide_eq_true ?_⟩
              simp only [Int.toNat_natCast]
              rw [<- e1,Hy.out,c3])
             clear c3
             go_wp2
             go_roundg (gk - 1)
             case measure=>omega
             case rel =>
              refine ⟨i + 1,by omega,by go_num,Lib.hid (hbel.out.setCell (by simp; omega) _),R'.set v D,D,by rw [List.getElem?_set,if_pos rfl,if_pos (by rw [Hlen'.out]; exact hvlt)],Lib.hid ?_,Lib.hid (.inr ⟨Hset.out.symm,by omega⟩)⟩
              rw [<- yqx]
              exact hown.out.store1 hvlt _
            ·have c3':(y == (D:Int) - 1) = false:=by simp [c3]
             have Hno:=Lib.hid (show yfn R ((D:Int) - 1) (ls.take (i + 1)) = false by
              obtain ⟨e1,e2,e3⟩:=Hin.out
              rw [Hsn.out,e3,Bool.false_or,decide_eq_false_iff_not]
              simp only [Int.toNat_natCast]
              rw [<- e1,Hy.out]
              simpa using c3)
             clear c3
             go_wp2
             go_roundg (gk - 1)
             case measure=>omega
             case rel=>exact ⟨i + 1,by omega,by go_num,hbel,R',x,Hx.out,hown,Lib.hid (.inl ⟨Hin.out.1,Hin.out.2.1,Hno.out⟩)⟩
           ·have Hend:=Lib.hid (show R' = yhc g D R v by
             rcases hdis.out with ⟨e1,e2,_⟩ | ⟨e1,_⟩
             ·rw [Hst2.out,Hgd.out,if_neg,e1]
              rw [Bool.and_eq_true]
              intro h
              have:=of_decide_eq_true h.1
              omega
             ·exact e1)
            go_wp2
            go_roundg (gv - 1)
            case measure=>omega
            case rel=>exact ⟨v + 1,by omega,by go_num,hbel,Lib.hid (by rw [Hst.out,<- Hend.out]; exact hown.out)⟩
          ·obtain rfl:i = ls.length:=by omega
           have Hend:=Lib.hid (show R' = yhc g D R v by
            rcases hdis.out with ⟨e1,e2,e3⟩ | ⟨e1,_⟩
            ·rw [List.take_length] at e3
             rw [Hst2.out,e3,Bool.and_false,if_neg (by simp),e1]
            ·exact e1)
           go_wp2
           go_roundg (gv - 1)
           case measure=>omega
           case rel=>exact ⟨v + 1,by omega,by go_num,hbel,Lib.hid (by rw [Hst.out,<- Hend.out]; exact hown.out)⟩
        ·obtain rfl:v = g.ports.length:=by omega
         go_wp2
         go_roundg (go - 1)
         case measure=>omega
         case rel=>exact ⟨D + 1,by omega,by omega,by go_num,hbel,Lib.hid (by rw [ybdt g a hD1]; exact hown.out)⟩
      ·obtain rfl:D = g.ports.length:=by omega
       go_wp2
       go_ret
       refine ⟨_,rfl,?_,(HB.out _ hbel.out).2.2.1⟩
       rw [Hf.out]
       exact hown.out.ints (fun x hx=>by have:=(ydc Hgood.out ha).bound Hgood.out ha x hx; unfold I64; omega)
  ·have Hf:=Lib.hid (show ygv g v = [] from yep (by omega))
   have c3:v < 0 \/ (g.ports.length:Int) - 1 < v:=by omega
   clear c2
   go_enter Tryz.func23,Tryz.ntmps23
   go_wp2_with fail
   refine (ygr _ g _ (hg0.out.below ((Below.refl _ _).alloc (Nat.le_refl _) _))).mono ?_
   rintro e w1 ⟨rfl,hb1⟩
   obtain ⟨q0,q1⟩:=ymj hb1
   have Hb1:=Lib.hid (ycr hb1)
   clear hb1
   go_wp2_with fail
   refine (In_f _ _ _ _ (by omega)).mono ?_
   rintro e w1' ⟨rfl,rfl⟩
   go_wp2_with fail
   go_ret
   exact ⟨_,rfl,by rw [Hf.out]; exact SlAt.nil _,Hb1.out⟩
end Go.Proofs.YtpngeppkgoaimaaGreatDoor

namespace Go.Proofs.YtpngeppkgoaimaaGreatDoor
open Go.RowKit

theorem yjd (dv:Value) (D:List Int) (w:World) (hd:yen w dv D) :
  Calls Tryz.prog 114 #[dv] w fun e w'=>e = .returned (.int .i64 (yco D)) /\ w = w':=by
 obtain ⟨A,c,rfl,hA1,hA2⟩:=ybf hd
 have Hd:=Lib.hid hd
 clear hd
 go_enter Tryz.func114,Tryz.ntmps114
 go_wp2
 go_loopg [3,4] D.length (fun q m t wr=>∃ k:Nat,q + k = D.length /\ t = .int .i64 k /\ wr = w /\ m = .int .i64 (ybm (D.take k)) /\ Hid ((D.take k).all (fun x=>decide (0 <= x)) = true))
 case atStart=>exact ⟨0,by omega,rfl,rfl,by simp [ybm],Lib.hid (by simp)⟩
 case round =>
  obtain ⟨k,hq,rfl,rfl,rfl,hall⟩:=hrel
  by_cases hlt:k < D.length
  ·obtain ⟨b,off,rfl,hb,hc,hr⟩:=ydf Hd.out hlt
   by_cases c1:D[k] < 0
   ·have Hf:=Lib.hid (show yco D = -1 by
     unfold yco
     rw [if_neg]
     rw [List.all_eq_true]
     intro h
     have:=of_decide_eq_true (h _ (List.getElem_mem hlt))
     omega)
    go_wp2
    go_ret
    exact ⟨yfh Hf.out.symm,rfl⟩
   ·have Hs:=Lib.hid (yjz D k hlt)
    have Ha:=Lib.hid (show (D.take (k + 1)).all (fun x=>decide (0 <= x)) = true by
     rw [take_snoc D k hlt,List.all_append,hall.out]
     simp
     omega)
    go_wp2
    all_goals
     go_roundg (gk - 1)
     case measure=>omega
     case rel=>exact ⟨k + 1,by omega,by go_num,rfl,by rw [Hs.out]; try (congr 1; omega),Ha⟩
  ·obtain rfl:k = D.length:=by omega
   have Hf:=Lib.hid (show yco D = ybm D by
    have:=hall.out
    rw [List.take_length] at this
    exact if_pos this)
   go_wp2
   go_ret
   exact ⟨yfh (by rw [Hf.out,List.take_length]),rfl⟩

theorem yox (gv:Value) (g:Gr) (w:World) (hg:GrAt w gv g) :
  Calls Tryz.prog 113 #[gv] w fun e w'=>e = .returned (.bool (ycb g)) /\ Below w.heap.size w w':=by
 have hg0:=Lib.hid hg
 obtain ⟨i,p,rfl,hi,hp⟩:=hg
 clear hi hp
 have Hc:=Lib.hid (ybiv g)
 go_enter Tryz.func113,Tryz.ntmps113
 go_wp2_with fail
 refine (yif _ g 0 _ (hg0.out.below ((Below.refl _ _).alloc (Nat.le_refl _) _)) ⟨by omega,by omega⟩).mono ?_
 rintro e w1 ⟨v,rfl,hv,hb1⟩
 have Hv:=Lib.hid hv
 have Hb1:=Lib.hid (ycr hb1)
 clear hv hb1
 go_wp2_with fail
 refine (yjd _ _ _ Hv.out).mono ?_
 rintro e w2 ⟨rfl,rfl⟩
 go_wp2_with fail
 go_ret
 exact ⟨yx Hc.out,Hb1.out⟩

theorem ykp (gv:Value) (g:Gr) (v:Int) (w:World) (hg:GrAt w gv g) (hv64:I64 v) :
  Calls Tryz.prog 77 #[gv,.int .i64 v] w fun e w'=>e = .returned (.int .i64 (eccP g v)) /\ Below w.heap.size w w':=by
 have hg0:=Lib.hid hg
 obtain ⟨i,p,rfl,hi,hp⟩:=hg
 clear hi hp
 have Hc:=Lib.hid (ybul g v)
 go_enter Tryz.func77,Tryz.ntmps77
 go_wp2_with fail
 refine (yif _ g v _ (hg0.out.below ((Below.refl _ _).alloc (Nat.le_refl _) _)) hv64).mono ?_
 rintro e w1 ⟨v,rfl,hv,hb1⟩
 have Hv:=Lib.hid hv
 have Hb1:=Lib.hid (ycr hb1)
 clear hv hb1
 go_wp2_with fail
 refine (yjd _ _ _ Hv.out).mono ?_
 rintro e w2 ⟨rfl,rfl⟩
 go_wp2_with fail
 go_ret
 exact ⟨yfh Hc.out,Hb1.out⟩
end Go.Proofs.YtpngeppkgoaimaaGreatDoor

namespace Go.Proofs.YtpngeppkgoaimaaGreatDoor
open Go
namespace Sh
open Ev Go.RowKit
set_option maxRecDepth 8000
theorem yvi {n nv:Nat} {c:Conf} (h:ConfIn n nv c):yblx c:=fun s hs x hx=>by
 have:=(h.row s hs).2 x hx
 unfold InB at this
 exact yhm (by omega)
theorem yml {g:Gr} (hI:GrI g) {c:Conf} (hR:yblx c):Returns Tryz.prog 36 [grV g,ybg c] (.b (ybq g c)):=by
 refine yom ⟨_,_,Tryz.func36,rfl⟩ (fun _=>.b) (fun _=>.simple rfl) fun G m us hG hr φ M w us' hRl hs hv=>?_
 obtain ⟨u,v,rfl,h1,h2⟩:=rvl2 hr
 obtain ⟨u',v',rfl,h3,h4⟩:=ymt hv
 exact yboq u' v' g c w (ybbw hG h1 h3 hRl hs hI) (ybud hG h2 h4 hRl hs hR)
theorem ysw {g:Gr} (hI:GrI g) (hc:ycb g = true):Returns Tryz.prog 42 [grV g] (.ag (yfj 3 false true (eccP g 0 + 1) (-1))):=by
 refine yom (v:=yfc g) ⟨_,_,Tryz.func42,rfl⟩ (fun F=>?_) (fun φ=>?_) fun G m us hG hr φ M w us' hRl hs hv=>?_
 ·unfold yfc
  rw [if_pos hc]
  exact .ag (L:=[_,_,_,_,_]) (.cons .i (.cons .b (.cons .b (.cons .i (.cons .i .nil)))))
 ·unfold yfc
  rw [if_pos hc]
  exact .agg (a:=[_,_,_,_,_]) (.cons (.simple rfl) (.cons (.simple rfl) (.cons (.simple rfl) (.cons (.simple rfl) (.cons (.simple rfl) .nil)))))
 ·obtain ⟨u,rfl,h1⟩:=rvl1 hr
  obtain ⟨u',rfl,h2⟩:=yfi hv
  exact ybmh u' g w (ybbw hG h1 h2 hRl hs hI)
theorem ybrc {g:Gr} (hI:GrI g):Returns Tryz.prog 113 [grV g] (.b (ycb g)):=by
 refine yom ⟨_,_,Tryz.func113,rfl⟩ (fun _=>.b) (fun _=>.simple rfl) fun G m us hG hr φ M w us' hRl hs hv=>?_
 obtain ⟨u,rfl,h1⟩:=rvl1 hr
 obtain ⟨u',rfl,h2⟩:=yfi hv
 exact yox u' g w (ybbw hG h1 h2 hRl hs hI)
theorem ybvh {g:Gr} (hI:GrI g) {v:Int} (hv64:I64 v):Returns Tryz.prog 77 [grV g,.i .i64 v] (.i .i64 (eccP g v)):=by
 refine yom ⟨_,_,Tryz.func77,rfl⟩ (fun _=>.i) (fun _=>.simple rfl) fun G m us hG hr φ M w us' hRl hs hv=>?_
 obtain ⟨u,v',rfl,h1,h2⟩:=rvl2 hr
 obtain ⟨u',v'',rfl,h3,h4⟩:=ymt hv
 cases h2.int_inv
 have e:=h4.eq_simple rfl
 subst e
 exact ykp u' g v w (ybbw hG h1 h3 hRl hs hI) hv64
theorem ybkf {g:Gr} (hI:GrI g) (hc:ycb g = true) (hb:0 <= eccP g 0 /\ eccP g 0 <= 1000):Returns Tryz.prog 43 [grV g] (.ag (yfj 3 false true (eccP g 0 + 1) (-1))):=by
 refine Returns.of (yczp _ _ ?_)
 have hC:=ybrc hI
 have hE:=ybvh hI (v:=0) (yhm (by omega))
 rw [hc] at hC
 have hF:Returns Tryz.prog 83 [grV g] (.b true):=by
  refine Returns.of (ydba _ _ ?_)
  simp only [grV] at hC
  simp only [c83,ycxq,ydbe,grV,go_sem,Nat.reduceEqDiff,Nat.reduceAdd,Nat.reduceLT,↓reduceIte]
  refine hC.use ?_
  simp only [thenO,sim_b,go_sem,Nat.reduceEqDiff,Nat.reduceAdd,↓reduceIte,reduceCtorEq]
 simp only [grV] at hF hE
 simp only [c43,ycxm,yczl,grV,go_sem,Nat.reduceEqDiff,Nat.reduceAdd,Nat.reduceLT,↓reduceIte]
 refine hF.use ?_
 simp only [thenO,yddg,clash,go_sem,Nat.reduceEqDiff,Nat.reduceAdd,Nat.reduceLeDiff,↓reduceIte]
 refine hE.use ?_
 simp only [go_sem,Nat.reduceEqDiff,Nat.reduceAdd,↓reduceIte]
 exact ⟨ikw (by omega) (by omega),Sim.refl _⟩
end Sh
end Go.Proofs.YtpngeppkgoaimaaGreatDoor

namespace Go.Proofs.YtpngeppkgoaimaaGreatDoor
open Go
def ynm (ls:List (Int × Int)) (b:Int):Bool:=ls.any fun l=>decide (l.1 = b)
namespace Sh
open Ev Go.RowKit
set_option maxRecDepth 8000
theorem ybjr {ids:List Int} {ports:List (List (Int × Int))} {a b:Nat} (ha:a < ports.length) (hl:(ports.getD a []).length <= 100000) :
  Returns Tryz.prog 117 [.ag [yj ids,yba ports],.i .i64 a,.i .i64 b] (.b (ynm (ports.getD a []) b)):=by
 refine Returns.of (ycsf _ _ ?_)
 obtain ⟨n,hn⟩:∃ n,ports.length = n:=⟨_,rfl⟩
 obtain ⟨L,hL⟩:∃ L,ports.getD a [] = L:=⟨_,rfl⟩
 rw [hL] at hl ⊢
 obtain ⟨m,hm⟩:∃ m,L.length = m:=⟨_,rfl⟩
 simp only [c117,yccw,ycnj,go_sem,Nat.reduceAdd,Nat.reduceLT,↓reduceIte]
 refine ybe (σ:=Nat) (fun k=>⟨[(7,.i .i64 k),(3,.pt (3,0) 0 0),(1,.i .i64 a),(2,.i .i64 b)],[(3,.one (some ⟨28,true,2,1,fun _=>[yj ids,yba ports]⟩))]⟩) (fun k=>k <= m /\ ∀ j,j < k -> (L.getD j (0,0)).1 ≠ b) (fun k=>m - k) 0 ⟨Nat.zero_le _,fun j hj=>absurd hj (Nat.not_lt_zero j)⟩ ?_ ?_
 ·refine yg [] [] [] ?_
  simp only [go_sem,allQ,live,yc,Int.natCast_zero,go_sem,Nat.reduceEqDiff,↓reduceIte,reduceCtorEq]
 ·rintro k ⟨hk,hno⟩
  simp only [ychq,ycdf,ycey,ycal,ycfb,yba,ybb,hn,hL,hm,go_sem,Nat.reduceEqDiff,Nat.reduceAdd,Nat.reduceLeDiff,↓reduceIte,reduceCtorEq]
  refine ⟨⟨by omega,by omega⟩,fun hlt=>⟨⟨by omega,by omega⟩,⟨by omega,by omega⟩,fun he=>?_,fun hne=>⟨ikw (by omega) (by omega),?_⟩⟩,fun hge=>?_⟩
  ·have hk':k < L.length:=by omega
   have:ynm L b = true:=List.any_eq_true.2 ⟨L[k],List.getElem_mem _,by rw [getD_at hk'] at he; exact decide_eq_true he⟩
   rw [this]
   exact Sim.refl _
  ·refine yh (k + 1) ⟨by omega,fun j hj=>?_⟩ (by omega) ?_
   ·by_cases q:j = k
    ·rw [q]; exact hne
    ·exact hno j (by omega)
   refine yg [] [] [] ?_
   simp only [allQ,live,yc,yu,go_sem,Nat.reduceEqDiff,↓reduceIte,reduceCtorEq]
   omega
  ·have:ynm L b = false:=List.any_eq_false.2 fun l hl he=>by
    obtain ⟨j,hj,rfl⟩:=List.getElem_of_mem hl
    have:=hno j (by omega)
    rw [getD_at hj] at this
    exact this (of_decide_eq_true he)
   rw [this]
   exact Sim.refl _
end Sh
end Go.Proofs.YtpngeppkgoaimaaGreatDoor

namespace Go.Proofs.YtpngeppkgoaimaaGreatDoor
def addL (back:Bool) (l:List (Int × Int)) (x:Int × Int):List (Int × Int):=if back then x :: l else l ++ [x]
theorem yew {back:Bool} {l:List (Int × Int)} {x y:Int × Int}:y ∈ addL back l x ↔ y = x \/ y ∈ l:=by
 unfold addL
 cases back <;> simp [or_comm]
def yci (back:Bool) (g:Gr) (a b:Nat) (w:Int):Gr:=⟨g.ids,(g.ports.set a (addL back (g.ports.getD a []) (b,w))).set b (addL back (g.ports.getD b []) (a,w))⟩
theorem yeu (back:Bool) (g:Gr) {a b:Nat} (w:Int) (ha:a < g.ports.length) (hb:b < g.ports.length) (v:Nat) :
  (yci back g a b w).ports.getD v [] = if v = b then addL back (g.ports.getD b []) (a,w) else if v = a then addL back (g.ports.getD a []) (b,w) else g.ports.getD v []:=by
 unfold yci
 simp only [List.getD]
 by_cases h1:v = b
 ·subst h1
  rw [if_pos rfl,List.getElem?_set_self (by simpa using hb)]
  rfl
 ·rw [if_neg h1,List.getElem?_set_ne (fun q=>h1 q.symm)]
  by_cases h2:v = a
  ·subst h2
   rw [if_pos rfl,List.getElem?_set_self ha]
   rfl
  ·rw [if_neg h2,List.getElem?_set_ne (fun q=>h2 q.symm)]
theorem ynx {back:Bool} {l:List (Int × Int)} {v n:Int} {x:Int × Int} (h:ybv l v n) (hx:yhg v n x) (hno:∀ y ∈ l,y.1 ≠ x.1):ybv (addL back l x) v n:=by
 refine ⟨fun y hy=>?_,?_⟩
 ·rcases yew.1 hy with rfl | hy
  ·exact hx
  ·exact h.1 y hy
 ·have hn:x.1 ∉ l.map (·.1):=fun hm=>by
   obtain ⟨y,hy,e⟩:=List.mem_map.1 hm
   exact hno y hy e
  unfold addL
  cases back
  ·simp only [Bool.false_eq_true,if_false,List.map_append,List.map_cons,List.map_nil]
   rw [List.nodup_append]
   refine ⟨h.2,by simp,fun p hp q hq=>?_⟩
   rw [List.mem_singleton] at hq
   subst hq
   intro e
   exact hn (e ▸ hp)
  ·simp only [if_true,List.map_cons]
   exact List.nodup_cons.2 ⟨hn,h.2⟩
theorem ybaa {back:Bool} {g:Gr} (hg:ybc g) {a b:Nat} {w:Int} (ha:a < g.ports.length) (hb:b < g.ports.length) (hab:a ≠ b) (hw:1 <= w /\ w <= 15) (hno:∀ y ∈ g.ports.getD a [],y.1 ≠ (b:Int)):ybc (yci back g a b w):=by
 obtain ⟨h1,h2,h3,h4,h5,h6,h7⟩:=hg
 have hlen:(yci back g a b w).ports.length = g.ports.length:=by simp [yci]
 have gd:∀ (v:Nat) (hv:v < g.ports.length),g.ports.getD v [] = g.ports[v]:=fun v hv=>by simp [List.getD,hv]
 have hno2:∀ y ∈ g.ports.getD b [],y.1 ≠ (a:Int):=fun y hy e=>by
  rw [gd b hb] at hy
  have:=h7 ⟨b,hb⟩ y hy
  rw [e,Int.toNat_natCast] at this
  exact hno _ this rfl
 have at_:∀ (v:Nat) (hv:v < g.ports.length),(yci back g a b w).ports[v]'(by rw [hlen]; exact hv) = if v = b then addL back (g.ports.getD b []) (a,w) else if v = a then addL back (g.ports.getD a []) (b,w) else g.ports.getD v []:=fun v hv=>by
  rw [<- yeu back g w ha hb v]
  simp [List.getD,hlen,hv]
 refine ⟨by rw [hlen]; exact h1,by rw [hlen]; exact h2,by rw [hlen]; exact h3,h4,h5,fun v=>?_,fun v l hl=>?_⟩
 ·have hv:v.1 < g.ports.length:=Nat.lt_of_lt_of_eq v.isLt hlen
  have hl':(((yci back g a b w).ports.length:Nat):Int) = (g.ports.length:Int):=by rw [hlen]
  rw [hl']
  show ybv ((yci back g a b w).ports[v.1]) _ _
  rw [at_ v.1 hv]
  split
  ·rename_i e
   rw [e]
   refine ynx ?_ ⟨by simp only []; omega,by simp only []; omega,by simp only []; omega,hw.1,hw.2⟩ hno2
   rw [gd b hb]
   exact h6 ⟨b,hb⟩
  ·split
   ·rename_i e
    rw [e]
    refine ynx ?_ ⟨by simp only []; omega,by simp only []; omega,by simp only []; omega,hw.1,hw.2⟩ hno
    rw [gd a ha]
    exact h6 ⟨a,ha⟩
   ·rw [gd v.1 hv]
    exact h6 ⟨v.1,hv⟩
 ·have hv:v.1 < g.ports.length:=Nat.lt_of_lt_of_eq v.isLt hlen
  change l ∈ (yci back g a b w).ports[v.1] at hl
  rw [at_ v.1 hv] at hl
  have old:∀ u x,x ∈ g.ports.getD u [] -> x ∈ (yci back g a b w).ports.getD u []:=fun u x hx=>by
   rw [yeu back g w ha hb u]
   split
   ·rename_i e; subst e; exact yew.2 (.inr hx)
   ·split
    ·rename_i e; subst e; exact yew.2 (.inr hx)
    ·exact hx
  have sym:∀ (u:Nat) (hu:u < g.ports.length),l ∈ g.ports.getD u [] -> ((u:Int),l.2) ∈ (yci back g a b w).ports.getD l.1.toNat []:=fun u hu hx=>by
   rw [gd u hu] at hx
   exact old _ _ (h7 ⟨u,hu⟩ l hx)
  split at hl
  ·rename_i e
   rcases yew.1 hl with rfl | hl
   ·rw [yeu back g w ha hb,e]
    simp only [Int.toNat_natCast]
    simp only [if_neg hab,if_true]
    exact yew.2 (.inl rfl)
   ·rw [e]; exact sym b hb hl
  ·split at hl
   ·rename_i e
    rcases yew.1 hl with rfl | hl
    ·rw [yeu back g w ha hb,e]
     simp only [Int.toNat_natCast]
     simp only [if_true]
     exact yew.2 (.inl rfl)
    ·rw [e]; exact sym a ha hl
   ·exact sym v.1 hv hl
end Go.Proofs.YtpngeppkgoaimaaGreatDoor

namespace Go.Proofs.YtpngeppkgoaimaaGreatDoor
def Tre (g:Gr) (m:Nat):Prop:=∀ v,0 < v -> v < m -> ∃ u,u < v /\ adj g u v
theorem Tre.walk {g:Gr} {m:Nat} (h:Tre g m):∀ v,v < m -> ∃ k,Walk g 0 k v:=by
 intro v
 induction v using Nat.strongRecOn with
 | _ v ih =>
  intro hv
  by_cases h0:v = 0
  ·subst h0; exact ⟨0,rfl⟩
  ·obtain ⟨u,hu,ha⟩:=h v (by omega) hv
   obtain ⟨k,hk⟩:=ih u hu (by omega)
   exact ⟨k + 1,u,hk,ha⟩
theorem Tre.conn {g:Gr} (hg:ybc g) (h:Tre g g.ports.length):ycb g = true:=by
 unfold ycb
 rw [(ybz g).2 hg,Bool.true_and,ybbm hg (a:=0) (by have:=hg.1; omega)]
 exact h.walk
theorem yqb {g:Gr} {u v:Nat}:adj g u v ↔ ∃ l,l ∈ g.ports.getD u [] /\ l.1 = (v:Int):=by
 constructor
 ·rintro ⟨ls,h,l,hl,e⟩
  exact ⟨l,by simpa [List.getD,h] using hl,e⟩
 ·rintro ⟨l,hl,e⟩
  cases h:g.ports[u]? with
  | none=>simp [List.getD,h] at hl
  | some ls=>exact ⟨ls,h,l,by simpa [List.getD,h] using hl,e⟩
theorem ybbp {back:Bool} {g:Gr} {a b:Nat} {w:Int} (ha:a < g.ports.length) (hb:b < g.ports.length) {u v:Nat} (h:adj g u v):adj (yci back g a b w) u v:=by
 obtain ⟨l,hl,e⟩:=yqb.1 h
 refine yqb.2 ⟨l,?_,e⟩
 rw [yeu back g w ha hb u]
 split
 ·rename_i q; subst q; exact yew.2 (.inr hl)
 ·split
  ·rename_i q; subst q; exact yew.2 (.inr hl)
  ·exact hl
theorem yber {back:Bool} {g:Gr} {a b:Nat} {w:Int} (ha:a < g.ports.length) (hb:b < g.ports.length) (hab:a ≠ b):adj (yci back g a b w) a b:=by
 refine yqb.2 ⟨((b:Int),w),?_,rfl⟩
 rw [yeu back g w ha hb a,if_neg hab,if_pos rfl]
 exact yew.2 (.inl rfl)
theorem Tre.add {back:Bool} {g:Gr} {a b:Nat} {w:Int} (ha:a < g.ports.length) (hb:b < g.ports.length) {m:Nat} (h:Tre g m):Tre (yci back g a b w) m:=fun v h0 hv=>by
 obtain ⟨u,hu,hadj⟩:=h v h0 hv
 exact ⟨u,hu,ybbp ha hb hadj⟩
def bare (ids:List Int):Gr:=⟨ids,List.replicate ids.length []⟩
theorem ybsa {ids:List Int} (h1:1 <= ids.length) (h2:ids.length <= 24) (h3:∀ x ∈ ids,0 <= x /\ x <= 255) (h4:ids.Nodup):ybc (bare ids):=by
 have e:∀ v:Fin (bare ids).ports.length,(bare ids).ports[v] = []:=fun v=>by
  have hv:v.1 < ids.length:=by have:=v.isLt; simpa [bare] using this
  show (List.replicate ids.length ([]:List (Int × Int)))[v.1]'(by simpa using hv) = []
  exact List.getElem_replicate ..
 refine ⟨by simpa [bare] using h1,by simpa [bare] using h2,by simp [bare],h3,h4,fun v=>?_,fun v l hl=>?_⟩
 ·rw [e v]; exact ⟨fun l hl=>(nomatch hl),List.nodup_nil⟩
 ·rw [e v] at hl; cases hl
end Go.Proofs.YtpngeppkgoaimaaGreatDoor

namespace Go.Proofs.YtpngeppkgoaimaaGreatDoor
open Go
structure NetR where
 n:Int
 links:List Int
 weights:List Int
 ids:List Int
 apart:Bool
 back:Bool
def NetR.ok (x:NetR):Prop:=Sh.inK .i64 x.n /\ (∀ k,Sh.inK .i64 (x.links.getD k 0)) /\ (∀ k,Sh.inK .i64 (x.weights.getD k 0)) /\ (∀ k,Sh.inK .i64 (x.ids.getD k 0))
theorem ybeh (a r:Nat) (hr:r <= 256):((List.range r).map fun i=>(((a + i) % 256:Nat):Int)).Nodup:=by
 unfold List.Nodup
 rw [List.pairwise_map]
 refine List.Pairwise.imp_of_mem (R:=(· < ·)) (fun {i j} hi hj h=>?_) List.pairwise_lt_range
 have hi:=List.mem_range.1 hi
 have hj:=List.mem_range.1 hj
 intro e
 omega
theorem ybez {a r:Nat} {l:List Int} (hr:r <= 256) (h:∀ i,i < r -> (((a + i) % 256:Nat):Int) ∈ l):r <= l.length:=by
 have:=List.Nodup.length_le_of_subset (ybeh a r hr) (l₂:=l) fun x hx=>by
  obtain ⟨i,hi,rfl⟩:=List.mem_map.1 hx
  exact h i (List.mem_range.1 hi)
 simpa using this
namespace Sh
open Ev Go.RowKit
set_option maxRecDepth 8000
def netC (x:NetR):List SV:=[.i .i64 x.n,yj x.links,yj x.weights,yj x.ids,.b x.apart,.b x.back]
theorem wrap64_in (z:Int):inK .i64 (IntKind.wrap .i64 z):=by
 unfold inK
 have e1:IntKind.i64.min = -9223372036854775808:=rfl
 have e2:IntKind.i64.max = 9223372036854775807:=rfl
 have h1:=Int.emod_nonneg z (show (18446744073709551616:Int) ≠ 0 by decide)
 have h2:=Int.emod_lt_of_pos z (show (0:Int) < 18446744073709551616 by decide)
 rw [e1,e2]
 have e:IntKind.wrap .i64 z = if z % 18446744073709551616 >= 9223372036854775808 then z % 18446744073709551616 - 18446744073709551616 else z % 18446744073709551616:=by
  show (if (true && decide (z % 18446744073709551616 >= 9223372036854775808)) = true then z % 18446744073709551616 - 18446744073709551616 else z % 18446744073709551616) = _
  simp only [Bool.true_and,decide_eq_true_eq]
 rw [e]
 split <;> omega
theorem ybyg {x:NetR} (hx:x.ok) {most:Nat} (hm:1 <= most /\ most <= 24) :
  Cm Tryz.prog 88 [] [] [.ag (netC x),.i .i64 most] fun r o=>∃ ids:List Int,(1 <= ids.length /\ ids.length <= most) /\ (∀ y ∈ ids,0 <= y /\ y <= 255) /\ ids.Nodup /\ r = .ag [yj ids,.os (17,0) 0 ids.length true] /\
   o = [(17,.one (some ⟨41,false,1,ids.length,fun _=>[.a (.slice none 0 0)]⟩))]:=by
 refine ycrg [] [] _ _ _ ?_
 obtain ⟨hx1,hx2,hx3,hx4⟩:=hx
 have hin:=ycw (v:=IntKind.wrap .i64 (x.n - 1)) (m:=(most:Int)) (by omega)
 obtain ⟨k,hk⟩:∃ k:Nat,yee (IntKind.wrap .i64 (x.n - 1)) most = k:=Int.eq_ofNat_of_zero_le hin.1
 have hW:=ycy (IntKind.wrap .i64 (x.n - 1)) most (by omega) (wrap64_in _)
 rw [hk] at hW hin
 obtain ⟨n,hn⟩:∃ n:Nat,(1:Int) + (k:Int) = (n:Int):=⟨1 + k,by omega⟩
 have hn1:1 <= n /\ n <= most:=by omega
 simp only [c88,ycwz,ydca,netC,go_sem,Nat.reduceEqDiff,Nat.reduceAdd,Nat.reduceLeDiff,Nat.reduceLT,↓reduceIte,reduceCtorEq]
 refine hW.use ?_
 simp only [thenO,ycvn,ydbu,hn,clash,go_sem,Nat.reduceEqDiff,Nat.reduceAdd,Nat.reduceLT,↓reduceIte,reduceCtorEq]
 refine ⟨ikw (by omega) (by omega),⟨by omega,by omega,by omega⟩,?_⟩
 refine ybe (σ:=List Int) (fun l=>⟨[(7,.i .i64 l.length),(5,.i .i64 n),(2,.pt (2,0) 0 0),(6,.pt (6,0) 0 0),(4,.pt (4,0) 0 0)],
   [(2,.one (some ⟨24,true,6,1,fun _=>netC x⟩)),(4,.one (some ⟨28,true,2,1,fun _=>[.a (.slice none 0 0),.a (.slice none 0 0)]⟩)),
    (6,.one (some ⟨28,true,2,1,fun _=>[.os (148,0) 0 l.length true,.os (17,0) 0 n true]⟩)),(17,.one (some ⟨41,false,1,n,fun _=>[.a (.slice none 0 0)]⟩)),
    (148,.one (some ⟨3,false,1,l.length,fun k=>[.i .i64 (l.getD k 0)]⟩))]⟩)
  (fun l=>l.length <= n /\ (∀ y ∈ l,0 <= y /\ y <= 255) /\ l.Nodup) (fun l=>n - l.length) [] ⟨Nat.zero_le _,fun y hy=>(List.not_mem_nil hy).elim,List.nodup_nil⟩ ?_ ?_
 ·refine yg [] [148] [] ?_
  simp only [netC,allQ,live,yc,Int.natCast_zero,go_sem,Nat.reduceEqDiff,Nat.reduceBEq,↓reduceIte,reduceCtorEq]
  exact fun i _=>⟨(148,0),rfl,rfl,rfl⟩
 ·rintro l ⟨hl,hl2,hl3⟩
  obtain ⟨v,hv⟩:∃ v,l.length = v:=⟨_,rfl⟩
  rw [hv] at hl
  have hA:=at_ret x.ids v
  have hi2:=ycw (v:=atP x.ids v) (m:=256) (by omega)
  obtain ⟨a,ha⟩:∃ a:Nat,yee (atP x.ids v) 256 = a:=Int.eq_ofNat_of_zero_le hi2.1
  have hW2:=ycy (atP x.ids v) 256 (by omega) (hx4 v)
  rw [ha] at hW2 hi2
  simp only [ydbh,yczq,ycyz,ycaq,netC,hv,splice,clash,go_sem,Nat.reduceEqDiff,Nat.reduceAdd,Nat.reduceLeDiff,↓reduceIte,reduceCtorEq]
  refine ⟨fun hlt=>?_,fun hge=>?_⟩
  ·refine hA.use ?_
   simp only [thenO,clash,go_sem,Nat.reduceEqDiff,Nat.reduceAdd,↓reduceIte,reduceCtorEq]
   refine hW2.use ?_
   refine ybe (σ:=Nat × Nat) (fun q=>⟨[(9,.i .i64 q.2),(8,.i .i64 ((a + q.1) % 256:Nat)),(7,.i .i64 v),(5,.i .i64 n),(2,.pt (2,0) 0 0),(6,.pt (6,0) 0 0),(4,.pt (4,0) 0 0)],
    [(2,.one (some ⟨24,true,6,1,fun _=>netC x⟩)),(4,.one (some ⟨28,true,2,1,fun _=>[.a (.slice none 0 0),.a (.slice none 0 0)]⟩)),
     (6,.one (some ⟨28,true,2,1,fun _=>[.os (148,0) 0 v true,.os (17,0) 0 n true]⟩)),(17,.one (some ⟨41,false,1,n,fun _=>[.a (.slice none 0 0)]⟩)),
     (148,.one (some ⟨3,false,1,v,fun k=>[.i .i64 (l.getD k 0)]⟩))]⟩)
    (fun q=>q.2 <= v /\ (∀ i,i < q.1 -> (((a + i) % 256:Nat):Int) ∈ l) /\ q.1 <= 256 /\ ∀ j,j < q.2 -> l.getD j 0 ≠ (((a + q.1) % 256:Nat):Int)) (fun q=>(v - q.1) * (v + 2) + (v - q.2)) (0,0) ⟨Nat.zero_le _,fun i hi=>absurd hi (Nat.not_lt_zero i),by omega,fun j hj=>absurd hj (Nat.not_lt_zero j)⟩ ?_ ?_
   ·refine yg [] [] [] ?_
    simp only [netC,allQ,live,yc,yu,Int.natCast_zero,go_sem,Nat.reduceEqDiff,↓reduceIte,reduceCtorEq]
    rw [Nat.mod_eq_of_lt (by omega)]
   ·rintro ⟨r,u⟩ ⟨hu,hr,hr256,hno⟩
    obtain ⟨b,hb⟩:∃ b,(a + r) % 256 = b:=⟨_,rfl⟩
    have hb256:b < 256:=by omega
    simp only [ycyg,ycwp,ycir,ycjk,ycjt,ycut,netC,hb,splice,clash,go_sem,Nat.reduceEqDiff,Nat.reduceAdd,Nat.reduceLeDiff,Nat.reduceLT,↓reduceIte,reduceCtorEq]
    have hu:u <= v:=hu
    have hr:∀ i,i < r -> (((a + i) % 256:Nat):Int) ∈ l:=hr
    have hr256:r <= 256:=hr256
    have hno:∀ j,j < u -> l.getD j 0 ≠ (b:Int):=fun j hj=>by rw [<- hb]; exact hno j hj
    have hrv:r <= v:=by rw [<- hv]; exact ybez hr256 hr
    refine ⟨fun hlt2=>⟨⟨by omega,by omega⟩,by omega,fun he=>⟨ikw (by omega) (by omega),by decide,ikw (by omega) (by omega),?_⟩,fun hne=>⟨ikw (by omega) (by omega),?_⟩⟩,fun hge2=>?_⟩
    ·have hmem:(b:Int) ∈ l:=by
      rw [<- he,getD_at (show u < l.length by omega)]
      exact List.getElem_mem _
     have hr':∀ i,i < r + 1 -> (((a + i) % 256:Nat):Int) ∈ l:=fun i hi=>by
      by_cases q:i = r
      ·rw [q,hb]; exact hmem
      ·exact hr i (by omega)
     have hrv':r + 1 <= v:=by rw [<- hv]; exact ybez (by omega) hr'
     refine yh (r + 1,0) ⟨Nat.zero_le _,hr',by show r + 1 <= 256; omega,fun j hj=>absurd hj (Nat.not_lt_zero j)⟩ ?_ ?_
     ·show (v - (r + 1)) * (v + 2) + (v - 0) < (v - r) * (v + 2) + (v - u)
      obtain ⟨m,hm⟩:∃ m,v - r = m + 1:=⟨v - r - 1,by omega⟩
      rw [show v - (r + 1) = m by omega,hm,Nat.succ_mul]
      generalize m * (v + 2) = z
      omega
     ·refine yg [] [] [] ?_
      simp only [allQ,live,yc,yu,Int.natCast_zero,go_sem,Nat.reduceEqDiff,↓reduceIte,reduceCtorEq]
      refine ⟨by omega,?_⟩
      rw [Int.tmod_eq_emod_of_nonneg (by omega)]
      omega
    ·refine yh (r,u + 1) ⟨by show u + 1 <= v; omega,hr,hr256,fun j hj=>?_⟩ ?_ ?_
     ·show l.getD j 0 ≠ (((a + r) % 256:Nat):Int)
      rw [hb]
      by_cases q:j = u
      ·rw [q]; exact hne
      ·exact hno j (by have:j < u + 1:=hj; omega)
     ·show (v - r) * (v + 2) + (v - (u + 1)) < (v - r) * (v + 2) + (v - u)
      generalize (v - r) * (v + 2) = z
      omega
     ·refine yg [] [] [] ?_
      simp only [hb,allQ,live,yc,yu,go_sem,Nat.reduceEqDiff,↓reduceIte,reduceCtorEq]
      omega
    ·obtain rfl:u = v:=by omega
     refine ⟨⟨by omega,by omega⟩,ikw (by omega) (by omega),?_⟩
     have hno':(b:Int) ∉ l:=fun hm=>by
      obtain ⟨j,hj,e⟩:=List.getElem_of_mem hm
      exact hno j (by omega) (by rw [getD_at hj,e])
     refine yh (l ++ [(b:Int)]) ⟨by rw [List.length_append,List.length_singleton]; omega,fun y hy=>?_,?_⟩ (by rw [List.length_append,List.length_singleton]; omega) ?_
     ·rcases List.mem_append.1 hy with hy | hy
      ·exact hl2 y hy
      ·rw [List.mem_singleton.1 hy]; omega
     ·rw [List.nodup_append]
      exact ⟨hl3,by simp,fun y hy z hz=>by rw [List.mem_singleton.1 hz]; exact fun e=>hno' (e ▸ hy)⟩
     refine yg [(148,fun i=>(48,i))] [] [] ?_
     simp only [List.length_append,hv,allQ,live,yc,yu,go_sem,Nat.reduceEqDiff,↓reduceIte,reduceCtorEq]
     refine ⟨by omega,fun i hi=>?_⟩
     rw [yqf,hv]
     by_cases q:i < u
     ·simp only [if_pos q]
      simp only [live,yc,go_sem,reduceCtorEq]
     ·obtain rfl:i = u:=by omega
      simp only [if_neg q,Nat.sub_self]
      simp only [live,yc,go_sem,↓reduceIte,reduceCtorEq]
  ·obtain rfl:v = n:=by omega
   simp only [ygf,go_sem]
   refine ⟨.ag [yj l,.os (17,0) 0 v true],[(17,.one (some ⟨41,false,1,v,fun _=>[.a (.slice none 0 0)]⟩))],?_,?_,l,by rw [hv]; exact hn1,hl2,hl3,by rw [hv],by rw [hv]⟩
   ·refine yg [] [] [(148,0)] ?_
    simp only [yj,hv,allQ,live,yc,go_sem,Nat.reduceEqDiff,↓reduceIte,reduceCtorEq]
   ·simp only [famCln,yfd,allQ,live,go_sem,↓reduceIte]
end Sh
end Go.Proofs.YtpngeppkgoaimaaGreatDoor

namespace Go.Proofs.YtpngeppkgoaimaaGreatDoor
namespace Sh
open Go Ev Go.RowKit Go.ChangeShapes Go.WideShapes Go.ChangeAt Go.Joins
theorem ycxj {α:Type} {cs:Array α} (h:cs.size = 6):∃ c0 c1 c2 c3 c4 c5,cs = #[c0,c1,c2,c3,c4,c5]:=by
 obtain ⟨l⟩:=cs
 match l,h with
 | [c0,c1,c2,c3,c4,c5],_=>exact ⟨c0,c1,c2,c3,c4,c5,rfl⟩
section
variable {H:Type} {enc:TypeId × Value -> H} {P:Program} {w:World} {base:Nat} {held:Bool} {spare:Nat -> Bool}
theorem six {α:Type} {xs:List α} (h:xs.length = 6):∃ y0 y1 y2 y3 y4 y5,xs = [y0,y1,y2,y3,y4,y5]:=by
 match xs,h with
 | [y0,y1,y2,y3,y4,y5],_=>exact ⟨y0,y1,y2,y3,y4,y5,rfl⟩
theorem ybql {r:Reach} {b0:Nat} {t:TypeId} {f0 f1 f2 f3 f4 f5:Field} {v:Value} {d:DataW H} {p:List MemPlace} (hs:P.underlying t = some (.struct #[f0,f1,f2,f3,f4,f5])) (hone:Go.Deep.oneCellFields P #[f0,f1,f2,f3,f4,f5] = true) (hC:P.cellsOf t = 6)
  (hv:Value.okWide P w r b0 t v) (h:DataW.Trod enc P w base spare held t v d p) :
  ∃ (v0 v1 v2 v3 v4 v5:Value) (y0 y1 y2 y3 y4 y5:DataW H × List MemPlace) (n:Nat),v = .agg #[v0,v1,v2,v3,v4,v5] /\
   DataW.trod enc P w base spare held n f0.type [v0] = some y0 /\ DataW.trod enc P w base spare held n f1.type [v1] = some y1 /\ DataW.trod enc P w base spare held n f2.type [v2] = some y2 /\
   DataW.trod enc P w base spare held n f3.type [v3] = some y3 /\ DataW.trod enc P w base spare held n f4.type [v4] = some y4 /\ DataW.trod enc P w base spare held n f5.type [v5] = some y5:=by
 obtain ⟨cs,rfl,hsz⟩:=okWide_struct hs hv
 obtain ⟨c0,c1,c2,c3,c4,c5,rfl⟩:=ycxj (hsz.trans hC)
 obtain ⟨fuel,hf⟩:=h
 obtain ⟨xs,n,_,_,_,hlen,hf⟩:=DataW.trod_struct hs hf
 obtain ⟨y0,y1,y2,y3,y4,y5,rfl⟩:=six hlen
 obtain ⟨o0,k0⟩:=Go.Deep.hone_of hone 0 f0 rfl
 obtain ⟨o1,k1⟩:=Go.Deep.hone_of hone 1 f1 rfl
 obtain ⟨o2,k2⟩:=Go.Deep.hone_of hone 2 f2 rfl
 obtain ⟨o3,k3⟩:=Go.Deep.hone_of hone 3 f3 rfl
 obtain ⟨o4,k4⟩:=Go.Deep.hone_of hone 4 f4 rfl
 obtain ⟨o5,k5⟩:=Go.Deep.hone_of hone 5 f5 rfl
 have h0:=hf 0 f0 rfl
 have h1:=hf 1 f1 rfl
 have h2:=hf 2 f2 rfl
 have h3:=hf 3 f3 rfl
 have h4:=hf 4 f4 rfl
 have h5:=hf 5 f5 rfl
 rw [o0,k0] at h0
 rw [o1,k1] at h1
 rw [o2,k2] at h2
 rw [o3,k3] at h3
 rw [o4,k4] at h4
 rw [o5,k5] at h5
 exact ⟨c0,c1,c2,c3,c4,c5,y0,y1,y2,y3,y4,y5,n,rfl,h0,h1,h2,h3,h4,h5⟩
end
set_option maxRecDepth 8000
section
variable {H:Type} {enc:TypeId × Value -> H} {w:World} {base:Nat} {held:Bool} {n:Nat} {v:Value} {x:DataW H × List MemPlace}
theorem ybsl (w:World) (b:Bool):ysj w (.b b) (.bool b):=⟨.bool b,rfl,.b⟩
theorem ypp (h:DataW.trod enc Tryz.prog w base (fun _=>true) held n 25 [v] = some x):∃ xs:List Nat,(∀ k,xs.getD k 0 < 2 ^ 32) /\ ysj w (usV xs) v:=by
 obtain ⟨xs,h1,h2⟩:=yuh (f:=fun x:Nat=>[SV.i .u32 (x:Int)]) (p:=fun x=>x < 2 ^ 32) 0 (z:=1) Tryz.underlying25 (by kernel_rfl) (by decide) (fun n cs' y h1 h2=>by
  obtain ⟨k,rfl,_,hw⟩:=DataW.trod_int Tryz.underlying44 h1
  have hb:=bounds_u32 hw
  obtain ⟨m,rfl⟩:∃ m:Nat,k = m:=⟨k.toNat,by omega⟩
  exact ⟨m,by omega,(yuq w .u32 m).cons (ybdh.nil w),rfl⟩) h
 refine ⟨xs,fun k=>?_,h2⟩
 rcases Nat.lt_or_ge k xs.length with q | q
 ·rw [List.getD_eq_getElem?_getD,List.getElem?_eq_getElem q]
  exact h1 _ (List.getElem_mem q)
 ·rw [List.getD_eq_getElem?_getD,List.getElem?_eq_none q]
  decide
theorem yqn {l:List Int} (h:∀ x ∈ l,I64 x) (k:Nat):inK .i64 (l.getD k 0):=by
 have:I64 (l.getD k 0):=by
  rcases Nat.lt_or_ge k l.length with q | q
  ·rw [List.getD_eq_getElem?_getD,List.getElem?_eq_getElem q]
   exact h _ (List.getElem_mem q)
  ·rw [List.getD_eq_getElem?_getD,List.getElem?_eq_none q]
   exact yhm (by decide)
 exact this
theorem ybll {v:Value} {x:DataW H × List MemPlace} (h:DataW.trod enc Tryz.prog w base (fun _=>true) held n 3 [v] = some x):∃ k,inK .i64 k /\ ysj w (.i .i64 k) v:=by
 obtain ⟨k,e,_,hw⟩:=DataW.trod_int Tryz.underlying3 h
 simp at e
 subst e
 exact ⟨k,wf_i64 hw,yuq w .i64 k⟩
theorem ytc {v:Value} {x:DataW H × List MemPlace} (h:DataW.trod enc Tryz.prog w base (fun _=>true) held n 4 [v] = some x):∃ b,ysj w (.b b) v:=by
 obtain ⟨b,e,_⟩:=DataW.trod_bool Tryz.underlying4 h
 simp at e
 subst e
 exact ⟨b,ybsl w b⟩
theorem ylz {b0:Nat} {d:DataW H} {p:List MemPlace} (hv:Value.okWide Tryz.prog w .any b0 24 v) (h:DataW.Trod enc Tryz.prog w base (fun _=>true) held 24 v d p) :
  ∃ (x:NetR) (u:Value),x.ok /\ RV (memW w).b.get om0 (.ag (netC x)) u /\ VR (phiW w) u v:=by
 obtain ⟨v0,v1,v2,v3,v4,v5,y0,y1,y2,y3,y4,y5,n,rfl,h0,h1,h2,h3,h4,h5⟩:=ybql Tryz.underlying24 (by kernel_rfl) (by kernel_rfl) hv h
 obtain ⟨k,kI,u0,a0,r0⟩:=ybll h0
 obtain ⟨ls,lI,u1,a1,r1⟩:=yge h1
 obtain ⟨ws,wI,u2,a2,r2⟩:=yge h2
 obtain ⟨is,iI,u3,a3,r3⟩:=yge h3
 obtain ⟨ap,u4,a4,r4⟩:=ytc h4
 obtain ⟨bk,u5,a5,r5⟩:=ytc h5
 refine ⟨⟨k,ls,ws,is,ap,bk⟩,.agg [u0,u1,u2,u3,u4,u5].toArray,⟨kI,yqn lI,yqn wI,yqn iI⟩,.ag (.cons r0 (.cons r1 (.cons r2 (.cons r3 (.cons r4 (.cons r5 .nil)))))),?_⟩
 exact .agg (a:=[u0,u1,u2,u3,u4,u5]) (a':=[v0,v1,v2,v3,v4,v5]) (.cons (yeb a0) (.cons (yeb a1) (.cons (yeb a2) (.cons (yeb a3) (.cons (yeb a4) (.cons (yeb a5) .nil))))))
end
end Sh
end Go.Proofs.YtpngeppkgoaimaaGreatDoor

