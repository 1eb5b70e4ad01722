/- Lemmas, joined: RefC RefD SiB SiC Pg Ph SiD SiE SiF SiG Pa Pb Pc Pd Run. -/
import Derived.Test.YtpngeppkgoaimaaGreatDoorPkLp10
import Derived.Test.YtpngeppkgoaimaaGreatDoorPkLp8
import Derived.Test.YtpngeppkgoaimaaGreatDoorPkLp13
set_option linter.unusedSimpArgs false
set_option linter.unusedVariables false
namespace Go.Proofs.YtpngeppkgoaimaaGreatDoor
open Go.RowKit

theorem yvv(R:List Int)(x:Int)(ls:List (Int × Int))(i:Nat)(hi:i<ls.length):ylc R x (ls.take (i+1))=(ylc R x (ls.take i) || decide (R[ls[i].1.toNat]? = some x)):=by
 unfold ylc;rw[take_snoc ls i hi,List.any_append];simp

def layers(g:Gr)(a D:Nat):List Int:=(List.range (D - 1)).foldl (fun R d=>stepD g R (d+1)) (start g a)
theorem ybhp(g:Gr)(a:Nat){D:Nat}(hD:1<=D):layers g a (D+1)=stepD g (layers g a D) D:=by
 obtain⟨k,rfl⟩:∃ k,D=k+1:=⟨D - 1,by omega⟩
 unfold layers;rw[Nat.add_sub_cancel,List.range_succ,List.foldl_append];rfl
def yss(g:Gr)(R:List Int)(D v:Nat):List Int:=(List.range v).foldl (yqs g D) R
theorem ybaw(g:Gr)(R:List Int)(D v:Nat):yss g R D (v+1)=yqs g D (yss g R D v) v:=by
 unfold yss;rw[List.range_succ,List.foldl_append];rfl
theorem ysu(R:List Int)(k:Nat)(x:Int):(R.map (Value.int .i64)).set k (.int .i64 x)=(R.set k x).map (Value.int .i64):=by rw[List.map_set]
theorem ybel(g:Gr)(a:Nat):((List.replicate g.ports.length (-1:Int)).map (Value.int .i64)).set a (.int .i64 0)=(start g a).map (Value.int .i64):=by rw[ysu];rfl

set_option maxHeartbeats 4000000 in
theorem yjl(gv:Value)(g:Gr)(v:Int)(w:World)(hg:GrAt w gv g)(hv64:I64 v) :
  Calls Tryz.prog 23 #[gv,.int .i64 v] w (ybqf (ypu g v) w):=by
 have hg0:=Lib.hid hg;obtain⟨i,p,rfl,hi,hp⟩:=hg;obtain⟨A2,c2,rfl,hB1,hB2⟩:=ybl hp;have Hp:=Lib.hid hp
 clear hi hp
 cases hc:ycs g with
 | false =>
  have Hf:=Lib.hid (show ypu g v = []from ykw (by simp[hc]))
  go_enter Tryz.func23,Tryz.ntmps23
  go_wp2_with fail
  refine(yhi _ g _ (hg0.out.below ((Below.refl _ _).alloc (Nat.le_refl _) _))).mono ?_;rintro e w1 ⟨rfl,hb1⟩
  go_wp2_with fail
  go_ret
  exact⟨_,rfl,by rw[Hf.out];exact SlAt.nil _,yhl hb1⟩
 | true =>
  have hgood:=(ycg g).1 hc;have hn1:=hgood.1;have hn24:=hgood.2.1;have Hgood:=Lib.hid hgood
  clear hgood
  obtain⟨hv1,hv2⟩:=hv64
  by_cases c2:0<=v/\v<g.ports.length
  ·obtain⟨c2a,c2b⟩:=c2;obtain⟨a,rfl⟩:=Int.eq_ofNat_of_zero_le c2a;have Hf:=Lib.hid (show ypu g a=ybu g a from ysg hc (by omega) c2b)
   have ha:a<g.ports.length:=by omega
   go_enter Tryz.func23,Tryz.ntmps23
   go_wp2_with fail
   refine(yhi _ g _ (hg0.out.below ((Below.refl _ _).alloc (Nat.le_refl _) _))).mono ?_;rintro e w1 ⟨rfl,hb1⟩;obtain⟨q0,q1⟩:=yyt hb1;have Hb1:=Lib.hid hb1
   clear hb1
   go_wp2_with fail
   refine(In_t _ _ _ _ (by omega) (by omega)).mono ?_
   rintro e w1' ⟨rfl,rfl⟩
   go_wp2_with fail
   obtain⟨i0,hi0,hz0,hz1,hz2⟩:=info_parts yyj;have Hi0:=Lib.hid (show _/\_/\_/\_ from⟨hi0,hz0,hz1,hz2⟩)
   clear hi0 hz0 hz1 hz2
   obtain⟨W1,hW1⟩:∃ W,W=w.alloc (.cells #[i,.slice A2 g.ports.length c2] 28):=⟨_,rfl⟩;have HB:=Lib.hid (show ∀ wr,Below (w.heap.size+1) W1 wr->wr.cell? ⟨w.heap.size,0,none⟩=some i/\wr.cell? ⟨w.heap.size,1,none⟩=some (.slice A2 g.ports.length c2)/\Below w.heap.size w wr/\w.heap.size<wr.heap.size by subst hW1;exact fun wr h=>box2 h)
   have Hb1':=Lib.hid (show Below (w.heap.size+1) W1 w1 by subst hW1;simpa using Hb1.out)
   clear hW1 Hb1
   go_loopg [6,7] g.ports.length (fun q t6 t wr=>∃ k:Nat,q+k=g.ports.length/\t = .int .i64 k/\Hid (Below (w.heap.size+1) W1 wr)/\Hid (Owns wr (w.heap.size+1) 3 1 t6 k ((List.replicate k (-1:Int)).map (Value.int .i64))))
   case atStart=>exact⟨0,by omega,rfl,Hb1',Lib.hid (Owns.nil _ _ _ _)⟩
   case round =>
    clear q0 q1 Hb1'
    obtain⟨k,hq,rfl,hbel,hown⟩:=hrel;have hsz:=(HB.out _ hbel.out).2.2.2
    by_cases hlt:k<g.ports.length
    ·go_wp2_with (at_builtin;refine yhn _ rfl _ _ 22 rfl (w.heap.size+1) 3 i0 (.int .i64 0) 1 8 Tryz.underlying22 Hi0.out.1 Hi0.out.2.1 Hi0.out.2.2.1 Hi0.out.2.2.2 rfl (by decide) u6 k ((List.replicate k (-1:Int)).map (Value.int .i64)) (by rfl) (hown.out.alloc _) _ 1 1 [.int .i64 (-1)] (by rfl) rfl (ybkw rfl) (by simp[Value.oneCell']) (by simp only[maxLen];omega) (by omega) (by simp;omega) ?_;intro v' w' hown' hgr hob)
     have Hown:=Lib.hid hown';have Hgr:=Lib.hid hgr
     clear hown' hgr hob
     go_wp2
     go_roundg (gk - 1)
     case measure=>omega
     case rel =>
      refine⟨k+1,by omega,by go_num,Lib.hid ((hbel.out.alloc (by omega) _).grown Hgr.out (by simp;omega) (fun x hx=>(hown.out.lt hx).1)),Lib.hid ?_⟩
      have:=Hown.out
      rwa [<- List.map_singleton (f:=Value.int .i64),<- List.map_append,<- List.replicate_succ']at this
    ·obtain rfl:k=g.ports.length:=by omega
     obtain⟨gO,oO,cO,rfl,hO1,hO2,hO3,hO4,hO5⟩:=hown.out.form (by omega)
     unfold maxLen at hO4;have hca:=hO5 a (.int .i64 (-1)) (by simp[ha])
     have hfa:=hown.out.frozen (oO+a)
     clear hO5
     go_wp2
     go_loopg [8] (g.ports.length - 1) (fun q t wr=>∃ D:Nat,1<=D/\q+D=g.ports.length/\t = .int .i64 D/\Hid (Below (w.heap.size+1) W1 wr)/\Hid (Owns wr (w.heap.size+1) 3 1 (.slice (some ⟨gO,oO,none⟩) g.ports.length cO) g.ports.length ((layers g a D).map (Value.int .i64))))
     case atStart =>
      refine⟨1,Nat.le_refl _,by omega,rfl,Lib.hid (hbel.out.setCell (by simp;omega) _),Lib.hid ?_⟩
      have:=hown.out.store1 ha (.int .i64 0);rw[ybel]at this;exact this
     case round =>
      clear hbel hown hca hfa hsz hO2
      obtain⟨D,hD1,hq,rfl,hbel,hown⟩:=hrel
      by_cases hlt:D<g.ports.length
      ·go_wp2
       obtain⟨go,rfl⟩:∃ go,go=gk:=⟨_,rfl⟩
       go_loopg [9] g.ports.length (fun q t wr=>∃ v:Nat,q+v=g.ports.length/\t = .int .i64 v/\Hid (Below (w.heap.size+1) W1 wr)/\Hid (Owns wr (w.heap.size+1) 3 1 (.slice (some ⟨gO,oO,none⟩) g.ports.length cO) g.ports.length ((yss g (layers g a D) D v).map (Value.int .i64))))
       case atStart=>exact⟨0,by omega,rfl,hbel,hown⟩
       case round =>
        clear hbel hown
        obtain⟨v,hqv,rfl,hbel,hown⟩:=hrel
        by_cases hvlt:v<g.ports.length
        ·obtain⟨R,hR⟩:∃ R,yss g (layers g a D) D v=R:=⟨_,rfl⟩;have Hst:=Lib.hid (ybaw g (layers g a D) D v);rw[hR]at hown Hst
         clear hR
         have Hlen:=Lib.hid (show R.length=g.ports.length by have:=hown.out.1;simpa using this)
         obtain⟨b2,off2,lv,rfl,hb2,hclw,hls⟩:=yfw Hp.out (List.getElem?_eq_getElem hvlt);obtain⟨A3,c3,rfl,hl1,hl2⟩:=ybl hls;obtain⟨ls,hle⟩:∃ ls,g.ports[v]=ls:=⟨_,rfl⟩;have Hlp:=Lib.hid (show g.ports[v]? = some ls by rw[List.getElem?_eq_getElem hvlt,hle])
         rw[hle]at hls hclw hl1;have Hls:=Lib.hid hls
         have Hst2:=Lib.hid (show yqs g D R v=if decide (R.getD v 0<0) && ylc R ((D:Int) - 1) ls then R.set v D else R by
          unfold yqs;rw[show g.ports.getD v []=ls by simp[List.getD,Hlp.out]])
         clear hle hls
         have hRv:v<R.length:=by rw[Hlen.out];exact hvlt
         obtain⟨xv,hxv⟩:∃ x,R[v]=x:=⟨_,rfl⟩;have Hgd:=Lib.hid (show R.getD v 0=xv by simp[List.getD,hRv,hxv])
         clear hxv
         go_wp2
         obtain⟨gv,rfl⟩:∃ gv,gv=gk:=⟨_,rfl⟩
         go_loopg [10] ls.length (fun q t wr=>∃ i:Nat,q+i=ls.length/\t = .int .i64 i/\Hid (Below (w.heap.size+1) W1 wr) /\ ∃ R' x,R'[v]? = some x/\Hid (Owns wr (w.heap.size+1) 3 1 (.slice (some ⟨gO,oO,none⟩) g.ports.length cO) g.ports.length (R'.map (Value.int .i64)))/\Hid ((R'=R/\x=xv/\ylc R ((D:Int) - 1) (ls.take i)=false)\/(R'=yqs g D R v/\0<=x)))
         case atStart=>exact⟨0,by omega,rfl,hbel,R,xv,by rw[List.getElem?_eq_getElem hRv];have:=Hgd.out;simp[List.getD,hRv]at this;rw[this],hown,Lib.hid (.inl ⟨rfl,rfl,by simp[ylc]⟩)⟩
         case round =>
          clear hbel hown
          obtain⟨i,hqi,rfl,hbel,R',x,hx,hown,hdis⟩:=hrel;obtain⟨p0,p1,hbw,hsz⟩:=HB.out _ hbel.out;have hcl:=yhe hbw _ _ hclw;have Hlen':=Lib.hid (show R'.length=g.ports.length by have:=hown.out.1;simpa using this)
          obtain⟨_,_,_,e5,_,_,_,_,hO5⟩:=hown.out.form (by omega)
          cases e5
          have hcv:=hO5 v (.int .i64 x) (by simp[hx])
          have hfv:=hown.out.frozen (oO+v);have Hx:=Lib.hid hx;have HO5:=Lib.hid hO5;have Hbw:=Lib.hid hbw
          clear hx hO5 hbw
          by_cases hil:i<ls.length
          ·obtain⟨A4,c4,e4,_,_,hE⟩:=Hls.out.below Stable.link Hbw.out;cases e4
           obtain⟨b3,off3,rfl,hb3,hE⟩:=hE (by omega)
           obtain⟨⟨l1,wt⟩,hle⟩:∃ l,ls[i]=l:=⟨_,rfl⟩;have hl?:ls[i]? = some (l1,wt):=by rw[List.getElem?_eq_getElem hil,hle]
           obtain⟨hx1,hx2,⟨hr1,hr2⟩,⟨hr3,hr4⟩⟩:=hE i _ hl?;obtain⟨k1,k2,k3,k4,k5⟩:=Hgood.out.link Hlp.out (List.mem_of_getElem? hl?);simp only at k1 k2 k3 k4 k5 hx1 hx2 hr1 hr2 hr3 hr4;obtain⟨u,rfl⟩:=Int.eq_ofNat_of_zero_le k1;have Hl?:=Lib.hid hl?;have Hsn:=Lib.hid (yvv R ((D:Int) - 1) ls i hil);rw[hle]at Hsn;have HE:=Lib.hid hE
           clear hE hl? hle k1 k3
           by_cases c2:x<0
           ·have Hin:=Lib.hid (show R'=R/\x=xv/\ylc R ((D:Int) - 1) (ls.take i)=false by
             rcases hdis.out with h | h
             ·exact h
             ·omega)
            have hul:u<R'.length:=by rw[Hlen'.out];omega
            obtain⟨y,hy⟩:∃ y,R'[u]? = some y:=⟨_,List.getElem?_eq_getElem hul⟩;have hcu:=HO5.out u (.int .i64 y) (by simp[hy])
            have Hy:=Lib.hid hy
            clear hy
            by_cases c3:y=(D:Int) - 1
            ·have c3':(y == (D:Int) - 1)=true:=by simp[c3]
             have Hset:=Lib.hid (show yqs g D R v=R'.set v D by
              obtain⟨e1,e2,_⟩:=Hin.out;rw[Hst2.out,Hgd.out,if_pos,e1];rw[Bool.and_eq_true];refine⟨decide_eq_true (by omega),?_⟩
              unfold ylc;rw[List.any_eq_true];refine⟨_,List.mem_of_getElem? Hl?.out,decide_eq_true ?_⟩;simp only[Int.toNat_natCast];rw[<- e1,Hy.out,c3])
             clear c3
             go_wp2
             go_roundg (gk - 1)
             case measure=>omega
             case rel =>
              refine⟨i+1,by omega,by go_num,Lib.hid (hbel.out.setCell (by simp;omega) _),R'.set v D,D,by rw[List.getElem?_set,if_pos rfl,if_pos (by rw[Hlen'.out];exact hvlt)],Lib.hid ?_,Lib.hid (.inr ⟨Hset.out.symm,by omega⟩)⟩
              rw[<- ysu];exact hown.out.store1 hvlt _
            ·have c3':(y == (D:Int) - 1)=false:=by simp[c3]
             have Hno:=Lib.hid (show ylc R ((D:Int) - 1) (ls.take (i+1))=false by
              obtain⟨e1,e2,e3⟩:=Hin.out;rw[Hsn.out,e3,Bool.false_or,decide_eq_false_iff_not];simp only[Int.toNat_natCast];rw[<- e1,Hy.out]
              simpa using c3)
             clear c3
             go_wp2
             go_roundg (gk - 1)
             case measure=>omega
             case rel=>exact⟨i+1,by omega,by go_num,hbel,R',x,Hx.out,hown,Lib.hid (.inl ⟨Hin.out.1,Hin.out.2.1,Hno.out⟩)⟩
           ·have Hend:=Lib.hid (show R'=yqs g D R v by
             rcases hdis.out with⟨e1,e2,_⟩ | ⟨e1,_⟩
             ·rw[Hst2.out,Hgd.out,if_neg,e1];rw[Bool.and_eq_true];intro h;have:=of_decide_eq_true h.1;omega
             ·exact e1)
            go_wp2
            go_roundg (gv - 1)
            case measure=>omega
            case rel=>exact⟨v+1,by omega,by go_num,hbel,Lib.hid (by rw[Hst.out,<- Hend.out];exact hown.out)⟩
          ·obtain rfl:i=ls.length:=by omega
           have Hend:=Lib.hid (show R'=yqs g D R v by
            rcases hdis.out with⟨e1,e2,e3⟩ | ⟨e1,_⟩
            ·rw[List.take_length]at e3;rw[Hst2.out,e3,Bool.and_false,if_neg (by simp),e1]
            ·exact e1)
           go_wp2
           go_roundg (gv - 1)
           case measure=>omega
           case rel=>exact⟨v+1,by omega,by go_num,hbel,Lib.hid (by rw[Hst.out,<- Hend.out];exact hown.out)⟩
        ·obtain rfl:v=g.ports.length:=by omega
         go_wp2
         go_roundg (go - 1)
         case measure=>omega
         case rel=>exact⟨D+1,by omega,by omega,by go_num,hbel,Lib.hid (by rw[ybhp g a hD1];exact hown.out)⟩
      ·obtain rfl:D=g.ports.length:=by omega
       go_wp2
       go_ret
       refine⟨_,rfl,?_,(HB.out _ hbel.out).2.2.1⟩;rw[Hf.out];exact hown.out.ints (fun x hx=>by have:=(ycd Hgood.out ha).bound Hgood.out ha x hx;unfold I64;omega)
  ·have Hf:=Lib.hid (show ypu g v = []from ykw (by omega))
   have c3:v<0\/(g.ports.length:Int) - 1<v:=by omega
   clear c2
   go_enter Tryz.func23,Tryz.ntmps23
   go_wp2_with fail
   refine(yhi _ g _ (hg0.out.below ((Below.refl _ _).alloc (Nat.le_refl _) _))).mono ?_;rintro e w1 ⟨rfl,hb1⟩;obtain⟨q0,q1⟩:=yyt hb1;have Hb1:=Lib.hid (yhl hb1)
   clear hb1
   go_wp2_with fail
   refine(In_f _ _ _ _ (by omega)).mono ?_
   rintro e w1' ⟨rfl,rfl⟩
   go_wp2_with fail
   go_ret
   exact⟨_,rfl,by rw[Hf.out];exact SlAt.nil _,Hb1.out⟩
end Go.Proofs.YtpngeppkgoaimaaGreatDoor

namespace Go.Proofs.YtpngeppkgoaimaaGreatDoor
open Go.RowKit

theorem yjx(dv:Value)(D:List Int)(w:World)(hd:yjg w dv D) :
  Calls Tryz.prog 114 #[dv] w fun e w'=>e = .returned (.int .i64 (ycy D))/\w=w':=by
 obtain⟨A,c,rfl,hA1,hA2⟩:=ybl hd;have Hd:=Lib.hid hd
 clear hd
 go_enter Tryz.func114,Tryz.ntmps114
 go_wp2
 go_loopg [3,4] D.length (fun q m t wr=>∃ k:Nat,q+k=D.length/\t = .int .i64 k/\wr=w/\m = .int .i64 (ybs (D.take k))/\Hid ((D.take k).all (fun x=>decide (0<=x))=true))
 case atStart=>exact⟨0,by omega,rfl,rfl,by simp[ybs],Lib.hid (by simp)⟩
 case round =>
  obtain⟨k,hq,rfl,rfl,rfl,hall⟩:=hrel
  by_cases hlt:k<D.length
  ·obtain⟨b,off,rfl,hb,hc,hr⟩:=yfj Hd.out hlt
   by_cases c1:D[k]<0
   ·have Hf:=Lib.hid (show ycy D = -1 by
     unfold ycy;rw[if_neg];rw[List.all_eq_true];intro h;have:=of_decide_eq_true (h _ (List.getElem_mem hlt));omega)
    go_wp2
    go_ret
    exact⟨yhz Hf.out.symm,rfl⟩
   ·have Hs:=Lib.hid (yll D k hlt)
    have Ha:=Lib.hid (show(D.take (k+1)).all (fun x=>decide (0<=x))=true by
     rw[take_snoc D k hlt,List.all_append,hall.out];simp;omega)
    go_wp2
    all_goals
     go_roundg (gk - 1)
     case measure=>omega
     case rel=>exact⟨k+1,by omega,by go_num,rfl,by rw[Hs.out];try (congr 1;omega),Ha⟩
  ·obtain rfl:k=D.length:=by omega
   have Hf:=Lib.hid (show ycy D=ybs D by
    have:=hall.out;rw[List.take_length]at this;exact if_pos this)
   go_wp2
   go_ret
   exact⟨yhz (by rw[Hf.out,List.take_length]),rfl⟩

theorem yqt(gv:Value)(g:Gr)(w:World)(hg:GrAt w gv g) :
  Calls Tryz.prog 113 #[gv] w fun e w'=>e = .returned (.bool (yby g))/\Below w.heap.size w w':=by
 have hg0:=Lib.hid hg;obtain⟨i,p,rfl,hi,hp⟩:=hg
 clear hi hp
 have Hc:=Lib.hid (yblm g)
 go_enter Tryz.func113,Tryz.ntmps113
 go_wp2_with fail
 refine(yjl _ g 0 _ (hg0.out.below ((Below.refl _ _).alloc (Nat.le_refl _) _)) ⟨by omega,by omega⟩).mono ?_
 rintro e w1 ⟨v,rfl,hv,hb1⟩;have Hv:=Lib.hid hv;have Hb1:=Lib.hid (yhl hb1)
 clear hv hb1
 go_wp2_with fail
 refine(yjx _ _ _ Hv.out).mono ?_;rintro e w2 ⟨rfl,rfl⟩
 go_wp2_with fail
 go_ret
 exact⟨ybi Hc.out,Hb1.out⟩

theorem ylx(gv:Value)(g:Gr)(v:Int)(w:World)(hg:GrAt w gv g)(hv64:I64 v) :
  Calls Tryz.prog 77 #[gv,.int .i64 v] w fun e w'=>e = .returned (.int .i64 (eccP g v))/\Below w.heap.size w w':=by
 have hg0:=Lib.hid hg;obtain⟨i,p,rfl,hi,hp⟩:=hg
 clear hi hp
 have Hc:=Lib.hid (ybzl g v)
 go_enter Tryz.func77,Tryz.ntmps77
 go_wp2_with fail
 refine(yjl _ g v _ (hg0.out.below ((Below.refl _ _).alloc (Nat.le_refl _) _)) hv64).mono ?_;rintro e w1 ⟨v,rfl,hv,hb1⟩;have Hv:=Lib.hid hv;have Hb1:=Lib.hid (yhl hb1)
 clear hv hb1
 go_wp2_with fail
 refine(yjx _ _ _ Hv.out).mono ?_;rintro e w2 ⟨rfl,rfl⟩
 go_wp2_with fail
 go_ret
 exact⟨yhz Hc.out,Hb1.out⟩
end Go.Proofs.YtpngeppkgoaimaaGreatDoor

namespace Go.Proofs.YtpngeppkgoaimaaGreatDoor
open Go
namespace Sh
open Ev Go.RowKit
set_option maxRecDepth 8000
theorem yyf{n nv:Nat}{c:Conf}(h:ConfIn n nv c):ycgm c:=fun s hs x hx=>by
 have:=(h.row s hs).2 x hx;unfold InB at this;exact yen (by omega)
end Sh
end Go.Proofs.YtpngeppkgoaimaaGreatDoor

namespace Go.Proofs.YtpngeppkgoaimaaGreatDoor
open Go
def yol(ls:List (Int × Int))(b:Int):Bool:=ls.any fun l=>decide (l.1=b)
namespace Sh
open Ev Go.RowKit
set_option maxRecDepth 8000
theorem ybmx{ids:List Int}{ports:List (List (Int × Int))}{a b:Nat}(ha:a<ports.length)(hl:(ports.getD a []).length<=100000) :
  Returns Tryz.prog 117 [.ag [yu ids,yx ports],.i .i64 a,.i .i64 b] (.b (yol (ports.getD a []) b)):=by
 refine Returns.of (ydbs _ _ ?_);obtain⟨n,hn⟩:∃ n,ports.length=n:=⟨_,rfl⟩;obtain⟨L,hL⟩:∃ L,ports.getD a []=L:=⟨_,rfl⟩;rw[hL]at hl ⊢;obtain⟨m,hm⟩:∃ m,L.length=m:=⟨_,rfl⟩;simp only[c117,ycla,yctb,go_sem,Nat.reduceAdd,Nat.reduceLT,↓reduceIte];refine ybd (σ:=Nat) (fun k=>⟨[(7,.i .i64 k),(3,.pt (3,0) 0 0),(1,.i .i64 a),(2,.i .i64 b)],[(3,.one (some ⟨28,true,2,1,fun _=>[yu ids,yx ports]⟩))]⟩) (fun k=>k<=m /\ ∀ j,j<k->(L.getD j (0,0)).1 ≠ b) (fun k=>m - k) 0 ⟨Nat.zero_le _,fun j hj=>absurd hj (Nat.not_lt_zero j)⟩ ?_ ?_
 ·refine yh [] [] [] ?_;simp only[go_sem,allQ,live,yg,Int.natCast_zero,go_sem,Nat.reduceEqDiff,↓reduceIte,reduceCtorEq]
 ·rintro k ⟨hk,hno⟩;simp only[yctz,ycsj,ycir,ycvo,ycte,yx,ybc,hn,hL,hm,go_sem,Nat.reduceEqDiff,Nat.reduceAdd,Nat.reduceLeDiff,↓reduceIte,reduceCtorEq];refine⟨⟨by omega,by omega⟩,fun hlt=>⟨⟨by omega,by omega⟩,⟨by omega,by omega⟩,fun he=>?_,fun hne=>⟨ikw (by omega) (by omega),?_⟩⟩,fun hge=>?_⟩
  ·have hk':k<L.length:=by omega
   have:yol L b=true:=List.any_eq_true.2 ⟨L[k],List.getElem_mem _,by rw[getD_at hk']at he;exact decide_eq_true he⟩
   rw[this];exact Sim.refl _
  ·refine yj (k+1) ⟨by omega,fun j hj=>?_⟩ (by omega) ?_
   ·by_cases q:j=k
    ·rw[q];exact hne
    ·exact hno j (by omega)
   refine yh [] [] [] ?_;simp only[allQ,live,yg,ybb,go_sem,Nat.reduceEqDiff,↓reduceIte,reduceCtorEq];omega
  ·have:yol L b=false:=List.any_eq_false.2 fun l hl he=>by
    obtain⟨j,hj,rfl⟩:=List.getElem_of_mem hl;have:=hno j (by omega)
    rw[getD_at hj]at this;exact this (of_decide_eq_true he)
   rw[this];exact Sim.refl _
end Sh
end Go.Proofs.YtpngeppkgoaimaaGreatDoor

namespace Go.Proofs.YtpngeppkgoaimaaGreatDoor
def addL(back:Bool)(l:List (Int × Int))(x:Int × Int):List (Int × Int):=if back then x :: l else l ++ [x]
theorem yfr{back:Bool}{l:List (Int × Int)}{x y:Int × Int}:y ∈ addL back l x ↔ y=x\/y ∈ l:=by
 unfold addL;cases back<;>simp[or_comm]
def ycr(back:Bool)(g:Gr)(a b:Nat)(w:Int):Gr:=⟨g.ids,(g.ports.set a (addL back (g.ports.getD a []) (b,w))).set b (addL back (g.ports.getD b []) (a,w))⟩
theorem yfm(back:Bool)(g:Gr){a b:Nat}(w:Int)(ha:a<g.ports.length)(hb:b<g.ports.length)(v:Nat) :
  (ycr back g a b w).ports.getD v []=if v=b then addL back (g.ports.getD b []) (a,w)else if v=a then addL back (g.ports.getD a []) (b,w)else g.ports.getD v []:=by
 unfold ycr;simp only[List.getD]
 by_cases h1:v=b
 ·subst h1;rw[if_pos rfl,List.getElem?_set_self (by simpa using hb)]
  rfl
 ·rw[if_neg h1,List.getElem?_set_ne (fun q=>h1 q.symm)]
  by_cases h2:v=a
  ·subst h2;rw[if_pos rfl,List.getElem?_set_self ha];rfl
  ·rw[if_neg h2,List.getElem?_set_ne (fun q=>h2 q.symm)]
theorem yqj{back:Bool}{l:List (Int × Int)}{v n:Int}{x:Int × Int}(h:ycc l v n)(hx:yis v n x)(hno:∀ y ∈ l,y.1 ≠ x.1):ycc (addL back l x) v n:=by
 refine⟨fun y hy=>?_,?_⟩
 ·rcases yfr.1 hy with rfl | hy
  ·exact hx
  ·exact h.1 y hy
 ·have hn:x.1 ∉ l.map (·.1):=fun hm=>by
   obtain⟨y,hy,e⟩:=List.mem_map.1 hm;exact hno y hy e
  unfold addL;cases back
  ·simp only[Bool.false_eq_true,if_false,List.map_append,List.map_cons,List.map_nil];rw[List.nodup_append];refine⟨h.2,by simp,fun p hp q hq=>?_⟩
   rw[List.mem_singleton]at hq;subst hq;intro e;exact hn (e ▸ hp)
  ·simp only[if_true,List.map_cons];exact List.nodup_cons.2 ⟨hn,h.2⟩
theorem ybcg{back:Bool}{g:Gr}(hg:yba g){a b:Nat}{w:Int}(ha:a<g.ports.length)(hb:b<g.ports.length)(hab:a ≠ b)(hw:1<=w/\w<=15)(hno:∀ y ∈ g.ports.getD a [],y.1 ≠ (b:Int)):yba (ycr back g a b w):=by
 obtain⟨h1,h2,h3,h4,h5,h6,h7⟩:=hg;have hlen:(ycr back g a b w).ports.length=g.ports.length:=by simp[ycr]
 have gd:∀ (v:Nat) (hv:v<g.ports.length),g.ports.getD v []=g.ports[v]:=fun v hv=>by simp[List.getD,hv]
 have hno2:∀ y ∈ g.ports.getD b [],y.1 ≠ (a:Int):=fun y hy e=>by
  rw[gd b hb]at hy;have:=h7 ⟨b,hb⟩ y hy;rw[e,Int.toNat_natCast]at this;exact hno _ this rfl
 have at_:∀ (v:Nat) (hv:v<g.ports.length),(ycr back g a b w).ports[v]'(by rw[hlen];exact hv)=if v=b then addL back (g.ports.getD b []) (a,w)else if v=a then addL back (g.ports.getD a []) (b,w)else g.ports.getD v []:=fun v hv=>by
  rw[<- yfm back g w ha hb v];simp[List.getD,hlen,hv]
 refine⟨by rw[hlen];exact h1,by rw[hlen];exact h2,by rw[hlen];exact h3,h4,h5,fun v=>?_,fun v l hl=>?_⟩
 ·have hv:v.1<g.ports.length:=Nat.lt_of_lt_of_eq v.isLt hlen;have hl':(((ycr back g a b w).ports.length:Nat):Int)=(g.ports.length:Int):=by rw[hlen]
  rw[hl'];show ycc ((ycr back g a b w).ports[v.1]) _ _;rw[at_ v.1 hv];split
  ·rename_i e
   rw[e];refine yqj ?_ ⟨by simp only[];omega,by simp only[];omega,by simp only[];omega,hw.1,hw.2⟩ hno2
   rw[gd b hb];exact h6 ⟨b,hb⟩
  ·split
   ·rename_i e
    rw[e];refine yqj ?_ ⟨by simp only[];omega,by simp only[];omega,by simp only[];omega,hw.1,hw.2⟩ hno
    rw[gd a ha];exact h6 ⟨a,ha⟩
   ·rw[gd v.1 hv];exact h6 ⟨v.1,hv⟩
 ·have hv:v.1<g.ports.length:=Nat.lt_of_lt_of_eq v.isLt hlen
  change l ∈ (ycr back g a b w).ports[v.1]at hl
  rw[at_ v.1 hv]at hl
  have old:∀ u x,x ∈ g.ports.getD u []->x ∈ (ycr back g a b w).ports.getD u []:=fun u x hx=>by
   rw[yfm back g w ha hb u];split
   ·rename_i e;subst e;exact yfr.2 (.inr hx)
   ·split
    ·rename_i e;subst e;exact yfr.2 (.inr hx)
    ·exact hx
  have sym:∀ (u:Nat) (hu:u<g.ports.length),l ∈ g.ports.getD u []->((u:Int),l.2) ∈ (ycr back g a b w).ports.getD l.1.toNat []:=fun u hu hx=>by
   rw[gd u hu]at hx;exact old _ _ (h7 ⟨u,hu⟩ l hx)
  split at hl
  ·rename_i e
   rcases yfr.1 hl with rfl | hl
   ·rw[yfm back g w ha hb,e];simp only[Int.toNat_natCast];simp only[if_neg hab,if_true];exact yfr.2 (.inl rfl)
   ·rw[e];exact sym b hb hl
  ·split at hl
   ·rename_i e
    rcases yfr.1 hl with rfl | hl
    ·rw[yfm back g w ha hb,e];simp only[Int.toNat_natCast];simp only[if_true];exact yfr.2 (.inl rfl)
    ·rw[e];exact sym a ha hl
   ·exact sym v.1 hv hl
end Go.Proofs.YtpngeppkgoaimaaGreatDoor

namespace Go.Proofs.YtpngeppkgoaimaaGreatDoor
def Tre(g:Gr)(m:Nat):Prop:=∀ v,0<v->v<m -> ∃ u,u<v/\adj g u v
theorem Tre.walk{g:Gr}{m:Nat}(h:Tre g m):∀ v,v<m -> ∃ k,Walk g 0 k v:=by
 intro v
 induction v using Nat.strongRecOn with
 | _ v ih =>
  intro hv
  by_cases h0:v=0
  ·subst h0;exact⟨0,rfl⟩
  ·obtain⟨u,hu,ha⟩:=h v (by omega) hv
   obtain⟨k,hk⟩:=ih u hu (by omega)
   exact⟨k+1,u,hk,ha⟩
theorem Tre.conn{g:Gr}(hg:yba g)(h:Tre g g.ports.length):yby g=true:=by
 unfold yby;rw[(ycg g).2 hg,Bool.true_and,ybfa hg (a:=0) (by have:=hg.1;omega)]
 exact h.walk
theorem ytc{g:Gr}{u v:Nat}:adj g u v ↔ ∃ l,l ∈ g.ports.getD u []/\l.1=(v:Int):=by
 constructor
 ·rintro⟨ls,h,l,hl,e⟩;exact⟨l,by simpa [List.getD,h]using hl,e⟩
 ·rintro⟨l,hl,e⟩;cases h:g.ports[u]? with
  | none=>simp[List.getD,h]at hl
  | some ls=>exact⟨ls,h,l,by simpa [List.getD,h]using hl,e⟩
theorem ybhz{back:Bool}{g:Gr}{a b:Nat}{w:Int}(ha:a<g.ports.length)(hb:b<g.ports.length){u v:Nat}(h:adj g u v):adj (ycr back g a b w) u v:=by
 obtain⟨l,hl,e⟩:=ytc.1 h;refine ytc.2 ⟨l,?_,e⟩;rw[yfm back g w ha hb u];split
 ·rename_i q;subst q;exact yfr.2 (.inr hl)
 ·split
  ·rename_i q;subst q;exact yfr.2 (.inr hl)
  ·exact hl
theorem ybin{back:Bool}{g:Gr}{a b:Nat}{w:Int}(ha:a<g.ports.length)(hb:b<g.ports.length)(hab:a ≠ b):adj (ycr back g a b w) a b:=by
 refine ytc.2 ⟨((b:Int),w),?_,rfl⟩;rw[yfm back g w ha hb a,if_neg hab,if_pos rfl];exact yfr.2 (.inl rfl)
theorem Tre.add{back:Bool}{g:Gr}{a b:Nat}{w:Int}(ha:a<g.ports.length)(hb:b<g.ports.length){m:Nat}(h:Tre g m):Tre (ycr back g a b w) m:=fun v h0 hv=>by
 obtain⟨u,hu,hadj⟩:=h v h0 hv;exact⟨u,hu,ybhz ha hb hadj⟩
def bare(ids:List Int):Gr:=⟨ids,List.replicate ids.length []⟩
theorem ybzv{ids:List Int}(h1:1<=ids.length)(h2:ids.length<=24)(h3:∀ x ∈ ids,0<=x/\x<=255)(h4:ids.Nodup):yba (bare ids):=by
 have e:∀ v:Fin (bare ids).ports.length,(bare ids).ports[v] = []:=fun v=>by
  have hv:v.1<ids.length:=by have:=v.isLt;simpa [bare]using this
  show(List.replicate ids.length ([]:List (Int × Int)))[v.1]'(by simpa using hv) = []
  exact List.getElem_replicate ..
 refine⟨by simpa [bare]using h1,by simpa [bare]using h2,by simp[bare],h3,h4,fun v=>?_,fun v l hl=>?_⟩
 ·rw[e v];exact⟨fun l hl=>(nomatch hl),List.nodup_nil⟩
 ·rw[e v]at hl;cases hl
end Go.Proofs.YtpngeppkgoaimaaGreatDoor

namespace Go.Proofs.YtpngeppkgoaimaaGreatDoor
open Go
structure NetR where
 n:Int
 links:List Int
 weights:List Int
 ids:List Int
 apart:Bool
 back:Bool
def NetR.ok(x:NetR):Prop:=Sh.inK .i64 x.n/\(∀ k,Sh.inK .i64 (x.links.getD k 0))/\(∀ k,Sh.inK .i64 (x.weights.getD k 0))/\(∀ k,Sh.inK .i64 (x.ids.getD k 0))
theorem ybfg(a r:Nat)(hr:r<=256):((List.range r).map fun i=>(((a+i) % 256:Nat):Int)).Nodup:=by
 unfold List.Nodup;rw[List.pairwise_map];refine List.Pairwise.imp_of_mem (R:=(· < ·)) (fun {i j} hi hj h=>?_) List.pairwise_lt_range;have hi:=List.mem_range.1 hi;have hj:=List.mem_range.1 hj;intro e;omega
theorem ybje{a r:Nat}{l:List Int}(hr:r<=256)(h:∀ i,i<r->(((a+i) % 256:Nat):Int) ∈ l):r<=l.length:=by
 have:=List.Nodup.length_le_of_subset (ybfg a r hr) (l₂:=l) fun x hx=>by
  obtain⟨i,hi,rfl⟩:=List.mem_map.1 hx;exact h i (List.mem_range.1 hi)
 simpa using this
namespace Sh
open Ev Go.RowKit
set_option maxRecDepth 8000
def netC(x:NetR):List SV:=[.i .i64 x.n,yu x.links,yu x.weights,yu x.ids,.b x.apart,.b x.back]
theorem wrap64_in(z:Int):inK .i64 (IntKind.wrap .i64 z):=by
 unfold inK;have e1:IntKind.i64.min = -9223372036854775808:=rfl;have e2:IntKind.i64.max=9223372036854775807:=rfl;have h1:=Int.emod_nonneg z (show(18446744073709551616:Int) ≠ 0 by decide)
 have h2:=Int.emod_lt_of_pos z (show(0:Int)<18446744073709551616 by decide)
 rw[e1,e2]
 have e:IntKind.wrap .i64 z=if z % 18446744073709551616 >= 9223372036854775808 then z % 18446744073709551616 - 18446744073709551616 else z % 18446744073709551616:=by
  show(if (true && decide (z % 18446744073709551616 >= 9223372036854775808))=true then z % 18446744073709551616 - 18446744073709551616 else z % 18446744073709551616)=_
  simp only[Bool.true_and,decide_eq_true_eq]
 rw[e];split<;>omega
theorem ycfc{x:NetR}(hx:x.ok){most:Nat}(hm:1<=most/\most<=24) :
  Cm Tryz.prog 88 [] [] [.ag (netC x),.i .i64 most] fun r o=>∃ ids:List Int,(1<=ids.length/\ids.length<=most)/\(∀ y ∈ ids,0<=y/\y<=255)/\ids.Nodup/\r = .ag [yu ids,.os (17,0) 0 ids.length true] /\
   o = [(17,.one (some ⟨41,false,1,ids.length,fun _=>[.a (.slice none 0 0)]⟩))]:=by
 refine ycxm [] [] _ _ _ ?_;obtain⟨hx1,hx2,hx3,hx4⟩:=hx;have hin:=ydk (v:=IntKind.wrap .i64 (x.n - 1)) (m:=(most:Int)) (by omega)
 obtain⟨k,hk⟩:∃ k:Nat,yeu (IntKind.wrap .i64 (x.n - 1)) most=k:=Int.eq_ofNat_of_zero_le hin.1;have hW:=ydj (IntKind.wrap .i64 (x.n - 1)) most (by omega) (wrap64_in _)
 rw[hk]at hW hin;obtain⟨n,hn⟩:∃ n:Nat,(1:Int)+(k:Int)=(n:Int):=⟨1+k,by omega⟩
 have hn1:1<=n/\n<=most:=by omega
 simp only[c88,ydvo,ydhf,netC,go_sem,Nat.reduceEqDiff,Nat.reduceAdd,Nat.reduceLeDiff,Nat.reduceLT,↓reduceIte,reduceCtorEq];refine hW.use ?_;simp only[thenO,ydtj,ydva,hn,clash,go_sem,Nat.reduceEqDiff,Nat.reduceAdd,Nat.reduceLT,↓reduceIte,reduceCtorEq];refine⟨ikw (by omega) (by omega),⟨by omega,by omega,by omega⟩,?_⟩
 refine ybd (σ:=List Int) (fun l=>⟨[(7,.i .i64 l.length),(5,.i .i64 n),(2,.pt (2,0) 0 0),(6,.pt (6,0) 0 0),(4,.pt (4,0) 0 0)],
   [(2,.one (some ⟨24,true,6,1,fun _=>netC x⟩)),(4,.one (some ⟨28,true,2,1,fun _=>[.a (.slice none 0 0),.a (.slice none 0 0)]⟩)),
    (6,.one (some ⟨28,true,2,1,fun _=>[.os (148,0) 0 l.length true,.os (17,0) 0 n true]⟩)),(17,.one (some ⟨41,false,1,n,fun _=>[.a (.slice none 0 0)]⟩)),
    (148,.one (some ⟨3,false,1,l.length,fun k=>[.i .i64 (l.getD k 0)]⟩))]⟩)
  (fun l=>l.length<=n/\(∀ y ∈ l,0<=y/\y<=255)/\l.Nodup) (fun l=>n - l.length) [] ⟨Nat.zero_le _,fun y hy=>(List.not_mem_nil hy).elim,List.nodup_nil⟩ ?_ ?_
 ·refine yh [] [148] [] ?_;simp only[netC,allQ,live,yg,Int.natCast_zero,go_sem,Nat.reduceEqDiff,Nat.reduceBEq,↓reduceIte,reduceCtorEq];exact fun i _=>⟨(148,0),rfl,rfl,rfl⟩
 ·rintro l ⟨hl,hl2,hl3⟩;obtain⟨v,hv⟩:∃ v,l.length=v:=⟨_,rfl⟩;rw[hv]at hl;have hA:=at_ret x.ids v;have hi2:=ydk (v:=atP x.ids v) (m:=256) (by omega)
  obtain⟨a,ha⟩:∃ a:Nat,yeu (atP x.ids v) 256=a:=Int.eq_ofNat_of_zero_le hi2.1;have hW2:=ydj (atP x.ids v) 256 (by omega) (hx4 v)
  rw[ha]at hW2 hi2;simp only[ydmt,ydho,ydin,ycsg,netC,hv,splice,clash,go_sem,Nat.reduceEqDiff,Nat.reduceAdd,Nat.reduceLeDiff,↓reduceIte,reduceCtorEq];refine⟨fun hlt=>?_,fun hge=>?_⟩
  ·refine hA.use ?_;simp only[thenO,clash,go_sem,Nat.reduceEqDiff,Nat.reduceAdd,↓reduceIte,reduceCtorEq];refine hW2.use ?_
   refine ybd (σ:=Nat × Nat) (fun q=>⟨[(9,.i .i64 q.2),(8,.i .i64 ((a+q.1) % 256:Nat)),(7,.i .i64 v),(5,.i .i64 n),(2,.pt (2,0) 0 0),(6,.pt (6,0) 0 0),(4,.pt (4,0) 0 0)],
    [(2,.one (some ⟨24,true,6,1,fun _=>netC x⟩)),(4,.one (some ⟨28,true,2,1,fun _=>[.a (.slice none 0 0),.a (.slice none 0 0)]⟩)),
     (6,.one (some ⟨28,true,2,1,fun _=>[.os (148,0) 0 v true,.os (17,0) 0 n true]⟩)),(17,.one (some ⟨41,false,1,n,fun _=>[.a (.slice none 0 0)]⟩)),
     (148,.one (some ⟨3,false,1,v,fun k=>[.i .i64 (l.getD k 0)]⟩))]⟩)
    (fun q=>q.2<=v/\(∀ i,i<q.1->(((a+i) % 256:Nat):Int) ∈ l)/\q.1<=256 /\ ∀ j,j<q.2->l.getD j 0 ≠ (((a+q.1) % 256:Nat):Int)) (fun q=>(v - q.1) * (v+2)+(v - q.2)) (0,0) ⟨Nat.zero_le _,fun i hi=>absurd hi (Nat.not_lt_zero i),by omega,fun j hj=>absurd hj (Nat.not_lt_zero j)⟩ ?_ ?_
   ·refine yh [] [] [] ?_;simp only[netC,allQ,live,yg,ybb,Int.natCast_zero,go_sem,Nat.reduceEqDiff,↓reduceIte,reduceCtorEq];rw[Nat.mod_eq_of_lt (by omega)]
   ·rintro⟨r,u⟩ ⟨hu,hr,hr256,hno⟩;obtain⟨b,hb⟩:∃ b,(a+r) % 256=b:=⟨_,rfl⟩;have hb256:b<256:=by omega
    simp only[ydmg,ydsh,ycra,ycpg,ycmn,ydnv,netC,hb,splice,clash,go_sem,Nat.reduceEqDiff,Nat.reduceAdd,Nat.reduceLeDiff,Nat.reduceLT,↓reduceIte,reduceCtorEq];have hu:u<=v:=hu;have hr:∀ i,i<r->(((a+i) % 256:Nat):Int) ∈ l:=hr;have hr256:r<=256:=hr256;have hno:∀ j,j<u->l.getD j 0 ≠ (b:Int):=fun j hj=>by rw[<- hb];exact hno j hj
    have hrv:r<=v:=by rw[<- hv];exact ybje hr256 hr
    refine⟨fun hlt2=>⟨⟨by omega,by omega⟩,by omega,fun he=>⟨ikw (by omega) (by omega),by decide,ikw (by omega) (by omega),?_⟩,fun hne=>⟨ikw (by omega) (by omega),?_⟩⟩,fun hge2=>?_⟩
    ·have hmem:(b:Int) ∈ l:=by
      rw[<- he,getD_at (show u<l.length by omega)]
      exact List.getElem_mem _
     have hr':∀ i,i<r+1->(((a+i) % 256:Nat):Int) ∈ l:=fun i hi=>by
      by_cases q:i=r
      ·rw[q,hb];exact hmem
      ·exact hr i (by omega)
     have hrv':r+1<=v:=by rw[<- hv];exact ybje (by omega) hr'
     refine yj (r+1,0) ⟨Nat.zero_le _,hr',by show r+1<=256;omega,fun j hj=>absurd hj (Nat.not_lt_zero j)⟩ ?_ ?_
     ·show(v - (r+1)) * (v+2)+(v - 0)<(v - r) * (v+2)+(v - u);obtain⟨m,hm⟩:∃ m,v - r=m+1:=⟨v - r - 1,by omega⟩
      rw[show v - (r+1)=m by omega,hm,Nat.succ_mul]
      generalize m * (v+2)=z
      omega
     ·refine yh [] [] [] ?_;simp only[allQ,live,yg,ybb,Int.natCast_zero,go_sem,Nat.reduceEqDiff,↓reduceIte,reduceCtorEq];refine⟨by omega,?_⟩
      rw[Int.tmod_eq_emod_of_nonneg (by omega)]
      omega
    ·refine yj (r,u+1) ⟨by show u+1<=v;omega,hr,hr256,fun j hj=>?_⟩ ?_ ?_
     ·show l.getD j 0 ≠ (((a+r) % 256:Nat):Int);rw[hb]
      by_cases q:j=u
      ·rw[q];exact hne
      ·exact hno j (by have:j<u+1:=hj;omega)
     ·show(v - r) * (v+2)+(v - (u+1))<(v - r) * (v+2)+(v - u)
      generalize (v - r) * (v+2)=z
      omega
     ·refine yh [] [] [] ?_;simp only[hb,allQ,live,yg,ybb,go_sem,Nat.reduceEqDiff,↓reduceIte,reduceCtorEq];omega
    ·obtain rfl:u=v:=by omega
     refine⟨⟨by omega,by omega⟩,ikw (by omega) (by omega),?_⟩
     have hno':(b:Int) ∉ l:=fun hm=>by
      obtain⟨j,hj,e⟩:=List.getElem_of_mem hm;exact hno j (by omega) (by rw[getD_at hj,e])
     refine yj (l ++ [(b:Int)]) ⟨by rw[List.length_append,List.length_singleton];omega,fun y hy=>?_,?_⟩ (by rw[List.length_append,List.length_singleton];omega) ?_
     ·rcases List.mem_append.1 hy with hy | hy
      ·exact hl2 y hy
      ·rw[List.mem_singleton.1 hy];omega
     ·rw[List.nodup_append];exact⟨hl3,by simp,fun y hy z hz=>by rw[List.mem_singleton.1 hz];exact fun e=>hno' (e ▸ hy)⟩
     refine yh [(148,fun i=>(48,i))] [] [] ?_;simp only[List.length_append,hv,allQ,live,yg,ybb,go_sem,Nat.reduceEqDiff,↓reduceIte,reduceCtorEq];refine⟨by omega,fun i hi=>?_⟩
     rw[yta,hv]
     by_cases q:i<u
     ·simp only[if_pos q];simp only[live,yg,go_sem,reduceCtorEq]
     ·obtain rfl:i=u:=by omega
      simp only[if_neg q,Nat.sub_self];simp only[live,yg,go_sem,↓reduceIte,reduceCtorEq]
  ·obtain rfl:v=n:=by omega
   simp only[ygt,go_sem];refine⟨.ag [yu l,.os (17,0) 0 v true],[(17,.one (some ⟨41,false,1,v,fun _=>[.a (.slice none 0 0)]⟩))],?_,?_,l,by rw[hv];exact hn1,hl2,hl3,by rw[hv],by rw[hv]⟩
   ·refine yh [] [] [(148,0)] ?_;simp only[yu,hv,allQ,live,yg,go_sem,Nat.reduceEqDiff,↓reduceIte,reduceCtorEq]
   ·simp only[famCln,yga,allQ,live,go_sem,↓reduceIte]
end Sh
end Go.Proofs.YtpngeppkgoaimaaGreatDoor

namespace Go.Proofs.YtpngeppkgoaimaaGreatDoor
open Go
def ylv(back:Bool)(g:Gr)(a b:Nat)(w:Int):Gr:=if a=b\/yol (g.ports.getD a []) b=true then g else ycr back g a b w
namespace Sh
open Ev Go.RowKit
set_option maxRecDepth 8000
def rowO(l:List (Int × Int)):OB:=⟨43,false,2,l.length,fun k=>[.i .i64 (l.getD k (0,0)).1,.i .i64 (l.getD k (0,0)).2]⟩
def ycu(ports:List (List (Int × Int))):Own:=[(211,.one (some ⟨41,false,1,ports.length,fun v=>[.os (212,v) 0 (ports.getD v []).length true]⟩)),
 (212,.many fun v=>if v<ports.length then some (rowO (ports.getD v []))else none)]
def yhw(g:Gr):SV:=.ag [yu g.ids,.os (211,0) 0 g.ports.length true]
theorem ydb{i n:Nat}{x b:OB}(h:(if i<n then some x else none)=some b):i<n/\b=x:=by
 split at h
 ·cases h;exact⟨by assumption,rfl⟩
 ·cases h
theorem ybx(back:Bool)(L:List (Int × Int))(x:Int × Int):(addL back L x).length=L.length+1:=by
 unfold addL;cases back<;>simp
theorem ybce(L:List (Int × Int))(x:Int × Int){k:Nat}(hk:k<L.length+1):(if k<L.length then[SV.i .i64 (L.getD k (0,0)).1,SV.i .i64 (L.getD k (0,0)).2]else List.take 2 (List.drop ((k - L.length) * 2) [SV.i .i64 x.1,SV.i .i64 x.2])) = [SV.i .i64 ((addL false L x).getD k (0,0)).1,SV.i .i64 ((addL false L x).getD k (0,0)).2]:=by
 show _ = [SV.i .i64 ((L ++ [x]).getD k (0,0)).1,SV.i .i64 ((L ++ [x]).getD k (0,0)).2];rw[yta]
 by_cases h:k<L.length
 ·rw[if_pos h,if_pos h]
 ·obtain rfl:k=L.length:=by omega
  rw[if_neg h,if_neg h,if_pos rfl,Nat.sub_self];rfl
theorem ync(L:List (Int × Int))(x:Int × Int)(k:Nat):(if k<1 then List.take 2 (List.drop (k * 2) [SV.i .i64 x.1,SV.i .i64 x.2])else[SV.i .i64 (L.getD (k - 1) (0,0)).1,SV.i .i64 (L.getD (k - 1) (0,0)).2]) = [SV.i .i64 ((addL true L x).getD k (0,0)).1,SV.i .i64 ((addL true L x).getD k (0,0)).2]:=by
 show _ = [SV.i .i64 ((x :: L).getD k (0,0)).1,SV.i .i64 ((x :: L).getD k (0,0)).2];cases k with
 | zero=>rfl
 | succ k=>rw[if_neg (by omega)];rfl
theorem cells_one(L:List (Int × Int))(h:L.length=0)(x:Int × Int){k:Nat}(hk:k<1):List.take 2 (List.drop (k * 2) [SV.i .i64 x.1,SV.i .i64 x.2]) = [SV.i .i64 ((addL true L x).getD k (0,0)).1,SV.i .i64 ((addL true L x).getD k (0,0)).2]:=by
 obtain rfl:k=0:=by omega
 rfl
theorem yiz {n:Nat} {o:Own} {P':List (List (Int × Int))} (hl:P'.length=n) (A:Nat->Nm) {R:Nat->List SV} (h11:lookO o (211,0)=some ⟨41,false,1,n,R⟩) (hR:∀ v,v<n->R v = [.os (A v) 0 (P'.getD v []).length true])
  (hA:∀ v,v<n -> ∃ q,lookO o (A v)=some ⟨43,false,2,(P'.getD v []).length,q⟩ /\ ∀ k,k<(P'.getD v []).length->q k = [.i .i64 ((P'.getD v []).getD k (0,0)).1,.i .i64 ((P'.getD v []).getD k (0,0)).2])
  (hi:∀ u v,u<n->v<n->A u=A v->u=v) (h0:∀ v,v<n->A v ≠ (211,0)) :
  ∃ r o',Weak [(211,0)] ⟨[(0,.tp [])],o⟩ ⟨[(0,r)],o'⟩/\(cln (live o') 5 r=true/\allQ (fun p=>famCln (live o') p.2) o'/\allQ (fun β=>live o' β=true) [(211,0)])/\r = .tp []/\o'=ycu P':=by
 subst hl
 have hsome:∀ i,(if i<P'.length then some (rowO (P'.getD i []))else none).isSome=true->i<P'.length:=fun i h=>by
  by_cases q:i<P'.length
  ·exact q
  ·rw[if_neg q]at h;cases h
 have hlive:∀ i,i<P'.length->live (ycu P') (212,i)=true:=fun i hi=>by
  show(if i<P'.length then some (rowO (P'.getD i []))else none).isSome=true
  rw[if_pos hi];rfl
 refine⟨.tp [],ycu P',ybii [(212,A)] [] [] trivial ⟨.inr ⟨.inr fun e=>⟨rfl,rfl⟩,.inr fun j hj e=>?_,trivial⟩,.inr ⟨.inr fun i hi' e=>?_,.inr fun i hi' j hj e=>⟨rfl,?_⟩,trivial⟩,trivial⟩ ⟨?_,trivial⟩ ⟨?_,fun i b hb=>?_,trivial⟩ ⟨⟨rfl,rfl,rfl⟩,trivial⟩,⟨rfl,⟨?_,?_,trivial⟩,rfl,trivial⟩,rfl,rfl⟩
 ·exact absurd e.symm (h0 j (hsome j hj))
 ·exact absurd e (h0 i (hsome i hi'))
 ·exact hi i j (hsome i hi') (hsome j hj) e
 ·exact⟨_,rfl,.inl ⟨trivial,Sim.refl _,rfl⟩⟩
 ·refine⟨_,h11,⟨rfl,rfl,rfl,rfl,rfl⟩,fun i hi'=>?_⟩;have hi':i<P'.length:=hi';show telL _ _ _ _ _ (R i) _;rw[hR i hi'];refine⟨.inl ⟨by simp only[go_sem],Sim.refl _,?_⟩,rfl,trivial⟩
  show(live (ycu P') (212,i) && !(List.elem 212 []))=true;rw[hlive i hi'];rfl
 ·obtain⟨hi',rfl⟩:=ydb hb;obtain⟨q,q1,q2⟩:=hA i hi';refine⟨_,q1,⟨rfl,rfl,rfl,rfl,rfl⟩,fun k hk=>?_⟩;show telL _ _ _ _ _ (q k) _;rw[q2 k hk];exact⟨.inl ⟨trivial,Sim.refl _,rfl⟩,rfl,.inl ⟨trivial,Sim.refl _,rfl⟩,rfl,trivial⟩
 ·intro k hk;have:live (ycu P') (212,k)=true:=hlive k hk;simp only[ycu,List.all_cons,List.all_nil,Bool.and_true]at this ⊢;exact this
 ·intro i b hb k hk;obtain⟨hi',rfl⟩:=ydb hb;rfl
section
variable {x:NetR} {g:Gr} {a b:Nat} {w:Int}
theorem ybqz(ha:a<g.ports.length)(hb:b<g.ports.length)(hn:g.ports.length<=24)(hd:∀ v,(g.ports.getD v []).length<=1000) :
  Cm Tryz.prog 87 [(211,0)] (ycu g.ports) [.ag (netC x),yhw g,.i .i64 a,.i .i64 b,.i .i64 w] fun r o=>r = .tp []/\o=ycu (ylv x.back g a b w).ports:=by
 refine yddm [(211,0)] [] _ _ _ ?_;obtain⟨O2,hO2⟩:∃ O,ycu (ylv x.back g a b w).ports=O:=⟨_,rfl⟩;rw[hO2]
 by_cases hab:a=b
 ·subst hab;have hP:ylv x.back g a a w=g:=if_pos (.inl rfl);rw[hP]at hO2;simp only[c87,ydbl,yddj,netC,yhw,ycu,ygt,go_sem,Nat.reduceEqDiff,Nat.reduceAdd,Nat.reduceLT,↓reduceIte,reduceCtorEq];subst hO2;exact yiz rfl (fun v=>(212,v)) rfl (fun v hv=>rfl) (fun v hv=>⟨_,if_pos hv,fun k hk=>rfl⟩) (fun u v _ _ e=>congrArg Prod.snd e) (fun v _ e=>by cases e)
 ·have hne:((a:Int) == (b:Int))=false:=by rw[beq_eq_false_iff_ne];omega
  have hL:=ybmx (ids:=g.ids) (ports:=g.ports) (b:=b) ha (by have:=hd a;omega)
  simp only[c87,ydbl,yddj,netC,yhw,ycu,hne,clash,go_sem,Nat.reduceEqDiff,Nat.reduceAdd,Nat.reduceLT,↓reduceIte,reduceCtorEq];refine .inl ⟨fun q hq=>by rw[if_pos hq];exact⟨Nat.le_refl _,fun k hk=>by simp only[rowO,go_sem]⟩,hL.useS ?_ ?_⟩
  ·refine⟨ytx ⟨Sim.refl _,?_,trivial⟩,Sim.refl _,Sim.refl _,trivial⟩;refine yge fun q hq=>?_;rw[if_pos hq];simp only[rowO,ybc,go_sem];exact⟨Sim.refl _,trivial⟩
  cases hlk:yol (g.ports.getD a []) b with
  | true =>
   have hP:ylv x.back g a b w=g:=if_pos (.inr hlk);rw[hP]at hO2;simp only[thenO,clash,ygt,go_sem,Nat.reduceEqDiff,Nat.reduceAdd,↓reduceIte];subst hO2;exact yiz rfl (fun v=>(212,v)) rfl (fun v hv=>rfl) (fun v hv=>⟨_,if_pos hv,fun k hk=>rfl⟩) (fun u v _ _ e=>congrArg Prod.snd e) (fun v _ e=>by cases e)
  | false =>
   have hP:ylv x.back g a b w=ycr x.back g a b w:=if_neg (fun q=>by rcases q with q | q;exact hab q;rw[hlk]at q;cases q)
   rw[hP]at hO2;subst hO2;have hba:¬ b=a:=fun e=>hab e.symm;have hlen:(ycr x.back g a b w).ports.length=g.ports.length:=by simp[ycr]
   have hat:=yfm x.back g w ha hb;obtain⟨G',hG'⟩:∃ G,(ycr x.back g a b w).ports=G:=⟨_,rfl⟩;rw[hG']at hlen ⊢;have hat:∀ v,G'.getD v []=if v=b then addL x.back (g.ports.getD b []) (a,w)else if v=a then addL x.back (g.ports.getD a []) (b,w)else g.ports.getD v []:=fun v=>by rw[<- hG'];exact hat v
   clear hG' hP
   obtain⟨x1,x2,x3,x4,x5,back⟩:=x;have hda:=hd a;have hdb:=hd b;cases back with
   | false =>
    simp only[thenO,clash,ybow,ybok,ydly,rowO,if_pos ha,if_pos hb,hab,hba,ygt,and_false,go_sem,Nat.reduceEqDiff,Nat.reduceAdd,Nat.reduceLeDiff,Nat.reduceLT,↓reduceIte,reduceCtorEq];refine⟨⟨by omega,by omega⟩,by omega,⟨by omega,by omega⟩,by decide,⟨by omega,by omega⟩,by omega,⟨by omega,by omega⟩,by decide,⟨by omega,by omega⟩,by omega,by decide,⟨by omega,by omega⟩,by omega,by decide,?_⟩
    refine yiz hlen (fun v=>if v=b then(74,0)else if v=a then(66,0)else(212,v)) rfl (fun v hv=>?_) (fun v hv=>?_) (fun u v _ _ e=>?_) (fun v _ e=>?_)
    ·rw[hat v]
     by_cases q:v=b
     ·simp only[if_pos q,ybx]
     ·by_cases q2:v=a
      ·simp only[if_neg q,if_pos q2,ybx]
      ·simp only[if_neg q,if_neg q2]
    ·rw[hat v]
     by_cases q:v=b
     ·simp only[if_pos q,ybx];exact⟨_,rfl,fun k hk=>ybce _ (_,_) hk⟩
     ·by_cases q2:v=a
      ·simp only[if_neg q,if_pos q2,ybx];exact⟨_,rfl,fun k hk=>ybce _ (_,_) hk⟩
      ·simp only[if_neg q,if_neg q2];refine⟨fun k=>[.i .i64 ((g.ports.getD v []).getD k (0,0)).1,.i .i64 ((g.ports.getD v []).getD k (0,0)).2],?_,fun k hk=>rfl⟩;show(if v=b then none else if v=a then none else if v<g.ports.length then some _ else none)=some _
       rw[if_neg q,if_neg q2,if_pos hv]
    ·by_cases q:u=b<;>by_cases q2:u=a<;>by_cases q3:v=b<;>by_cases q4:v=a<;>simp[q,q2,q3,q4,hab]at e ⊢<;>omega
    ·by_cases q:v=b<;>by_cases q2:v=a<;>simp[q,q2,hab]at e
   | true =>
    by_cases hza:(g.ports.getD a []).length=0
    ·by_cases hzb:(g.ports.getD b []).length=0
     ·simp only[thenO,clash,ybow,ybok,yccd,ycaa,rowO,if_pos ha,if_pos hb,hba,ygt,and_false,hza,hzb,go_sem,Nat.reduceEqDiff,Nat.reduceAdd,Nat.reduceLeDiff,Nat.reduceLT,Nat.reduceMul,↓reduceIte,reduceCtorEq]
      repeat' apply And.intro
      all_goals first | omega | decide | skip
      refine yiz hlen (fun v=>if v=b then(45,0)else if v=a then(33,0)else(212,v)) rfl (fun v hv=>?_) (fun v hv=>?_) (fun u v _ _ e=>?_) (fun v _ e=>?_)
      ·rw[hat v]
       by_cases q:v=b
       ·simp only[if_pos q,ybx,hzb,Nat.zero_add]
       ·by_cases q2:v=a
        ·simp only[if_neg q,if_pos q2,ybx,hza,Nat.zero_add]
        ·simp only[if_neg q,if_neg q2]
      ·rw[hat v]
       by_cases q:v=b
       ·simp only[if_pos q,ybx,hzb,Nat.zero_add];exact⟨_,rfl,fun k hk=>cells_one _ hzb (_,_) hk⟩
       ·by_cases q2:v=a
        ·simp only[if_neg q,if_pos q2,ybx,hza,Nat.zero_add];exact⟨_,rfl,fun k hk=>cells_one _ hza (_,_) hk⟩
        ·simp only[if_neg q,if_neg q2];refine⟨fun k=>[.i .i64 ((g.ports.getD v []).getD k (0,0)).1,.i .i64 ((g.ports.getD v []).getD k (0,0)).2],?_,fun k hk=>rfl⟩;show(if v<g.ports.length then some _ else none)=some _
         rw[if_pos hv]
      ·by_cases q:u=b<;>by_cases q2:u=a<;>by_cases q3:v=b<;>by_cases q4:v=a<;>simp[q,q2,q3,q4,hab]at e ⊢<;>omega
      ·by_cases q:v=b<;>by_cases q2:v=a<;>simp[q,q2,hab]at e
     ·simp only[thenO,clash,ybow,ybok,yccd,ycaa,rowO,if_pos ha,if_pos hb,hba,ygt,and_false,hza,hzb,go_sem,Nat.reduceEqDiff,Nat.reduceAdd,Nat.reduceLeDiff,Nat.reduceLT,Nat.reduceMul,↓reduceIte,reduceCtorEq]
      repeat' apply And.intro
      all_goals first | omega | decide | skip
      refine yiz hlen (fun v=>if v=b then(51,0)else if v=a then(33,0)else(212,v)) rfl (fun v hv=>?_) (fun v hv=>?_) (fun u v _ _ e=>?_) (fun v _ e=>?_)
      ·rw[hat v]
       by_cases q:v=b
       ·simp only[if_pos q,ybx,Nat.add_comm]
       ·by_cases q2:v=a
        ·simp only[if_neg q,if_pos q2,ybx,hza,Nat.zero_add,Nat.add_comm]
        ·simp only[if_neg q,if_neg q2]
      ·rw[hat v]
       by_cases q:v=b
       ·simp only[if_pos q,ybx];exact⟨_,congrArg some (congrArg (fun n=>OB.mk _ _ _ n _) (Nat.add_comm _ _)),fun k hk=>ync _ (_,_) k⟩
       ·by_cases q2:v=a
        ·simp only[if_neg q,if_pos q2,ybx,hza,Nat.zero_add];exact⟨_,rfl,fun k hk=>cells_one _ hza (_,_) hk⟩
        ·simp only[if_neg q,if_neg q2];refine⟨fun k=>[.i .i64 ((g.ports.getD v []).getD k (0,0)).1,.i .i64 ((g.ports.getD v []).getD k (0,0)).2],?_,fun k hk=>rfl⟩;show(if v<g.ports.length then some _ else none)=some _
         rw[if_pos hv]
      ·by_cases q:u=b<;>by_cases q2:u=a<;>by_cases q3:v=b<;>by_cases q4:v=a<;>simp[q,q2,q3,q4,hab]at e ⊢<;>omega
      ·by_cases q:v=b<;>by_cases q2:v=a<;>simp[q,q2,hab]at e
    ·by_cases hzb:(g.ports.getD b []).length=0
     ·simp only[thenO,clash,ybow,ybok,yccd,ycaa,rowO,if_pos ha,if_pos hb,hba,ygt,and_false,hza,hzb,go_sem,Nat.reduceEqDiff,Nat.reduceAdd,Nat.reduceLeDiff,Nat.reduceLT,Nat.reduceMul,↓reduceIte,reduceCtorEq]
      repeat' apply And.intro
      all_goals first | omega | decide | skip
      refine yiz hlen (fun v=>if v=b then(45,0)else if v=a then(39,0)else(212,v)) rfl (fun v hv=>?_) (fun v hv=>?_) (fun u v _ _ e=>?_) (fun v _ e=>?_)
      ·rw[hat v]
       by_cases q:v=b
       ·simp only[if_pos q,ybx,hzb,Nat.zero_add,Nat.add_comm]
       ·by_cases q2:v=a
        ·simp only[if_neg q,if_pos q2,ybx,Nat.add_comm]
        ·simp only[if_neg q,if_neg q2]
      ·rw[hat v]
       by_cases q:v=b
       ·simp only[if_pos q,ybx,hzb,Nat.zero_add];exact⟨_,rfl,fun k hk=>cells_one _ hzb (_,_) hk⟩
       ·by_cases q2:v=a
        ·simp only[if_neg q,if_pos q2,ybx];exact⟨_,congrArg some (congrArg (fun n=>OB.mk _ _ _ n _) (Nat.add_comm _ _)),fun k hk=>ync _ (_,_) k⟩
        ·simp only[if_neg q,if_neg q2];refine⟨fun k=>[.i .i64 ((g.ports.getD v []).getD k (0,0)).1,.i .i64 ((g.ports.getD v []).getD k (0,0)).2],?_,fun k hk=>rfl⟩;show(if v<g.ports.length then some _ else none)=some _
         rw[if_pos hv]
      ·by_cases q:u=b<;>by_cases q2:u=a<;>by_cases q3:v=b<;>by_cases q4:v=a<;>simp[q,q2,q3,q4,hab]at e ⊢<;>omega
      ·by_cases q:v=b<;>by_cases q2:v=a<;>simp[q,q2,hab]at e
     ·simp only[thenO,clash,ybow,ybok,yccd,ycaa,rowO,if_pos ha,if_pos hb,hba,ygt,and_false,hza,hzb,go_sem,Nat.reduceEqDiff,Nat.reduceAdd,Nat.reduceLeDiff,Nat.reduceLT,↓reduceIte,reduceCtorEq]
      repeat' apply And.intro
      all_goals first | omega | decide | skip
      refine yiz hlen (fun v=>if v=b then(51,0)else if v=a then(39,0)else(212,v)) rfl (fun v hv=>?_) (fun v hv=>?_) (fun u v _ _ e=>?_) (fun v _ e=>?_)
      ·rw[hat v]
       by_cases q:v=b
       ·simp only[if_pos q,ybx,Nat.add_comm]
       ·by_cases q2:v=a
        ·simp only[if_neg q,if_pos q2,ybx,Nat.add_comm]
        ·simp only[if_neg q,if_neg q2]
      ·rw[hat v]
       by_cases q:v=b
       ·simp only[if_pos q,ybx];exact⟨_,congrArg some (congrArg (fun n=>OB.mk _ _ _ n _) (Nat.add_comm _ _)),fun k hk=>ync _ (_,_) k⟩
       ·by_cases q2:v=a
        ·simp only[if_neg q,if_pos q2,ybx];exact⟨_,congrArg some (congrArg (fun n=>OB.mk _ _ _ n _) (Nat.add_comm _ _)),fun k hk=>ync _ (_,_) k⟩
        ·simp only[if_neg q,if_neg q2];refine⟨fun k=>[.i .i64 ((g.ports.getD v []).getD k (0,0)).1,.i .i64 ((g.ports.getD v []).getD k (0,0)).2],?_,fun k hk=>rfl⟩;show(if v<g.ports.length then some _ else none)=some _
         rw[if_pos hv]
      ·by_cases q:u=b<;>by_cases q2:u=a<;>by_cases q3:v=b<;>by_cases q4:v=a<;>simp[q,q2,q3,q4,hab]at e ⊢<;>omega
      ·by_cases q:v=b<;>by_cases q2:v=a<;>simp[q,q2,hab]at e
end
end Sh
end Go.Proofs.YtpngeppkgoaimaaGreatDoor

namespace Go.Proofs.YtpngeppkgoaimaaGreatDoor
open Go
theorem yws{back:Bool}{g:Gr}{a b:Nat}{w:Int}(hg:yba g)(ha:a<g.ports.length)(hb:b<g.ports.length)(hw:1<=w/\w<=15):yba (ylv back g a b w)/\(ylv back g a b w).ids=g.ids/\(ylv back g a b w).ports.length=g.ports.length:=by
 unfold ylv
 by_cases h:a=b\/yol (g.ports.getD a []) b=true
 ·rw[if_pos h];exact⟨hg,rfl,rfl⟩
 ·rw[if_neg h];refine⟨ybcg hg ha hb (fun e=>h (.inl e)) hw fun l hl e=>h (.inr (List.any_eq_true.2 ⟨l,hl,decide_eq_true e⟩)),rfl,by simp[ycr]⟩
theorem ybbb{back:Bool}{g:Gr}{a b:Nat}{w:Int}(ha:a<g.ports.length)(hb:b<g.ports.length){m:Nat}(h:Tre g m):Tre (ylv back g a b w) m:=by
 unfold ylv;split
 ·exact h
 ·exact h.add ha hb
theorem ybwr{back:Bool}{g:Gr}{a b:Nat}{w:Int}(ha:a<g.ports.length)(hb:b<g.ports.length)(hab:a ≠ b):adj (ylv back g a b w) a b:=by
 unfold ylv;split
 ·rename_i h
  rcases h with h | h
  ·exact absurd h hab
  ·obtain⟨l,hl,e⟩:=List.any_eq_true.1 h;exact ytc.2 ⟨l,hl,of_decide_eq_true e⟩
 ·exact ybin ha hb hab
namespace Sh
open Ev Go.RowKit
set_option maxRecDepth 8000
theorem yzp{n:Nat}{P:List (List (Int × Int))}{f:SV->SV}(hf:∀ k z,f (.i k z) = .i k z){i:Nat}(hi:i<n):(match (if i<n then some (rowO (P.getD i []))else none)with | some b=>some (⟨b.e,b.bx,b.z,b.n,fun k=>(b.g k).map f⟩:OB) | none=>none)=some (rowO (P.getD i [])):=by
 rw[if_pos hi];simp[rowO,hf]
theorem yddn{x:NetR}(hx:x.ok){most:Nat}(hm:1<=most/\most<=24) :
  Cm Tryz.prog 48 [] [] [.ag (netC x),.i .i64 most] fun r o=>∃ g,yba g/\Tre g g.ports.length/\g.ports.length<=most/\r=yhw g/\o=ycu g.ports:=by
 refine ydez [] [88,87] _ _ _ ?_;have hN:=ycfc hx hm;obtain⟨hx1,hx2,hx3,hx4⟩:=hx;simp only[netC]at hN;simp only[c48,ydtz,ydmp,netC,go_sem,Nat.reduceEqDiff,Nat.reduceAdd,Nat.reduceLT,↓reduceIte,reduceCtorEq];refine callM_of hN [(17,117)] 0 [2,4] [2,4] ?_ ?_
 ·simp only[okN,famCln,yga,keepF,keepO,allQ,live,yg,go_sem,Nat.reduceEqDiff,Nat.reduceAdd,Nat.reduceBEq,↓reduceIte,reduceCtorEq]
 rintro r o' ⟨ids,h1,h2,h3,rfl,rfl⟩;obtain⟨n,hn⟩:∃ n,ids.length=n:=⟨_,rfl⟩;rw[hn]at h1;simp only[hn,thenM,ylw,nuF,nu,difN,keepF,keepO,Fam.ren,OB.ren,dim,ydeo,yto,ykc,go_sem,Nat.reduceEqDiff,Nat.reduceAdd,Nat.reduceLT,Nat.reduceBEq,↓reduceIte];simp only[ydto,go_sem]
 refine ybd (σ:=Nat × Gr) (fun q=>⟨[(6,.i .i64 q.1),(5,.pt (5,0) 0 0),(2,.pt (2,0) 0 0),(4,.pt (4,0) 0 0)],
   (5,.one (some ⟨28,true,2,1,fun _=>[yu q.2.ids,.os (211,0) 0 n true]⟩)) :: (2,.one (some ⟨24,true,6,1,fun _=>netC x⟩)) :: (4,.one (some ⟨28,true,2,1,fun _=>[.a (.slice none 0 0),.a (.slice none 0 0)]⟩)) :: ycu q.2.ports⟩)
  (fun q=>yba q.2/\q.2.ports.length=n/\Tre q.2 q.1/\1<=q.1/\q.1<=n) (fun q=>n - q.1) (1,bare ids) ⟨ybzv (by omega) (by omega) h2 h3,by simp[bare,hn],fun v h0 h1=>by omega,by omega,by omega⟩ ?_ ?_
 ·refine yh [(211,fun i=>(117,i))] [212] [] ?_;have b1:(bare ids).ids=ids:=rfl;have b2:(bare ids).ports.length=n:=by simp[bare,hn]
  have b3:∀ v,(bare ids).ports.getD v [] = []:=fun v=>by
   unfold bare;rw[List.getD_eq_getElem?_getD,List.getElem?_replicate];split<;>rfl
  simp only[netC,ycu,rowO,b1,b2,b3,List.length_nil,allQ,live,yg,ybb,go_sem,Nat.reduceEqDiff,Nat.reduceBEq,↓reduceIte,reduceCtorEq];refine⟨rfl,fun i hi=>⟨(212,i),rfl,rfl,by simp[hi]⟩,fun i b hb=>?_⟩
  obtain⟨_,rfl⟩:=ydb hb;exact⟨rfl,rfl⟩
 ·rintro⟨v,g⟩ ⟨hg,hgn,htr,hv1,hvn⟩;have hg:yba g:=hg;have hgn:g.ports.length=n:=hgn;have htr:Tre g v:=htr;have hv1:1<=v:=hv1;have hvn:v<=n:=hvn
  by_cases hlt:v<n
  ·have ht:decide ((v:Int)<(n:Int))=true:=decide_eq_true (by omega)
   have hv2:(v:Int) - 1=((v - 1:Nat):Int):=by omega
   have hA1:=at_ret x.links (v - 1);have hA2:=at_ret x.weights (v - 1);have hi1:=ydk (v:=atP x.links (v - 1)) (m:=(v:Int)) (by omega)
   have hi2:=ydk (v:=atP x.weights (v - 1)) (m:=15) (by omega)
   have hW1:=ydj (atP x.links (v - 1)) v (by omega) (hx2 _)
   have hW2:=ydj (atP x.weights (v - 1)) 15 (by omega) (hx3 _)
   obtain⟨a,ha⟩:∃ a:Nat,yeu (atP x.links (v - 1)) v=a:=Int.eq_ofNat_of_zero_le hi1.1;obtain⟨w,hw⟩:∃ w:Int,yeu (atP x.weights (v - 1)) 15=w:=⟨_,rfl⟩;rw[ha]at hW1 hi1;rw[hw]at hW2 hi2;have hL:=ybqz (x:=x) (g:=g) (a:=a) (b:=v) (w:=1+w) (by omega) (by omega) (by omega) (fun u=>by have:=hg.deg_lt (v:=u);omega)
   simp only[ydbo,ydmb,ydtl,netC,ycu,ht,hv2,clash,go_sem,Nat.reduceEqDiff,Nat.reduceAdd,Nat.reduceLeDiff,Nat.reduceBEq,↓reduceIte,reduceCtorEq];refine⟨ikw (by omega) (by omega),hA1.use ?_⟩
   simp only[thenO,clash,go_sem,Nat.reduceEqDiff,Nat.reduceAdd,Nat.reduceLeDiff,Nat.reduceBEq,↓reduceIte,reduceCtorEq];refine hW1.use ?_;simp only[hv2,go_sem];refine⟨ikw (by omega) (by omega),hA2.use ?_⟩
   simp only[go_sem,↓reduceIte];refine hW2.use ?_;simp only[go_sem,Nat.reduceEqDiff,Nat.reduceBEq,↓reduceIte];refine⟨ikw (by omega) (by omega),callM_of hL [(211,211),(212,212)] 0 [2,4,5,6] [2,4,5] ?_ ?_⟩
   ·simp only[netC,yhw,ycu,hgn,to1,okN,famCln,yga,keepF,keepO,allQ,live,yg,go_sem,Nat.reduceEqDiff,Nat.reduceAdd,Nat.reduceBEq,↓reduceIte,reduceCtorEq];refine⟨⟨fun i _ j _ e=>e,fun i hi=>by rw[if_pos hi],fun i b hb=>?_⟩,by decide⟩
    obtain⟨hi,rfl⟩:=ydb hb;exact⟨_,if_pos hi,⟨rfl,rfl,rfl,rfl⟩,fun k hk=>by simp only[rowO,live,yg,go_sem,reduceCtorEq]⟩
   ·rintro r o' ⟨rfl,rfl⟩;simp only[ycu,thenM,ylw,nuF,nu,difN,keepF,keepO,Fam.ren,OB.ren,dim,yth,ykc,go_sem,Nat.reduceEqDiff,Nat.reduceAdd,Nat.reduceBEq,↓reduceIte,reduceCtorEq];obtain⟨gg1,gg2,gg3⟩:=yws (back:=x.back) (a:=a) (b:=v) (w:=1+w) hg (by omega) (by omega) (by omega)
    have gg4:=ybbb (back:=x.back) (g:=g) (a:=a) (b:=v) (w:=1+w) (by omega) (by omega) htr
    have gg5:=ybwr (back:=x.back) (g:=g) (a:=a) (b:=v) (w:=1+w) (by omega) (by omega) (by omega)
    obtain⟨G,hG⟩:∃ G,ylv x.back g a v (1+w)=G:=⟨_,rfl⟩;rw[hG]at gg1 gg2 gg3 gg4 gg5 ⊢;rw[hgn]at gg3;refine⟨ikw (by omega) (by omega),yj (v+1,G) ⟨gg1,gg3,fun u h0 hu=>?_,by omega,by omega⟩ (by show n - (v+1)<n - v;omega) ?_⟩
    ·by_cases q:u=v
     ·subst q;exact⟨a,by omega,gg5⟩
     ·exact gg4 u h0 (by have:u<v+1:=hu;omega)
    ·refine yh [] [] [] ?_;simp only[gg3,gg2,allQ,live,yg,ybb,go_sem,Nat.reduceEqDiff,↓reduceIte,reduceCtorEq];refine⟨fun i _ j _ e=>e,by omega,fun i hi=>by rw[if_pos hi],fun i b hb=>?_⟩
     obtain⟨hi,rfl⟩:=ydb hb;refine⟨_,yzp (f:=ren (nu [(211,211),(212,212)] 0) 5) (fun _ _=>rfl) hi,⟨rfl,rfl,rfl,rfl⟩,fun k hk=>?_⟩;simp only[rowO,live,yg,go_sem,reduceCtorEq]
  ·obtain rfl:v=n:=by omega
   have ht:decide ((v:Int)<(v:Int))=false:=decide_eq_false (by omega)
   simp only[ydbo,ydkt,netC,ycu,ht,clash,splice,ygt,go_sem,Nat.reduceEqDiff,Nat.reduceAdd,↓reduceIte,reduceCtorEq];refine⟨yhw g,ycu g.ports,?_,?_,g,hg,by rw[hgn];exact htr,by omega,rfl,rfl⟩
   ·refine yh [] [] [] ?_;simp only[ycu,yhw,hgn,allQ,live,yg,go_sem,Nat.reduceEqDiff,↓reduceIte,reduceCtorEq];refine⟨fun i _ j _ e=>e,fun i hi=>by rw[if_pos hi],fun i b hb=>?_⟩
    obtain⟨hi,rfl⟩:=ydb hb;exact⟨_,if_pos hi,⟨rfl,rfl,rfl,rfl⟩,fun k hk=>by simp only[rowO,live,yg,go_sem,reduceCtorEq]⟩
   ·simp only[ycu,yhw,famCln,yga,allQ,live,go_sem,Nat.reduceEqDiff,↓reduceIte];refine⟨fun i hi=>by rw[if_pos hi],fun i b hb k hk=>?_⟩
    obtain⟨hi,rfl⟩:=ydb hb;simp only[rowO,go_sem]
end Sh
end Go.Proofs.YtpngeppkgoaimaaGreatDoor

namespace Go.Proofs.YtpngeppkgoaimaaGreatDoor
open Go
namespace Sh
open Ev Go.RowKit
set_option maxRecDepth 8000
theorem ycyh{x:NetR}(hx:x.ok){g:Gr}(hg:yba g)(ht:Tre g g.ports.length) :
  Cm Tryz.prog 47 [] (ycu g.ports) [.ag (netC x),yhw g] fun r o=>∃ g',yba g'/\Tre g' g'.ports.length/\g'.ports.length=g.ports.length/\r=yhw g'/\o=ycu g'.ports:=by
 refine ycxw [] [87] _ _ _ ?_;obtain⟨hx1,hx2,hx3,hx4⟩:=hx;have h1:=hg.1;have h24:=hg.2.1;obtain⟨n,hn⟩:∃ n,g.ports.length=n:=⟨_,rfl⟩;rw[hn]at h1 h24 ht;obtain⟨L,hL⟩:∃ L,x.links.length=L:=⟨_,rfl⟩;simp only[c47,ydpp,ydgb,ydhj,netC,yhw,ycu,hn,clash,go_sem,Nat.reduceEqDiff,Nat.reduceAdd,Nat.reduceLT,↓reduceIte,reduceCtorEq]
 refine ybd (σ:=Nat × Gr) (fun q=>⟨[(6,.i .i64 q.1),(5,.i .i64 n),(3,.pt (3,0) 0 0),(2,.pt (2,0) 0 0),(4,.pt (4,0) 0 0)],
   (3,.one (some ⟨28,true,2,1,fun _=>[yu q.2.ids,.os (211,0) 0 n true]⟩)) :: (2,.one (some ⟨24,true,6,1,fun _=>netC x⟩)) :: (4,.one (some ⟨28,true,2,1,fun _=>[.a (.slice none 0 0),.a (.slice none 0 0)]⟩)) :: ycu q.2.ports⟩)
  (fun q=>yba q.2/\q.2.ports.length=n/\Tre q.2 n/\q.1<=61) (fun q=>62 - q.1) (n,g) ⟨hg,hn,ht,by show n<=61;omega⟩ ?_ ?_
 ·refine yh [] [] [] ?_;simp only[netC,ycu,hn,allQ,live,yg,go_sem,Nat.reduceEqDiff,↓reduceIte,reduceCtorEq];refine⟨fun i _ j _ e=>e,fun i hi=>by rw[if_pos hi],fun i b hb=>?_⟩
  obtain⟨hi,rfl⟩:=ydb hb;exact⟨_,if_pos hi,⟨rfl,rfl,rfl,rfl⟩,fun k hk=>by simp only[rowO,live,yg,go_sem,reduceCtorEq]⟩
 ·rintro⟨i,G⟩ ⟨gg,ggn,gtr,hi61⟩;have gg:yba G:=gg;have ggn:G.ports.length=n:=ggn;have gtr:Tre G n:=gtr;have hi61:i<=61:=hi61;have hi1:(i:Int)+1=((i+1:Nat):Int):=by omega
  by_cases hlt:i+1<L
  ·by_cases h60:i<60
   ·have ht1:decide (((i+1:Nat):Int)<(L:Int))=true:=decide_eq_true (by omega)
    have ht2:decide ((i:Int)<60)=true:=decide_eq_true (by omega)
    have hA2:=at_ret x.weights i;have hi2:=ydk (v:=atP x.weights i) (m:=15) (by omega)
    have hw1:=ydk (v:=x.links.getD i 0) (m:=(n:Int)) (by omega)
    have hw2:=ydk (v:=x.links.getD (i+1) 0) (m:=(n:Int)) (by omega)
    have hW1:=ydj (x.links.getD i 0) n (by omega) (hx2 i)
    have hW2:=ydj (x.links.getD (i+1) 0) n (by omega) (hx2 (i+1))
    have hW3:=ydj (atP x.weights i) 15 (by omega) (hx3 _)
    obtain⟨a,ha⟩:∃ a:Nat,yeu (x.links.getD i 0) n=a:=Int.eq_ofNat_of_zero_le hw1.1;obtain⟨b,hb⟩:∃ b:Nat,yeu (x.links.getD (i+1) 0) n=b:=Int.eq_ofNat_of_zero_le hw2.1;obtain⟨w,hw⟩:∃ w:Int,yeu (atP x.weights i) 15=w:=⟨_,rfl⟩;rw[ha]at hW1 hw1;rw[hb]at hW2 hw2;rw[hw]at hW3 hi2;have hK:=ybqz (x:=x) (g:=G) (a:=a) (b:=b) (w:=1+w) (by omega) (by omega) (by omega) (fun u=>by have:=gg.deg_lt (v:=u);omega)
    simp only[ychr,ydgw,ydsn,netC,ycu,yu,hL,hi1,ht1,ht2,clash,go_sem,Nat.reduceEqDiff,Nat.reduceAdd,Nat.reduceLeDiff,Nat.reduceBEq,↓reduceIte,reduceCtorEq];refine⟨ikw (by omega) (by omega),⟨by omega,by omega⟩,hW1.use ?_⟩
    simp only[thenO,clash,hi1,go_sem,Nat.reduceEqDiff,Nat.reduceAdd,Nat.reduceLeDiff,Nat.reduceBEq,↓reduceIte,reduceCtorEq];refine⟨ikw (by omega) (by omega),⟨by omega,by omega⟩,hW2.use ?_⟩
    simp only[go_sem];simp only[yu]at hA2;refine hA2.use ?_;simp only[go_sem,↓reduceIte];refine hW3.use ?_;simp only[go_sem,Nat.reduceEqDiff,↓reduceIte];refine⟨ikw (by omega) (by omega),callM_of hK [(211,211),(212,212)] 0 [2,3,4,5,6] [2,3,4] ?_ ?_⟩
    ·simp only[netC,yhw,ycu,ggn,yu,hL,to1,okN,famCln,yga,keepF,keepO,allQ,live,yg,go_sem,Nat.reduceEqDiff,Nat.reduceAdd,Nat.reduceBEq,↓reduceIte,reduceCtorEq];refine⟨⟨fun i _ j _ e=>e,fun i hi=>by rw[if_pos hi],fun i b hb=>?_⟩,by decide⟩
     obtain⟨hi,rfl⟩:=ydb hb;exact⟨_,if_pos hi,⟨rfl,rfl,rfl,rfl⟩,fun k hk=>by simp only[rowO,live,yg,go_sem,reduceCtorEq]⟩
    ·rintro r o' ⟨rfl,rfl⟩;simp only[ycu,thenM,ylw,nuF,nu,difN,keepF,keepO,Fam.ren,OB.ren,dim,yth,ykc,go_sem,Nat.reduceEqDiff,Nat.reduceAdd,Nat.reduceBEq,↓reduceIte,reduceCtorEq];obtain⟨gg1,gg2,gg3⟩:=yws (back:=x.back) (a:=a) (b:=b) (w:=1+w) gg (by omega) (by omega) (by omega)
     have gg4:=ybbb (back:=x.back) (g:=G) (a:=a) (b:=b) (w:=1+w) (by omega) (by omega) gtr
     obtain⟨H,hH⟩:∃ H,ylv x.back G a b (1+w)=H:=⟨_,rfl⟩;rw[hH]at gg1 gg2 gg3 gg4 ⊢;rw[ggn]at gg3;refine⟨ikw (by omega) (by omega),yj (i+2,H) ⟨gg1,gg3,gg4,by show i+2<=61;omega⟩ (by show 62 - (i+2)<62 - i;omega) ?_⟩
     refine yh [] [] [] ?_;simp only[gg3,gg2,allQ,live,yg,ybb,go_sem,Nat.reduceEqDiff,↓reduceIte,reduceCtorEq];refine⟨fun i _ j _ e=>e,by omega,fun i hi=>by rw[if_pos hi],fun i b hb=>?_⟩
     obtain⟨hi,rfl⟩:=ydb hb;refine⟨_,yzp (f:=ren (nu [(211,211),(212,212)] 0) 5) (fun _ _=>rfl) hi,⟨rfl,rfl,rfl,rfl⟩,fun k hk=>?_⟩;simp only[rowO,live,yg,go_sem,reduceCtorEq]
   ·have ht1:decide (((i+1:Nat):Int)<(L:Int))=true:=decide_eq_true (by omega)
    have ht2:decide ((i:Int)<60)=false:=decide_eq_false (by omega)
    simp only[ychr,ydcb,netC,ycu,yu,hL,hi1,ht1,ht2,clash,splice,ygt,go_sem,Nat.reduceEqDiff,Nat.reduceAdd,Nat.reduceLeDiff,↓reduceIte,reduceCtorEq];refine⟨ikw (by omega) (by omega),?_⟩
    refine⟨yhw G,ycu G.ports,?_,?_,G,gg,by rw[ggn];exact gtr,ggn,rfl,rfl⟩
    ·refine yh [] [] [] ?_;simp only[ycu,yhw,ggn,yu,allQ,live,yg,go_sem,Nat.reduceEqDiff,↓reduceIte,reduceCtorEq];refine⟨fun i _ j _ e=>e,fun i hi=>by rw[if_pos hi],fun i b hb=>?_⟩
     obtain⟨hi,rfl⟩:=ydb hb;exact⟨_,if_pos hi,⟨rfl,rfl,rfl,rfl⟩,fun k hk=>by simp only[rowO,live,yg,go_sem,reduceCtorEq]⟩
    ·simp only[ycu,yhw,famCln,yga,allQ,live,go_sem,Nat.reduceEqDiff,↓reduceIte];refine⟨fun i hi=>by rw[if_pos hi],fun i b hb k hk=>?_⟩
     obtain⟨hi,rfl⟩:=ydb hb;simp only[rowO,go_sem]
  ·have ht1:decide (((i+1:Nat):Int)<(L:Int))=false:=decide_eq_false (by omega)
   simp only[ychr,ydcb,netC,ycu,yu,hL,hi1,ht1,clash,splice,ygt,go_sem,Nat.reduceEqDiff,Nat.reduceAdd,Nat.reduceLeDiff,↓reduceIte,reduceCtorEq];refine⟨ikw (by omega) (by omega),?_⟩
   refine⟨yhw G,ycu G.ports,?_,?_,G,gg,by rw[ggn];exact gtr,ggn,rfl,rfl⟩
   ·refine yh [] [] [] ?_;simp only[ycu,yhw,ggn,yu,allQ,live,yg,go_sem,Nat.reduceEqDiff,↓reduceIte,reduceCtorEq];refine⟨fun i _ j _ e=>e,fun i hi=>by rw[if_pos hi],fun i b hb=>?_⟩
    obtain⟨hi,rfl⟩:=ydb hb;exact⟨_,if_pos hi,⟨rfl,rfl,rfl,rfl⟩,fun k hk=>by simp only[rowO,live,yg,go_sem,reduceCtorEq]⟩
   ·simp only[ycu,yhw,famCln,yga,allQ,live,go_sem,Nat.reduceEqDiff,↓reduceIte];refine⟨fun i hi=>by rw[if_pos hi],fun i b hb k hk=>?_⟩
    obtain⟨hi,rfl⟩:=ydb hb;simp only[rowO,go_sem]
theorem ydx{x:NetR}(hx:x.ok){most:Nat}(hm:1<=most/\most<=24) :
  Ct Tryz.prog 15 [.ag (netC x),.i .i64 most] fun r=>∃ g,yba g/\yby g=true/\g.ports.length<=most/\Sim r (grV g):=by
 refine ycyy [48,47] _ _ ?_;have hT:=yddn hx hm;simp only[netC]at hT;simp only[c15,ydhy,ydwd,netC,clash,go_sem,Nat.reduceEqDiff,Nat.reduceAdd,Nat.reduceLT,↓reduceIte,reduceCtorEq];refine callM_of hT [(211,211),(212,212)] 0 [2,4,5] [2,4] ?_ ?_
 ·simp only[okN,famCln,yga,keepF,keepO,allQ,live,yg,go_sem,Nat.reduceEqDiff,Nat.reduceAdd,Nat.reduceBEq,↓reduceIte,reduceCtorEq]
 rintro r o' ⟨g,hg,ht,hn,rfl,rfl⟩;have hM:=ycyh hx hg ht;simp only[netC]at hM;simp only[ycu,yhw,thenM,ylw,nuF,nu,difN,keepF,keepO,Fam.ren,OB.ren,dim,yto,ykc,go_sem,Nat.reduceEqDiff,Nat.reduceAdd,Nat.reduceBEq,↓reduceIte];refine callM_of hM [(211,211),(212,212)] 0 [4] [4] ?_ ?_
 ·simp only[yhw,ycu,to1,okN,famCln,yga,keepF,keepO,allQ,live,yg,go_sem,Nat.reduceEqDiff,Nat.reduceAdd,Nat.reduceBEq,↓reduceIte,reduceCtorEq];refine⟨⟨fun i _ j _ e=>e,fun i hi=>by rw[if_pos hi],fun i b hb=>?_⟩,by decide⟩
  obtain⟨hi,rfl⟩:=ydb hb;refine⟨_,yzp (f:=ren (nu [(211,211),(212,212)] 0) 5) (fun _ _=>rfl) hi,⟨rfl,rfl,rfl,rfl⟩,fun k hk=>?_⟩;simp only[rowO,live,yg,go_sem,reduceCtorEq]
 rintro r o' ⟨G,gg,gt,gn,rfl,rfl⟩;simp only[ycu,yhw,clash,splice,thenM,ylw,nuF,nu,difN,keepF,keepO,Fam.ren,OB.ren,dim,yto,ykc,go_sem,Nat.reduceEqDiff,Nat.reduceAdd,Nat.reduceBEq,↓reduceIte];refine⟨by decide,fun q hq=>?_,G,gg,gt.conn gg,by omega,?_⟩
 ·simp only[if_pos hq];exact⟨Nat.le_refl _,fun k hk=>by simp only[rowO,go_sem]⟩
 ·refine ytx ⟨Sim.refl _,?_,trivial⟩;refine yge fun q hq=>?_;simp only[if_pos hq];simp only[rowO,ybc,yhy,go_sem];exact⟨Sim.refl _,trivial⟩
end Sh
end Go.Proofs.YtpngeppkgoaimaaGreatDoor

namespace Go.Proofs.YtpngeppkgoaimaaGreatDoor
structure Tgt(S:Sys)(V:Conf->Prop)(T:Conf->Nat->List Int):Prop where
 valid:∀ c s,V c->s ≠ 0->subB s (S.en c)->V (S.mv c s)
 stay:∀ c s v,V c->v<S.n->s.testBit v=false->(S.mv c s).getD v []=c.getD v []
 move:∀ c s v,V c->v<S.n->s.testBit v=true->subB s (S.en c)->(S.mv c s).getD v []=T c v
 en:∀ c v,V c->v<S.n->((S.en c).testBit v=false ↔ c.getD v []=T c v)
theorem Tgt.rounds{S:Sys}{V:Conf->Prop}{T:Conf->Nat->List Int}(h:Tgt S V T){P:Nat->Nat->List Int->Prop}(hT:∀ c v r,V c->v<S.n->(∀ u,u<S.n->P r u (c.getD u []))->P (r+1) v (T c v))(hl:∀ r v s,P (r+1) v s->P r v s):ByRounds S V P where
 valid:=h.valid
 stay:=h.stay
 move:=fun c s v r hv hn hb hs hall=>by rw[h.move c s v hv hn hb hs];exact hT c v r hv hn hall
 rest:=fun c v r hv hn hb hall=>by rw[(h.en c v hv hn).1 hb];exact hT c v r hv hn hall
 less:=hl
theorem Tgt.silent{S:Sys}{V:Conf->Prop}{T:Conf->Nat->List Int}(h:Tgt S V T){P:Nat->Nat->List Int->Prop}(hT:∀ c v r,V c->v<S.n->(∀ u,u<S.n->P r u (c.getD u []))->P (r+1) v (T c v)){c:Conf}(hv:V c)(h0:∀ v,v<S.n->P 0 v (c.getD v []))(he:S.en c=0):∀ r v,v<S.n->P r v (c.getD v [])
 | 0,v,hn=>h0 v hn
 | r+1,v,hn=>by
  rw[(h.en c v hv hn).1 (by rw[he];simp)]
  exact hT c v r hv hn (Tgt.silent h hT hv h0 he r)
theorem Tgt.en_zero{S:Sys}{V:Conf->Prop}{T:Conf->Nat->List Int}(h:Tgt S V T){c:Conf}(hv:V c)(hlt:S.en c<2 ^ S.n)(ht:∀ v,v<S.n->c.getD v []=T c v):S.en c=0:=by
 rw[ydd];intro i
 by_cases hi:i<S.n
 ·exact(h.en c i hv hi).2 (ht i hi)
 ·exact Nat.testBit_lt_two_pow (Nat.lt_of_lt_of_le hlt (Nat.pow_le_pow_right (by omega) (by omega)))
theorem Sys.run_last{S:Sys}{res:Nat->Nat->Nat}:∀ (ws:List Nat) (c:Conf) (k:Cnt) (i:Nat),i+1<(S.run res ws c k).length -> ∀ p,(S.run res ws c k)[i]? = some p->S.en p.1 ≠ 0
 | [],c,k,i,h,p,hp=>by simp[Sys.run]at h
 | w :: ws,c,k,i,h,p,hp=>by
  unfold Sys.run at h hp;split at h
  ·simp at h
  ·rename_i h0
   rw[if_neg h0]at hp;cases i with
   | zero =>
    simp only[List.getElem?_cons_zero]at hp;cases hp
    simp only[List.length_cons]at h;cases ws with
    | nil=>simp[Sys.run]at h
    | cons w' ws =>
     unfold Sys.run at h;split at h
     ·simp at h
     ·assumption
   | succ i=>exact Sys.run_last ws _ _ i (by simpa using h) p (by simpa using hp)
theorem Sys.runs_last{S:Sys}{res:Nat->Nat->Nat}{ws:List Nat}{c:Conf}{i:Nat}(h:i+1<(S.runs res ws c).length){p:Conf × Cnt}(hp:(S.runs res ws c)[i]? = some p):S.en p.1 ≠ 0:=by
 unfold Sys.runs at h hp;cases i with
 | zero =>
  simp only[List.getElem?_cons_zero]at hp;cases hp
  cases ws with
  | nil=>simp[Sys.run]at h
  | cons w ws =>
   unfold Sys.run at h;split at h
   ·simp at h
   ·assumption
 | succ i=>exact Sys.run_last ws _ _ i (by simpa using h) p (by simpa using hp)
end Go.Proofs.YtpngeppkgoaimaaGreatDoor

namespace Go.Proofs.YtpngeppkgoaimaaGreatDoor
abbrev eNum(k:Int):Ex:=.leaf 1 k
abbrev ybpa:Ex:=.leaf 4 0
abbrev eVar(k:Int):Ex:=.leaf 5 k
abbrev eN:Ex:=.leaf 6 0
abbrev ycci:Ex:=.leaf 10 0
abbrev eQ(k:Int):Ex:=.leaf 12 k

def yckl:Ex:=.bin 41 ycci (.bin 42 (.bin 36 (eVar 0) (eNum 0)) (.bin 36 (eVar 1) ybpa))
theorem yht(l:List Int):∀ a:Int,l.foldl min a<=a/\(∀ x ∈ l,l.foldl min a<=x) /\ ∀ b:Int,b<=a->(∀ x ∈ l,b<=x)->b<=l.foldl min a:=by
 induction l with
 | nil=>intro a;exact⟨Int.le_refl _,fun x hx=>(List.not_mem_nil hx).elim,fun b hb _=>hb⟩
 | cons y l ih =>
  intro a;obtain⟨h1,h2,h3⟩:=ih (min a y);refine⟨by simp only[List.foldl_cons];omega,fun x hx=>?_,fun b hb hx=>?_⟩
  ·rcases List.mem_cons.1 hx with rfl | hx
   ·simp only[List.foldl_cons];omega
   ·exact h2 x hx
  ·have:=hx y List.mem_cons_self;exact h3 b (by omega) fun x hx'=>hx x (List.mem_cons_of_mem _ hx')
theorem ybek{l:List Int}{x:Int}(h:x ∈ l):ygi l<=x:=(yht l 1073741824).2.1 x h
theorem yir{l:List Int}{b:Int}(hb:b<=1073741824)(h:∀ x ∈ l,b<=x):b<=ygi l:=(yht l 1073741824).2.2 b hb h
theorem ynh{α:Type}(g:Gr)(v:Nat)(f:Int × Int->α)(h:Nat->α)(e:∀ q,q<(g.ports.getD v []).length->h q=f ((g.ports.getD v []).getD q (0,0))):(List.range (g.ports.getD v []).length).map h=(g.ports.getD v []).map f:=by
 refine List.ext_getElem (by simp) fun i h1 h2=>?_
 have hi:i<(g.ports.getD v []).length:=by simpa using h1
 rw[List.getElem_map,List.getElem_range,List.getElem_map,e i hi];congr 1;rw[List.getD_eq_getElem?_getD,List.getElem?_eq_getElem hi];rfl
theorem ynt(f:Int × Int->Bool)(ls:List (Int × Int)):yem (ls.map fun l=>ybr (f l))=yey f ls:=by
 unfold yem yey
 have:((fun x:Int=>x != 0) ∘ fun l=>ybr (f l))=f:=by
  funext l
  show(ybr (f l) != 0)=f l;unfold ybr;cases f l<;>rfl
 rw[List.findIdx?_map,this]
 all_goals (cases List.findIdx? f ls<;>rfl)

def endP(c:Conf)(k:Nat)(l:Int × Int):Int:=(c.getD l.1.toNat []).getD k 0
theorem ynp(b:Bool):(ybr b != 0)=b:=by cases b<;>rfl
theorem yctq{s:List Int}(h:s.length=2)(x y:Int):s = [x,y] ↔ s.getD 0 0=x/\s.getD 1 0=y:=by
 match s,h with
 | [a,b],_=>simp
section
variable {nm nd np nt nl:ByteArray} {g:Gr} {c:Conf} {v:Nat}
theorem bT3{x:ByteArray}:ybf g v ⟨x,3,0,0,0,0⟩=(-1,((g.ports.getD v []).length:Int) - 1):=by
 show(if (3:Int)=1 then _ else if (3:Int)=2 then _ else if (3:Int)=3 then _ else _)=_
 rw[if_neg (by decide),if_neg (by decide),if_pos rfl]
end
end Go.Proofs.YtpngeppkgoaimaaGreatDoor

namespace Go.Proofs.YtpngeppkgoaimaaGreatDoor
section
variable {g:Gr} {a v:Nat}
theorem yej(hg:yba g)(hc:yby g=true)(ha:a<g.ports.length)(hv:v<g.ports.length):∃ k:Nat,(ybu g a).getD v 0=k/\Walk g a k v/\(∀ j,j<k -> ¬ Walk g a j v)/\k<g.ports.length:=by
 have h0:0<g.ports.length:=by omega
 have hall:(ybu g a).all (fun x=>decide (0<=x))=true:=yym hg h0 ha ((Bool.and_eq_true _ _ ▸ hc).2);have hl:=yfv hg ha;have hvl:v<(ybu g a).length:=by rw[hl];exact hv
 have e:(ybu g a).getD v 0=(ybu g a)[v]:=by simp[List.getD,hvl]
 have hpos:0<=(ybu g a)[v]:=by simpa using List.all_eq_true.1 hall _ (List.getElem_mem hvl)
 rcases(ycd hg ha).2 v _ (List.getElem?_eq_getElem hvl)with⟨h,_⟩ | ⟨k,h1,h2,h3⟩
 ·omega
 ·exact⟨k,by rw[e,h1],h2,h3,ysi hg ha h2 h3⟩
theorem yczf{k:Nat}(hg:yba g)(hc:yby g=true)(ha:a<g.ports.length)(hv:v<g.ports.length)(h1:Walk g a k v)(h2:∀ j,j<k -> ¬ Walk g a j v):(ybu g a).getD v 0=k:=by
 obtain⟨j,e,h3,h4,_⟩:=yej hg hc ha hv;rcases Nat.lt_trichotomy j k with h | h | h
 ·exact absurd h3 (h2 j h)
 ·rw[e,h]
 ·exact absurd h1 (h4 k h)
theorem ybax(hg:yba g)(hc:yby g=true)(ha:a<g.ports.length):(ybu g a).getD a 0=0:=yczf hg hc ha ha (k:=0) rfl fun j hj=>by omega
theorem yun(hg:yba g)(hc:yby g=true)(ha:a<g.ports.length)(hv:v<g.ports.length):0<=(ybu g a).getD v 0/\(ybu g a).getD v 0<g.ports.length:=by
 obtain⟨k,e,_,_,h⟩:=yej hg hc ha hv;omega
theorem ycft(hg:yba g)(hc:yby g=true)(ha:a<g.ports.length)(hv:v<g.ports.length)(hne:v ≠ a):1<=(ybu g a).getD v 0:=by
 obtain⟨k,e,h1,_,_⟩:=yej hg hc ha hv;cases k with
 | zero=>exact absurd h1 hne
 | succ k=>omega
theorem ybjh(hg:yba g)(hc:yby g=true)(ha:a<g.ports.length){u:Nat}(h:adj g u v):(ybu g a).getD v 0<=(ybu g a).getD u 0+1:=by
 obtain⟨hu,hv⟩:=hg.adj_lt h;obtain⟨k,e,h1,_,_⟩:=yej hg hc ha hu;obtain⟨j,e',_,h3,_⟩:=yej hg hc ha hv;rw[e,e'];rcases Nat.lt_or_ge (k+1) j with q | q
 ·exact absurd ⟨u,h1,h⟩ (h3 (k+1) q)
 ·omega
theorem ybyc(hg:yba g)(hc:yby g=true)(ha:a<g.ports.length)(hv:v<g.ports.length)(hne:v ≠ a):∃ u,adj g v u/\(ybu g a).getD u 0=(ybu g a).getD v 0 - 1:=by
 obtain⟨k,e,h1,h2,_⟩:=yej hg hc ha hv;cases k with
 | zero=>exact absurd h1 hne
 | succ k =>
  obtain⟨u,h3,h4⟩:=h1;refine⟨u,hg.adj_symm h4,?_⟩;have h5:=ybjh hg hc ha h4;obtain⟨hu,_⟩:=hg.adj_lt h4;obtain⟨j,e',_,h6,_⟩:=yej hg hc ha hu;rw[e,e']at h5;rcases Nat.lt_or_ge k j with q | q
  ·exact absurd h3 (h6 k q)
  ·rw[e,e'];omega
theorem ycb{l:Int × Int}(hg:yba g)(hv:v<g.ports.length)(hl:l ∈ g.ports.getD v []):0<=l.1/\l.1.toNat<g.ports.length/\adj g v l.1.toNat/\1<=l.2/\l.2<=15:=by
 have e:g.ports[v]? = some (g.ports.getD v []):=by simp[List.getD,hv]
 have h:=hg.link e hl;exact⟨h.1,by omega,⟨_,e,l,hl,by omega⟩,h.2.2.2.1,h.2.2.2.2⟩
theorem ybhr{u:Nat}(h:adj g v u):∃ l ∈ g.ports.getD v [],l.1.toNat=u:=by
 obtain⟨l,hl,e⟩:=ytc.1 h;exact⟨l,hl,by rw[e];simp⟩
theorem yqq{f h:Int × Int->Bool}{ls:List (Int × Int)}(e:∀ l ∈ ls,f l=h l):yey f ls=yey h ls:=by
 have:ls.findIdx? f=ls.findIdx? h:=by
  induction ls with
  | nil=>rfl
  | cons x l ih =>
   rw[List.findIdx?_cons,List.findIdx?_cons,e x List.mem_cons_self,ih fun y hy=>e y (List.mem_cons_of_mem _ hy)]
 unfold yey;rw[this]
theorem ybsy{f:Int × Int->Bool}{ls:List (Int × Int)}(h:∀ l ∈ ls,f l=false):yey f ls = -1:=by
 unfold yey;rw[List.findIdx?_eq_none_iff.2 (fun x hx=>by simp[h x hx])]
theorem ycdm(hg:yba g)(hc:yby g=true)(ha:a<g.ports.length):wayP g (ybu g a) a = -1:=by
 refine ybsy fun l hl=>?_;obtain⟨_,h1,h2,_⟩:=ycb hg ha hl;have h3:=yun hg hc ha h1;have h4:=ybax hg hc ha;unfold yoq;rw[h4,beq_eq_false_iff_ne];omega
end
section
variable {nm nd np nt nl:ByteArray} {g:Gr}
end
end Go.Proofs.YtpngeppkgoaimaaGreatDoor

namespace Go.Proofs.YtpngeppkgoaimaaGreatDoor
namespace Sh
theorem ysx{l:List Bool}{k:Nat}:yok l k=true ↔ ∃ j,j<k/\l[j]? = some true:=by
 unfold yok;rw[List.any_eq_true];constructor
 ·rintro⟨x,hx,he⟩;obtain⟨j,hj,e⟩:=List.getElem_of_mem hx;have hj':j<k:=by rw[List.length_take]at hj;omega
  refine⟨j,hj',?_⟩;have:(l.take k)[j]? = some true:=by rw[List.getElem?_eq_getElem hj,e];exact congrArg some he
  rwa [List.getElem?_take_of_lt hj']at this
 ·rintro⟨j,hj,e⟩;refine⟨true,?_,rfl⟩;refine List.mem_of_getElem? (i:=j) ?_;rw[List.getElem?_take_of_lt hj];exact e
theorem ydet {S:Sys} {res:Nat->Nat->Nat} {ws:List Nat} {c:Conf} {L:Conf->Bool} {J:Conf->Cnt->Prop} {rounds:Int} (hJ:∀ p ∈ S.runs res ws c,J p.1 p.2) (hrest:∀ c k,J c k->(S.en c=0 ↔ L c=true)) (hb:∀ c k,J c k->L c=false->(k.begun:Int)<=rounds) {moves:Int} (hm:∀ c k,J c k->L c=false->0<=moves->(k.moves:Int)<=moves)
  {ended:Bool} (he:ended=true -> ∀ p,(S.runs res ws c)[(S.runs res ws c).length - 1]? = some p->S.en p.1=0) :
  HeldOk ((S.runs res ws c).map fun p=>L p.1) ((S.runs res ws c).map (·.2)) rounds moves ended:=by
 obtain⟨R,hR⟩:∃ R,S.runs res ws c=R:=⟨_,rfl⟩
 have hlast:∀ i,i+1<R.length -> ∀ p,R[i]? = some p->S.en p.1 ≠ 0:=fun i hi p hp=>by
  rw[<- hR]at hi hp;exact Sys.runs_last hi hp
 have hpos:0<R.length:=by rw[<- hR];simp[Sys.runs]
 rw[hR]at hJ he ⊢;have at_:∀ i,i<R.length -> ∃ p,R[i]? = some p/\J p.1 p.2:=fun i hi=>⟨R[i],List.getElem?_eq_getElem hi,hJ _ (List.getElem_mem hi)⟩;have lg:∀ (i:Nat) (p:Conf × Cnt),R[i]? = some p->(R.map fun p=>L p.1)[i]? = some (L p.1):=fun i p hp=>by simp[hp]
 have no:∀ (i:Nat),yok (R.map fun p=>L p.1) (i+1)=false->i<R.length -> ∀ p:Conf × Cnt,R[i]? = some p->L p.1=false:=fun i h hi p hp=>by
  cases hq:L p.1 with
  | false=>rfl
  | true =>
   have:yok (R.map fun p=>L p.1) (i+1)=true:=ysx.2 ⟨i,Nat.lt_succ_self i,by rw[lg i p hp,hq]⟩
   rw[this]at h;cases h
 refine⟨by simp,by simpa using hpos,fun i hi h=>?_,fun i hi h=>?_,fun i hi h hmv=>?_,?_⟩
 ·have hi:i<R.length:=by simpa using hi
  obtain⟨j,hj,e⟩:=ysx.1 h;obtain⟨p,hp,hJp⟩:=at_ j (by omega)
  rw[lg j p hp]at e;exact absurd ((hrest p.1 p.2 hJp).2 (Option.some.inj e)) (hlast j (by omega) p hp)
 ·have hi:i<R.length:=by simpa using hi
  obtain⟨p,hp,hJp⟩:=at_ i hi;have:=hb p.1 p.2 hJp (no i h hi p hp);rw[List.getD_eq_getElem?_getD,List.getElem?_map,hp];exact this
 ·have hi:i<R.length:=by simpa using hi
  obtain⟨p,hp,hJp⟩:=at_ i hi;have:=hm p.1 p.2 hJp (no i h hi p hp) hmv;rw[List.getD_eq_getElem?_getD,List.getElem?_map,hp];exact this
 ·cases ended with
  | false=>exact .inr rfl
  | true =>
   obtain⟨p,hp,hJp⟩:=at_ (R.length - 1) (by omega)
   have h1:=(hrest p.1 p.2 hJp).1 (he rfl p hp);exact .inl (ysx.2 ⟨R.length - 1,by simp;omega,by rw[lg _ p hp,h1]⟩)
section
variable {nm nd np nt nl:ByteArray} {g:Gr}
end
end Sh
end Go.Proofs.YtpngeppkgoaimaaGreatDoor

namespace Go.Proofs.YtpngeppkgoaimaaGreatDoor
open Go
namespace Sh
open Ev Go.RowKit
set_option maxRecDepth 8000
theorem ycet(l:List Nat):one1 (usV l)=true:=rfl
theorem ycal{n:Nat}(l:List Nat):owned (n+1) (usV l)=false:=rfl
theorem ybpg{n:Nat}(l:List Nat):scalar (n+1) (usV l)=false:=rfl
theorem ycfi{n:Nat}(o:Own)(l:List Nat):view o (n+1) (usV l)=usV l:=rfl
theorem ydah{n:Nat}(o:Own)(l:List Nat):vok o (n+1) (usV l)=True:=rfl
theorem yddo{n:Nat}(h:Nm->Nm)(l:List Nat):ren h (n+1) (usV l)=usV l:=rfl
theorem ydej{n:Nat}(D:Nm->Bool)(l:List Nat):cln D (n+1) (usV l)=true:=rfl
theorem ybre{n:Nat}(fr:List Nm)(o:Own)(l:List Nat):ydh fr o (n+1) (usV l)=usV l:=rfl
theorem yddv{n:Nat}(fr:List Nm)(o:Own)(l:List Nat):pok fr o (n+1) (usV l)=True:=rfl
theorem ybrl(l:List Nat):SV.cells (usV l) = [usV l]:=rfl
theorem ybfr(l:List Conf):one1 (ydg l)=true:=rfl
theorem yzv{n:Nat}(l:List Conf):owned (n+1) (ydg l)=false:=rfl
theorem yye{n:Nat}(l:List Conf):scalar (n+1) (ydg l)=false:=rfl
theorem ybgu{n:Nat}(o:Own)(l:List Conf):view o (n+1) (ydg l)=ydg l:=rfl
theorem ybmt{n:Nat}(o:Own)(l:List Conf):vok o (n+1) (ydg l)=True:=rfl
theorem ybms{n:Nat}(h:Nm->Nm)(l:List Conf):ren h (n+1) (ydg l)=ydg l:=rfl
theorem yboz{n:Nat}(D:Nm->Bool)(l:List Conf):cln D (n+1) (ydg l)=true:=rfl
theorem ybed{n:Nat}(fr:List Nm)(o:Own)(l:List Conf):ydh fr o (n+1) (ydg l)=ydg l:=rfl
theorem ybng{n:Nat}(fr:List Nm)(o:Own)(l:List Conf):pok fr o (n+1) (ydg l)=True:=rfl
theorem ybdk(l:List Conf):SV.cells (ydg l) = [ydg l]:=rfl
theorem yblw(l:List Cnt):one1 (ydq l)=true:=rfl
theorem ybgh{n:Nat}(l:List Cnt):owned (n+1) (ydq l)=false:=rfl
theorem ybbt{n:Nat}(l:List Cnt):scalar (n+1) (ydq l)=false:=rfl
theorem ybmo{n:Nat}(o:Own)(l:List Cnt):view o (n+1) (ydq l)=ydq l:=rfl
theorem ybsw{n:Nat}(o:Own)(l:List Cnt):vok o (n+1) (ydq l)=True:=rfl
theorem ybrw{n:Nat}(h:Nm->Nm)(l:List Cnt):ren h (n+1) (ydq l)=ydq l:=rfl
theorem ybqo{n:Nat}(D:Nm->Bool)(l:List Cnt):cln D (n+1) (ydq l)=true:=rfl
theorem ybhk{n:Nat}(fr:List Nm)(o:Own)(l:List Cnt):ydh fr o (n+1) (ydq l)=ydq l:=rfl
theorem ycbj{n:Nat}(fr:List Nm)(o:Own)(l:List Cnt):pok fr o (n+1) (ydq l)=True:=rfl
theorem ybgv(l:List Cnt):SV.cells (ydq l) = [ydq l]:=rfl
theorem ycem(l:List Bool):one1 (blV l)=true:=rfl
theorem ybwd{n:Nat}(l:List Bool):owned (n+1) (blV l)=false:=rfl
theorem yblu{n:Nat}(l:List Bool):scalar (n+1) (blV l)=false:=rfl
theorem ycev{n:Nat}(o:Own)(l:List Bool):view o (n+1) (blV l)=blV l:=rfl
theorem ydbt{n:Nat}(o:Own)(l:List Bool):vok o (n+1) (blV l)=True:=rfl
theorem ydcl{n:Nat}(h:Nm->Nm)(l:List Bool):ren h (n+1) (blV l)=blV l:=rfl
theorem ydbf{n:Nat}(D:Nm->Bool)(l:List Bool):cln D (n+1) (blV l)=true:=rfl
theorem ycac{n:Nat}(fr:List Nm)(o:Own)(l:List Bool):ydh fr o (n+1) (blV l)=blV l:=rfl
theorem ycxn{n:Nat}(fr:List Nm)(o:Own)(l:List Bool):pok fr o (n+1) (blV l)=True:=rfl
theorem ybxc(l:List Bool):SV.cells (blV l) = [blV l]:=rfl
attribute [go_sem] ycet ycal ybpg ycfi ydah yddo ydej ybre yddv ybrl ybfr yzv yye ybgu ybmt ybms yboz ybed ybng ybdk yblw ybgh ybbt ybmo ybsw ybrw ybqo ybhk ycbj ybgv ycem ybwd yblu ycev ydbt ydcl ydbf ycac ycxn ybxc
theorem Ct.found{P:Program}{g:FuncId}{args:List SV}{α:Type}{R:SV->α->Prop}{V:α->SV}{Q:SV->Prop}(h:Ct P g args fun r=>∃ x,R r x)(hs:∀ r x,R r x->Sim r (V x))(hq:∀ r x,R r x->Q (V x)):Ct P g args Q:=fun G m us h1 h2 h3=>by
 obtain⟨v,m',r,a,b,c,⟨x,hx⟩,e⟩:=h G m us h1 h2 h3;exact⟨v,m',V x,a,b,c,hq r x hx,hs r x hx _ _ _ e⟩
def ylh(e w:Nat):Nat:=if e<2 ^ 24 then resD e w else e
theorem yha:ybcf ylh:=fun e w h0=>by
 unfold ylh;split
 ·exact ybhc e w h0 ‹_›
 ·exact⟨h0,fun _ h=>h⟩
theorem yjz(net:List Nat):DaemonOk 3 net ylh where
 resolve:=fun e w he h0 hw=>by unfold ylh;rw[if_pos he];exact(ybgi net).resolve e w he h0 hw
 permits:=fun e w he h0 hw=>by unfold ylh;rw[if_pos he];exact(ybgi net).permits e w he h0 hw
 zero:=(ybgi net).zero
 sub:=fun e w h0 he=>yha e w h0
theorem ydfk:ybcf resS:=fun e w h0=>⟨h0,fun _ h=>h⟩
theorem Sys.run_len(S:Sys)(res:Nat->Nat->Nat):∀ (ws:List Nat) (c:Conf) (k:Cnt),(S.run res ws c k).length<=ws.length
 | [],_,_=>Nat.le_refl _
 | w :: ws,c,k=>by
  unfold Sys.run;split
  ·exact Nat.zero_le _
  ·simp only[List.length_cons];have:=Sys.run_len S res ws (S.mv c (res (S.en c) w)) (addP k (res (S.en c) w) (S.en (S.mv c (res (S.en c) w))));omega
structure RunD(S:Sys)(res:Nat->Nat->Nat)(ws:List Nat)(c:Conf)(n:Nat)(Cs:List Conf)(Ks:List Cnt):Prop where
 cs:(S.runs res ws c).map (·.1)=Cs
 ks:(S.runs res ws c).map (·.2)=Ks
 len:(S.runs res ws c).length=n
 pos:0<n
 le:n<=ws.length+1
theorem RunD.at_{S:Sys}{res:Nat->Nat->Nat}{ws:List Nat}{c:Conf}{n:Nat}{Cs:List Conf}{Ks:List Cnt}(h:RunD S res ws c n Cs Ks){k:Nat}(hk:k<n):(Cs.getD k [],Ks.getD k default) ∈ S.runs res ws c/\(S.runs res ws c)[k]? = some (Cs.getD k [],Ks.getD k default):=by
 have hk':k<(S.runs res ws c).length:=by rw[h.len];exact hk
 have e:(S.runs res ws c)[k]=(Cs.getD k [],Ks.getD k default):=by
  rw[<- h.cs,<- h.ks];simp[List.getD,hk']
 exact⟨by rw[<- e];exact List.getElem_mem hk',by rw[<- e];exact List.getElem?_eq_getElem hk'⟩
theorem RunD.lC{S:Sys}{res:Nat->Nat->Nat}{ws:List Nat}{c:Conf}{n:Nat}{Cs:List Conf}{Ks:List Cnt}(h:RunD S res ws c n Cs Ks):Cs.length=n:=by rw[<- h.cs,List.length_map,h.len]
theorem RunD.lK{S:Sys}{res:Nat->Nat->Nat}{ws:List Nat}{c:Conf}{n:Nat}{Cs:List Conf}{Ks:List Cnt}(h:RunD S res ws c n Cs Ks):Ks.length=n:=by rw[<- h.ks,List.length_map,h.len]
theorem runD(S:Sys)(res:Nat->Nat->Nat)(ws:List Nat)(c:Conf):∃ n Cs Ks,RunD S res ws c n Cs Ks :=
 ⟨_,_,_,rfl,rfl,rfl,by simp[Sys.runs],by have:=Sys.run_len S res ws c (ydu (S.en c));simp only[Sys.runs,List.length_cons];omega⟩
theorem RunD.last{S:Sys}{res:Nat->Nat->Nat}{ws:List Nat}{c:Conf}{n:Nat}{Cs:List Conf}{Ks:List Cnt}(h:RunD S res ws c n Cs Ks){k:Nat}(hk:k+1<n):S.en (Cs.getD k []) ≠ 0:=by
 have h1:=(h.at_ (show k<n by omega)).2
 exact Sys.runs_last (by rw[h.len];exact hk) h1
theorem ycdz {L:Conf->Bool} {S:Sys} {res:Nat->Nat->Nat} {ws:List Nat} {c:Conf} {n:Nat} {Cs:List Conf} {Ks:List Cnt} (h:RunD S res ws c n Cs Ks) {B:Nat->Bool} (hB:(fun k=>L (Cs.getD k []))=B) {kind rounds moves:Int} {fair silent ended:Bool}
  (hh:HeldOk ((S.runs res ws c).map fun p=>L p.1) ((S.runs res ws c).map (·.2)) rounds moves ended) (hl:n<=100000) {Q:SV->Prop} (hq:Q (.b true)) :
  Ct Tryz.prog 41 [.sl 1 n fun j=>[.b (B j)],.sl 5 n fun i=>cntV (Ks.getD i default),.ag [.i .i64 kind,.b fair,.b silent,.i .i64 rounds,.i .i64 moves],.b ended] Q:=by
 have lL:((S.runs res ws c).map fun p=>L p.1).length=n:=by rw[List.length_map,h.len]
 refine(ychp hh (by rw[lL];exact hl)).useS ⟨?_,?_,Sim.refl _,Sim.refl _,trivial⟩ hq
 ·unfold blV;rw[lL];refine sim_sl fun k hk=>?_
  have e:((S.runs res ws c).map fun p=>L p.1).getD k false=B k:=by
   rw[List.getD_eq_getElem?_getD,List.getElem?_map,(h.at_ hk).2,<- hB];rfl
  rw[e]
 ·unfold ydq;rw[h.ks,h.lK];exact Sim.refl _
theorem ycap{S:Sys}{res:Nat->Nat->Nat}{ws:List Nat}{c:Conf}{n:Nat}{Cs:List Conf}{Ks:List Cnt}(h:RunD S res ws c n Cs Ks){ended:Bool}(he:decide (S.en (Cs.getD (n - 1) [])=0)=ended) :
  ended=true -> ∀ p,(S.runs res ws c)[(S.runs res ws c).length - 1]? = some p->S.en p.1=0:=fun hq p hp=>by
 rw[h.len]at hp;have h1:=(h.at_ (show n - 1<n by have:=h.pos;omega)).2
 rw[h1]at hp;cases hp
 rw[hq]at he;exact of_decide_eq_true he
end Sh
end Go.Proofs.YtpngeppkgoaimaaGreatDoor

