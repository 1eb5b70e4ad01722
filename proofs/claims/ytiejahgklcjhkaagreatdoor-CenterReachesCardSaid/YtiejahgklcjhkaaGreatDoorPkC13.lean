/- Lemmas, joined: RefC RefD LdV ScSt SgE SgF SgG SgH. -/
import Derived.Test.YtiejahgklcjhkaaGreatDoorPkC12
import Derived.Test.YtiejahgklcjhkaaGreatDoorPkC8
import Derived.Test.YtiejahgklcjhkaaGreatDoorPkC11
set_option linter.unusedSimpArgs false
set_option linter.unusedVariables false
namespace Go.Proofs.YtiejahgklcjhkaaGreatDoor
open Go.RowKit

theorem yul(R:List Int)(x:Int)(ls:List (Int × Int))(i:Nat)(hi:i<ls.length):yjl R x (ls.take (i+1))=(yjl R x (ls.take i) || decide (R[ls[i].1.toNat]? = some x)):=by
 unfold yjl;rw[take_snoc ls i hi,List.any_append];simp

def layers(g:Gr)(a D:Nat):List Int:=(List.range (D - 1)).foldl (fun R d=>stepD g R (d+1)) (start g a)
theorem ybcu(g:Gr)(a:Nat){D:Nat}(hD:1<=D):layers g a (D+1)=stepD g (layers g a D) D:=by
 obtain⟨k,rfl⟩:∃ k,D=k+1:=⟨D - 1,by omega⟩
 unfold layers;rw[Nat.add_sub_cancel,List.range_succ,List.foldl_append];rfl
def yqf(g:Gr)(R:List Int)(D v:Nat):List Int:=(List.range v).foldl (yow g D) R
theorem yyd(g:Gr)(R:List Int)(D v:Nat):yqf g R D (v+1)=yow g D (yqf g R D v) v:=by
 unfold yqf;rw[List.range_succ,List.foldl_append];rfl
theorem yqq(R:List Int)(k:Nat)(x:Int):(R.map (Value.int .i64)).set k (.int .i64 x)=(R.set k x).map (Value.int .i64):=by rw[List.map_set]
theorem ybdj(g:Gr)(a:Nat):((List.replicate g.ports.length (-1:Int)).map (Value.int .i64)).set a (.int .i64 0)=(start g a).map (Value.int .i64):=by rw[yqq];rfl

set_option maxHeartbeats 4000000 in
theorem yhw(gv:Value)(g:Gr)(v:Int)(w:World)(hg:GrAt w gv g)(hv64:I64 v) :
  Calls Tryz.prog 84 #[gv,.int .i64 v] w (ybwf (yoh g v) w):=by
 have hg0:=Lib.hid hg;obtain⟨i,p,rfl,hi,hp⟩:=hg;obtain⟨A2,c2,rfl,hB1,hB2⟩:=ybg hp;have Hp:=Lib.hid hp
 clear hi hp
 cases hc:ybx g with
 | false =>
  have Hf:=Lib.hid (show yoh g v = []from yjf (by simp[hc]))
  go_enter Tryz.func84,Tryz.ntmps84
  go_wp2_with fail
  refine(ygh _ g _ (hg0.out.below ((Below.refl _ _).alloc (Nat.le_refl _) _))).mono ?_;rintro e w1 ⟨rfl,hb1⟩
  go_wp2_with fail
  go_ret
  exact⟨_,rfl,by rw[Hf.out];exact SlAt.nil _,yjt hb1⟩
 | true =>
  have hgood:=(ybq g).1 hc;have hn1:=hgood.1;have hn24:=hgood.2.1;have Hgood:=Lib.hid hgood
  clear hgood
  obtain⟨hv1,hv2⟩:=hv64
  by_cases c2:0<=v/\v<g.ports.length
  ·obtain⟨c2a,c2b⟩:=c2;obtain⟨a,rfl⟩:=Int.eq_ofNat_of_zero_le c2a;have Hf:=Lib.hid (show yoh g a=ybk g a from yqw hc (by omega) c2b)
   have ha:a<g.ports.length:=by omega
   go_enter Tryz.func84,Tryz.ntmps84
   go_wp2_with fail
   refine(ygh _ g _ (hg0.out.below ((Below.refl _ _).alloc (Nat.le_refl _) _))).mono ?_;rintro e w1 ⟨rfl,hb1⟩;obtain⟨q0,q1⟩:=ybea hb1;have Hb1:=Lib.hid hb1
   clear hb1
   go_wp2_with fail
   refine(In_t _ _ _ _ (by omega) (by omega)).mono ?_
   rintro e w1' ⟨rfl,rfl⟩
   go_wp2_with fail
   obtain⟨i0,hi0,hz0,hz1,hz2⟩:=info_parts yxh;have Hi0:=Lib.hid (show _/\_/\_/\_ from⟨hi0,hz0,hz1,hz2⟩)
   clear hi0 hz0 hz1 hz2
   obtain⟨W1,hW1⟩:∃ W,W=w.alloc (.cells #[i,.slice A2 g.ports.length c2] 27):=⟨_,rfl⟩;have HB:=Lib.hid (show ∀ wr,Below (w.heap.size+1) W1 wr->wr.cell? ⟨w.heap.size,0,none⟩=some i/\wr.cell? ⟨w.heap.size,1,none⟩=some (.slice A2 g.ports.length c2)/\Below w.heap.size w wr/\w.heap.size<wr.heap.size by subst hW1;exact fun wr h=>box2 h)
   have Hb1':=Lib.hid (show Below (w.heap.size+1) W1 w1 by subst hW1;simpa using Hb1.out)
   clear hW1 Hb1
   go_loopg [6,7] g.ports.length (fun q t6 t wr=>∃ k:Nat,q+k=g.ports.length/\t = .int .i64 k/\Hid (Below (w.heap.size+1) W1 wr)/\Hid (Owns wr (w.heap.size+1) 3 1 t6 k ((List.replicate k (-1:Int)).map (Value.int .i64))))
   case atStart=>exact⟨0,by omega,rfl,Hb1',Lib.hid (Owns.nil _ _ _ _)⟩
   case round =>
    clear q0 q1 Hb1'
    obtain⟨k,hq,rfl,hbel,hown⟩:=hrel;have hsz:=(HB.out _ hbel.out).2.2.2
    by_cases hlt:k<g.ports.length
    ·go_wp2_with (at_builtin;refine ygc _ rfl _ _ 22 rfl (w.heap.size+1) 3 i0 (.int .i64 0) 1 8 Tryz.underlying22 Hi0.out.1 Hi0.out.2.1 Hi0.out.2.2.1 Hi0.out.2.2.2 rfl (by decide) u6 k ((List.replicate k (-1:Int)).map (Value.int .i64)) (by rfl) (hown.out.alloc _) _ 1 1 [.int .i64 (-1)] (by rfl) rfl (ybgr rfl) (by simp[Value.oneCell']) (by simp only[maxLen];omega) (by omega) (by simp;omega) ?_;intro v' w' hown' hgr hob)
     have Hown:=Lib.hid hown';have Hgr:=Lib.hid hgr
     clear hown' hgr hob
     go_wp2
     go_roundg (gk - 1)
     case measure=>omega
     case rel =>
      refine⟨k+1,by omega,by go_num,Lib.hid ((hbel.out.alloc (by omega) _).grown Hgr.out (by simp;omega) (fun x hx=>(hown.out.lt hx).1)),Lib.hid ?_⟩
      have:=Hown.out
      rwa [<- List.map_singleton (f:=Value.int .i64),<- List.map_append,<- List.replicate_succ']at this
    ·obtain rfl:k=g.ports.length:=by omega
     obtain⟨gO,oO,cO,rfl,hO1,hO2,hO3,hO4,hO5⟩:=hown.out.form (by omega)
     unfold maxLen at hO4;have hca:=hO5 a (.int .i64 (-1)) (by simp[ha])
     have hfa:=hown.out.frozen (oO+a)
     clear hO5
     go_wp2
     go_loopg [8] (g.ports.length - 1) (fun q t wr=>∃ D:Nat,1<=D/\q+D=g.ports.length/\t = .int .i64 D/\Hid (Below (w.heap.size+1) W1 wr)/\Hid (Owns wr (w.heap.size+1) 3 1 (.slice (some ⟨gO,oO,none⟩) g.ports.length cO) g.ports.length ((layers g a D).map (Value.int .i64))))
     case atStart =>
      refine⟨1,Nat.le_refl _,by omega,rfl,Lib.hid (hbel.out.setCell (by simp;omega) _),Lib.hid ?_⟩
      have:=hown.out.store1 ha (.int .i64 0);rw[ybdj]at this;exact this
     case round =>
      clear hbel hown hca hfa hsz hO2
      obtain⟨D,hD1,hq,rfl,hbel,hown⟩:=hrel
      by_cases hlt:D<g.ports.length
      ·go_wp2
       obtain⟨go,rfl⟩:∃ go,go=gk:=⟨_,rfl⟩
       go_loopg [9] g.ports.length (fun q t wr=>∃ v:Nat,q+v=g.ports.length/\t = .int .i64 v/\Hid (Below (w.heap.size+1) W1 wr)/\Hid (Owns wr (w.heap.size+1) 3 1 (.slice (some ⟨gO,oO,none⟩) g.ports.length cO) g.ports.length ((yqf g (layers g a D) D v).map (Value.int .i64))))
       case atStart=>exact⟨0,by omega,rfl,hbel,hown⟩
       case round =>
        clear hbel hown
        obtain⟨v,hqv,rfl,hbel,hown⟩:=hrel
        by_cases hvlt:v<g.ports.length
        ·obtain⟨R,hR⟩:∃ R,yqf g (layers g a D) D v=R:=⟨_,rfl⟩;have Hst:=Lib.hid (yyd g (layers g a D) D v);rw[hR]at hown Hst
         clear hR
         have Hlen:=Lib.hid (show R.length=g.ports.length by have:=hown.out.1;simpa using this)
         obtain⟨b2,off2,lv,rfl,hb2,hclw,hls⟩:=yek Hp.out (List.getElem?_eq_getElem hvlt);obtain⟨A3,c3,rfl,hl1,hl2⟩:=ybg hls;obtain⟨ls,hle⟩:∃ ls,g.ports[v]=ls:=⟨_,rfl⟩;have Hlp:=Lib.hid (show g.ports[v]? = some ls by rw[List.getElem?_eq_getElem hvlt,hle])
         rw[hle]at hls hclw hl1;have Hls:=Lib.hid hls
         have Hst2:=Lib.hid (show yow g D R v=if decide (R.getD v 0<0) && yjl R ((D:Int) - 1) ls then R.set v D else R by
          unfold yow;rw[show g.ports.getD v []=ls by simp[List.getD,Hlp.out]])
         clear hle hls
         have hRv:v<R.length:=by rw[Hlen.out];exact hvlt
         obtain⟨xv,hxv⟩:∃ x,R[v]=x:=⟨_,rfl⟩;have Hgd:=Lib.hid (show R.getD v 0=xv by simp[List.getD,hRv,hxv])
         clear hxv
         go_wp2
         obtain⟨gv,rfl⟩:∃ gv,gv=gk:=⟨_,rfl⟩
         go_loopg [10] ls.length (fun q t wr=>∃ i:Nat,q+i=ls.length/\t = .int .i64 i/\Hid (Below (w.heap.size+1) W1 wr) /\ ∃ R' x,R'[v]? = some x/\Hid (Owns wr (w.heap.size+1) 3 1 (.slice (some ⟨gO,oO,none⟩) g.ports.length cO) g.ports.length (R'.map (Value.int .i64)))/\Hid ((R'=R/\x=xv/\yjl R ((D:Int) - 1) (ls.take i)=false)\/(R'=yow g D R v/\0<=x)))
         case atStart=>exact⟨0,by omega,rfl,hbel,R,xv,by rw[List.getElem?_eq_getElem hRv];have:=Hgd.out;simp[List.getD,hRv]at this;rw[this],hown,Lib.hid (.inl ⟨rfl,rfl,by simp[yjl]⟩)⟩
         case round =>
          clear hbel hown
          obtain⟨i,hqi,rfl,hbel,R',x,hx,hown,hdis⟩:=hrel;obtain⟨p0,p1,hbw,hsz⟩:=HB.out _ hbel.out;have hcl:=yfk hbw _ _ hclw;have Hlen':=Lib.hid (show R'.length=g.ports.length by have:=hown.out.1;simpa using this)
          obtain⟨_,_,_,e5,_,_,_,_,hO5⟩:=hown.out.form (by omega)
          cases e5
          have hcv:=hO5 v (.int .i64 x) (by simp[hx])
          have hfv:=hown.out.frozen (oO+v);have Hx:=Lib.hid hx;have HO5:=Lib.hid hO5;have Hbw:=Lib.hid hbw
          clear hx hO5 hbw
          by_cases hil:i<ls.length
          ·obtain⟨A4,c4,e4,_,_,hE⟩:=Hls.out.below Stable.link Hbw.out;cases e4
           obtain⟨b3,off3,rfl,hb3,hE⟩:=hE (by omega)
           obtain⟨⟨l1,wt⟩,hle⟩:∃ l,ls[i]=l:=⟨_,rfl⟩;have hl?:ls[i]? = some (l1,wt):=by rw[List.getElem?_eq_getElem hil,hle]
           obtain⟨hx1,hx2,⟨hr1,hr2⟩,⟨hr3,hr4⟩⟩:=hE i _ hl?;obtain⟨k1,k2,k3,k4,k5⟩:=Hgood.out.link Hlp.out (List.mem_of_getElem? hl?);simp only at k1 k2 k3 k4 k5 hx1 hx2 hr1 hr2 hr3 hr4;obtain⟨u,rfl⟩:=Int.eq_ofNat_of_zero_le k1;have Hl?:=Lib.hid hl?;have Hsn:=Lib.hid (yul R ((D:Int) - 1) ls i hil);rw[hle]at Hsn;have HE:=Lib.hid hE
           clear hE hl? hle k1 k3
           by_cases c2:x<0
           ·have Hin:=Lib.hid (show R'=R/\x=xv/\yjl R ((D:Int) - 1) (ls.take i)=false by
             rcases hdis.out with h | h
             ·exact h
             ·omega)
            have hul:u<R'.length:=by rw[Hlen'.out];omega
            obtain⟨y,hy⟩:∃ y,R'[u]? = some y:=⟨_,List.getElem?_eq_getElem hul⟩;have hcu:=HO5.out u (.int .i64 y) (by simp[hy])
            have Hy:=Lib.hid hy
            clear hy
            by_cases c3:y=(D:Int) - 1
            ·have c3':(y == (D:Int) - 1)=true:=by simp[c3]
             have Hset:=Lib.hid (show yow g D R v=R'.set v D by
              obtain⟨e1,e2,_⟩:=Hin.out;rw[Hst2.out,Hgd.out,if_pos,e1];rw[Bool.and_eq_true];refine⟨decide_eq_true (by omega),?_⟩
              unfold yjl;rw[List.any_eq_true];refine⟨_,List.mem_of_getElem? Hl?.out,decide_eq_true ?_⟩;simp only[Int.toNat_natCast];rw[<- e1,Hy.out,c3])
             clear c3
             go_wp2
             go_roundg (gk - 1)
             case measure=>omega
             case rel =>
              refine⟨i+1,by omega,by go_num,Lib.hid (hbel.out.setCell (by simp;omega) _),R'.set v D,D,by rw[List.getElem?_set,if_pos rfl,if_pos (by rw[Hlen'.out];exact hvlt)],Lib.hid ?_,Lib.hid (.inr ⟨Hset.out.symm,by omega⟩)⟩
              rw[<- yqq];exact hown.out.store1 hvlt _
            ·have c3':(y == (D:Int) - 1)=false:=by simp[c3]
             have Hno:=Lib.hid (show yjl R ((D:Int) - 1) (ls.take (i+1))=false by
              obtain⟨e1,e2,e3⟩:=Hin.out;rw[Hsn.out,e3,Bool.false_or,decide_eq_false_iff_not];simp only[Int.toNat_natCast];rw[<- e1,Hy.out]
              simpa using c3)
             clear c3
             go_wp2
             go_roundg (gk - 1)
             case measure=>omega
             case rel=>exact⟨i+1,by omega,by go_num,hbel,R',x,Hx.out,hown,Lib.hid (.inl ⟨Hin.out.1,Hin.out.2.1,Hno.out⟩)⟩
           ·have Hend:=Lib.hid (show R'=yow g D R v by
             rcases hdis.out with⟨e1,e2,_⟩ | ⟨e1,_⟩
             ·rw[Hst2.out,Hgd.out,if_neg,e1];rw[Bool.and_eq_true];intro h;have:=of_decide_eq_true h.1;omega
             ·exact e1)
            go_wp2
            go_roundg (gv - 1)
            case measure=>omega
            case rel=>exact⟨v+1,by omega,by go_num,hbel,Lib.hid (by rw[Hst.out,<- Hend.out];exact hown.out)⟩
          ·obtain rfl:i=ls.length:=by omega
           have Hend:=Lib.hid (show R'=yow g D R v by
            rcases hdis.out with⟨e1,e2,e3⟩ | ⟨e1,_⟩
            ·rw[List.take_length]at e3;rw[Hst2.out,e3,Bool.and_false,if_neg (by simp),e1]
            ·exact e1)
           go_wp2
           go_roundg (gv - 1)
           case measure=>omega
           case rel=>exact⟨v+1,by omega,by go_num,hbel,Lib.hid (by rw[Hst.out,<- Hend.out];exact hown.out)⟩
        ·obtain rfl:v=g.ports.length:=by omega
         go_wp2
         go_roundg (go - 1)
         case measure=>omega
         case rel=>exact⟨D+1,by omega,by omega,by go_num,hbel,Lib.hid (by rw[ybcu g a hD1];exact hown.out)⟩
      ·obtain rfl:D=g.ports.length:=by omega
       go_wp2
       go_ret
       refine⟨_,rfl,?_,(HB.out _ hbel.out).2.2.1⟩;rw[Hf.out];exact hown.out.ints (fun x hx=>by have:=(yct Hgood.out ha).bound Hgood.out ha x hx;unfold I64;omega)
  ·have Hf:=Lib.hid (show yoh g v = []from yjf (by omega))
   have c3:v<0\/(g.ports.length:Int) - 1<v:=by omega
   clear c2
   go_enter Tryz.func84,Tryz.ntmps84
   go_wp2_with fail
   refine(ygh _ g _ (hg0.out.below ((Below.refl _ _).alloc (Nat.le_refl _) _))).mono ?_;rintro e w1 ⟨rfl,hb1⟩;obtain⟨q0,q1⟩:=ybea hb1;have Hb1:=Lib.hid (yjt hb1)
   clear hb1
   go_wp2_with fail
   refine(In_f _ _ _ _ (by omega)).mono ?_
   rintro e w1' ⟨rfl,rfl⟩
   go_wp2_with fail
   go_ret
   exact⟨_,rfl,by rw[Hf.out];exact SlAt.nil _,Hb1.out⟩
end Go.Proofs.YtiejahgklcjhkaaGreatDoor

namespace Go.Proofs.YtiejahgklcjhkaaGreatDoor
open Go.RowKit

theorem yib(dv:Value)(D:List Int)(w:World)(hd:yic w dv D) :
  Calls Tryz.prog 83 #[dv] w fun e w'=>e = .returned (.int .i64 (yck D))/\w=w':=by
 obtain⟨A,c,rfl,hA1,hA2⟩:=ybg hd;have Hd:=Lib.hid hd
 clear hd
 go_enter Tryz.func83,Tryz.ntmps83
 go_wp2
 go_loopg [3,4] D.length (fun q m t wr=>∃ k:Nat,q+k=D.length/\t = .int .i64 k/\wr=w/\m = .int .i64 (ybi (D.take k))/\Hid ((D.take k).all (fun x=>decide (0<=x))=true))
 case atStart=>exact⟨0,by omega,rfl,rfl,by simp[ybi],Lib.hid (by simp)⟩
 case round =>
  obtain⟨k,hq,rfl,rfl,rfl,hall⟩:=hrel
  by_cases hlt:k<D.length
  ·obtain⟨b,off,rfl,hb,hc,hr⟩:=yev Hd.out hlt
   by_cases c1:D[k]<0
   ·have Hf:=Lib.hid (show yck D = -1 by
     unfold yck;rw[if_neg];rw[List.all_eq_true];intro h;have:=of_decide_eq_true (h _ (List.getElem_mem hlt));omega)
    go_wp2
    go_ret
    exact⟨yqu Hf.out.symm,rfl⟩
   ·have Hs:=Lib.hid (yjv D k hlt)
    have Ha:=Lib.hid (show(D.take (k+1)).all (fun x=>decide (0<=x))=true by
     rw[take_snoc D k hlt,List.all_append,hall.out];simp;omega)
    go_wp2
    all_goals
     go_roundg (gk - 1)
     case measure=>omega
     case rel=>exact⟨k+1,by omega,by go_num,rfl,by rw[Hs.out];try (congr 1;omega),Ha⟩
  ·obtain rfl:k=D.length:=by omega
   have Hf:=Lib.hid (show yck D=ybi D by
    have:=hall.out;rw[List.take_length]at this;exact if_pos this)
   go_wp2
   go_ret
   exact⟨yqu (by rw[Hf.out,List.take_length]),rfl⟩

theorem yor(gv:Value)(g:Gr)(w:World)(hg:GrAt w gv g) :
  Calls Tryz.prog 141 #[gv] w fun e w'=>e = .returned (.bool (ycw g))/\Below w.heap.size w w':=by
 have hg0:=Lib.hid hg;obtain⟨i,p,rfl,hi,hp⟩:=hg
 clear hi hp
 have Hc:=Lib.hid (ybjx g)
 go_enter Tryz.func141,Tryz.ntmps141
 go_wp2_with fail
 refine(yhw _ g 0 _ (hg0.out.below ((Below.refl _ _).alloc (Nat.le_refl _) _)) ⟨by omega,by omega⟩).mono ?_
 rintro e w1 ⟨v,rfl,hv,hb1⟩;have Hv:=Lib.hid hv;have Hb1:=Lib.hid (yjt hb1)
 clear hv hb1
 go_wp2_with fail
 refine(yib _ _ _ Hv.out).mono ?_;rintro e w2 ⟨rfl,rfl⟩
 go_wp2_with fail
 go_ret
 exact⟨ybc Hc.out,Hb1.out⟩

theorem ykf(gv:Value)(g:Gr)(v:Int)(w:World)(hg:GrAt w gv g)(hv64:I64 v) :
  Calls Tryz.prog 28 #[gv,.int .i64 v] w fun e w'=>e = .returned (.int .i64 (eccP g v))/\Below w.heap.size w w':=by
 have hg0:=Lib.hid hg;obtain⟨i,p,rfl,hi,hp⟩:=hg
 clear hi hp
 have Hc:=Lib.hid (ybvh g v)
 go_enter Tryz.func28,Tryz.ntmps28
 go_wp2_with fail
 refine(yhw _ g v _ (hg0.out.below ((Below.refl _ _).alloc (Nat.le_refl _) _)) hv64).mono ?_;rintro e w1 ⟨v,rfl,hv,hb1⟩;have Hv:=Lib.hid hv;have Hb1:=Lib.hid (yjt hb1)
 clear hv hb1
 go_wp2_with fail
 refine(yib _ _ _ Hv.out).mono ?_;rintro e w2 ⟨rfl,rfl⟩
 go_wp2_with fail
 go_ret
 exact⟨yqu Hc.out,Hb1.out⟩
end Go.Proofs.YtiejahgklcjhkaaGreatDoor

namespace Go.Proofs.YtiejahgklcjhkaaGreatDoor
open Go
namespace Sh
open Ev Go.RowKit
set_option maxRecDepth 8000
theorem yyz{g:Gr}(hI:GrI g):Returns Tryz.prog 141 [grV g] (.b (ycw g)):=by
 refine ysd ⟨_,_,Tryz.func141,rfl⟩ (fun _=>.b) (fun _=>.simple rfl) fun G m us hG hr φ M w us' hRl hs hv=>?_;obtain⟨u,rfl,h1⟩:=rvl1 hr;obtain⟨u',rfl,h2⟩:=yey hv;exact yor u' g w (ybjj hG h1 h2 hRl hs hI)
theorem ycad{g:Gr}(hI:GrI g){v:Int}(hv64:I64 v):Returns Tryz.prog 28 [grV g,.i .i64 v] (.i .i64 (eccP g v)):=by
 refine ysd ⟨_,_,Tryz.func28,rfl⟩ (fun _=>.i) (fun _=>.simple rfl) fun G m us hG hr φ M w us' hRl hs hv=>?_;obtain⟨u,v',rfl,h1,h2⟩:=rvl2 hr;obtain⟨u',v'',rfl,h3,h4⟩:=yrs hv;cases h2.int_inv
 have e:=h4.eq_simple rfl;subst e;exact ykf u' g v w (ybjj hG h1 h3 hRl hs hI) hv64
theorem ybis(nm:ByteArray)(hi pn pi:Int):Returns Tryz.prog 79 [.a (.string nm),.i .i64 hi,.i .i64 pn,.i .i64 pi] (.ag (varC ⟨nm,1,0,hi,pn,pi⟩)):=by
 refine Returns.of (ydad _ _ ?_);simp only[c79,ydch,ydaw,varC,go_sem,Nat.reduceEqDiff,Nat.reduceAdd,Nat.reduceLeDiff,Nat.reduceLT,↓reduceIte,reduceCtorEq];exact Sim.refl _
end Sh
end Go.Proofs.YtiejahgklcjhkaaGreatDoor

namespace Go.Proofs.YtiejahgklcjhkaaGreatDoor
namespace Sh
open Go Ev
def yuc:List Nat:=[0,1,1,2,1,2,2,3,1,2,2,3,2,3,3,4,1,2,2,3,2,3,3,4,2,3,3,4,3,4,4,5,1,2,2,3,2,3,3,4,2,3,3,4,3,4,4,5,2,3,3,4,3,4,4,5,3,4,4,5,4,5,5,6,1,2,2,3,2,3,3,4,2,3,3,4,3,4,4,5,2,3,3,4,3,4,4,5,3,4,4,5,4,5,5,6,2,3,3,4,3,4,4,5,3,4,4,5,4,5,5,6,3,4,4,5,4,5,5,6,4,5,5,6,5,6,6,7,1,2,2,3,2,3,3,4,2,3,3,4,3,4,4,5,2,3,3,4,3,4,4,5,3,4,4,5,4,5,5,6,2,3,3,4,3,4,4,5,3,4,4,5,4,5,5,6,3,4,4,5,4,5,5,6,4,5,5,6,5,6,6,7,2,3,3,4,3,4,4,5,3,4,4,5,4,5,5,6,3,4,4,5,4,5,5,6,4,5,5,6,5,6,6,7,3,4,4,5,4,5,5,6,4,5,5,6,5,6,6,7,4,5,5,6,5,6,6,7,5,6,6,7,6,7,7,8]
def ychl:LO:=[o3 (.box 87 (.tmp 0)) 3 0,o3 (.box 27 (.tmp 1)) 4 0,o3 (.mv (ci' 0)) 6 0,o3 (.mv (ci' 0)) 7 4]
def ycdf:LO:=[o3 (.build [.i .i64 0,.a (.nilFunc)] [(0,1,(ci' 1)),(1,1,(.func 198))]) 11 0,o3 (.build [.i .i64 0,.a (.nilFunc)] [(0,1,(ci' 2)),(1,1,(.func 199))]) 12 0,o3 (.build [.i .i64 0,.a (.nilFunc)] [(0,1,(ci' 3)),(1,1,(.func 200))]) 13 0,o3 (.bslice 209 2 3 [.i .i64 0,.a (.nilFunc),.i .i64 0,.a (.nilFunc),.i .i64 0,.a (.nilFunc)] [(0,2,(.tmp 11)),(2,2,(.tmp 12)),(4,2,(.tmp 13))]) 14 7,mv' 14 8 15]
def ycls:LO:=[mv' 8 15 0,ln' 15 16 1,o3 (.mv (ci' 0)) 17 0]
def ybgq:LO:=[bn' .lss 17 16 18 0]
def ybhd:LO:=[ix' 2 15 17 19 0,ld' true 2 19 20 1,o3 (.alloc 209 1 [.i .i64 0,.a (.nilFunc)]) 10 0,o0 (.store 2 (.tmp 10) (.tmp 20)) 7]
def ybfz:LO:=[fa' 0 1 10 21 0,ld' false 1 21 22 1,fa' 1 1 3 23 0,ld' false 1 23 24 4,bn' .eql 22 24 25 15]
def ybhl:LO:=[fa' 1 1 10 26 0,ld' false 1 26 27 1,ld' true 6 3 28 0,ld' true 2 4 29 0,mv' 2 30 0,o3 (.call (.tmp 27) [(.tmp 28),(.tmp 29),(.tmp 30)]) 31 31,xt' 31 0 32 63,xt' 31 1 33 63,mv' 32 6 255,mv' 33 7 511]
def ybgv:LO:=[o3 (.bin .add (.tmp 17) (ci' 1)) 34 0,mv' 34 17 1]
def ybhx:LO:=[o3 (.mv (ci' 0)) 6 0,o3 (.mv (.const (.int .i64 (-1)))) 7 1]
def c171:SC:=(.seq (.reg false ychl) (.seq (.reg false ycdf) (.seq (.seq (.reg false ycls) (.block 0 (.loop (.seq (.reg false ybgq) (.seq (.cond (.tmp 18) .skip (.exit 0)) (.seq (.block 1 (.seq (.reg false ybhd) (.seq (.reg false ybfz) (.cond (.tmp 25) (.seq (.reg false ybhl) .ret) .skip)))) (.reg false ybgv))))))) (.seq (.reg false ybhx) .ret))))
theorem yctt:Fn 171 c171 [.t 6,.t 7]:=fn_0 Tryz.func171 (by kernel_rfl) (by kernel_rfl)
def ycqp:LO:=[o3 (.box 87 (.tmp 0)) 3 0,o3 (.box 27 (.tmp 1)) 4 0,o3 (.mv (ci' 0)) 6 0,o3 (.mv (ci' 0)) 7 4]
def yclf:LO:=[fa' 2 1 3 8 0,ld' false 1 8 9 1,fa' 3 1 3 10 0,ld' false 1 10 11 4,fa' 4 1 3 12 0,ld' false 1 12 13 16,fa' 0 1 4 14 0,ld' false 1 14 15 64,ln' 15 16 192,bn' .mul 13 16 17 496,bn' .add 11 17 18 1020,fa' 5 1 3 19 0,ld' false 1 19 20 2048,fa' 0 1 4 21 0,ld' false 1 21 22 8192,cl' 160 [22] 23 24576,bn' .mul 20 23 24 63488,bn' .add 18 24 25 131068,mv' 9 6 57347,mv' 25 7 524287]
def c198:SC:=(.seq (.reg false ycqp) (.seq (.reg true yclf) .ret))
theorem ycry:Fn 198 c198 [.t 6,.t 7]:=fn_0 Tryz.func198 (by kernel_rfl) (by kernel_rfl)
def yckv:LO:=[o3 (.box 87 (.tmp 0)) 3 0,o3 (.box 27 (.tmp 1)) 4 0,o3 (.mv (ci' 0)) 6 0,o3 (.mv (ci' 0)) 7 4]
def ycig:LO:=[o3 (.mv (ci' 0)) 6 0,o3 (.mv (ci' 1)) 7 1]
def c199:SC:=(.seq (.reg false yckv) (.seq (.reg false ycig) .ret))
theorem ycvq:Fn 199 c199 [.t 6,.t 7]:=fn_0 Tryz.func199 (by kernel_rfl) (by kernel_rfl)
def yckp:LO:=[o3 (.box 87 (.tmp 0)) 3 0,o3 (.box 27 (.tmp 1)) 4 0,o3 (.mv (ci' 0)) 6 0,o3 (.mv (ci' 0)) 7 4]
def ycpa:LO:=[fa' 1 1 4 8 0,ld' false 1 8 9 1,mv' 2 10 0,ix' 1 9 10 11 7,ld' false 1 11 12 15,ln' 12 13 31,o3 (.bin .sub (.tmp 13) (ci' 1)) 14 63,o3 (.mv (.const (.int .i64 (-1)))) 6 0,mv' 14 7 255]
def c200:SC:=(.seq (.reg false yckp) (.seq (.reg true ycpa) .ret))
theorem ycti:Fn 200 c200 [.t 6,.t 7]:=fn_0 Tryz.func200 (by kernel_rfl) (by kernel_rfl)
def ycke:LO:=[o3 (.box 58 (.tmp 0)) 2 0,o3 (.box 27 (.tmp 1)) 3 0,o3 (.mv (.const (.slice none 0 0))) 4 0]
def ycda:LO:=[fa' 0 1 3 9 0,ld' false 1 9 10 1,ln' 10 11 3,o3 (.mk 73 1 24 [.a (.slice none 0 0)] (.tmp 11) (.tmp 11)) 12 7,mv' 12 5 15]
def ycov:LO:=[mv' 5 13 0,ln' 13 14 1,o3 (.mv (ci' 0)) 15 0]
def ycfi:LO:=[bn' .lss 15 14 16 0]
def ycno:LO:=[mv' 15 17 0,mv' 17 6 1]
def ycjy:LO:=[mv' 5 18 0,mv' 6 19 0,fa' 1 1 2 20 0,ld' false 1 20 21 4,ln' 21 22 12,o3 (.mk 75 2 16 [.i .i64 0,.i .i64 0] (.tmp 22) (.tmp 22)) 23 28,ix' 1 18 19 24 63,o0 (.store 1 (.tmp 24) (.tmp 23)) 127]
def ycrn:LO:=[fa' 1 1 2 25 0,ld' false 1 25 26 1,ln' 26 27 3,o3 (.mv (ci' 0)) 28 0]
def yclx:LO:=[bn' .lss 28 27 29 0]
def yckb:LO:=[mv' 28 30 0,ix' 6 26 28 31 0,ld' true 6 31 32 2,o3 (.alloc 87 1 [.a (.string (ByteArray.mk #[])),.i .i64 0,.i .i64 0,.i .i64 0,.i .i64 0,.i .i64 0]) 8 0,mv' 30 7 15,o0 (.store 6 (.tmp 8) (.tmp 32)) 31]
def ycln:LO:=[mv' 5 34 0,mv' 6 35 0,ix' 1 34 35 36 3,ld' false 1 36 37 7,mv' 7 38 0,mv' 5 39 0,mv' 6 40 0,ix' 1 39 40 41 96,ld' false 1 41 42 224,mv' 7 43 0,ld' true 6 8 44 0,ld' true 2 3 45 0,mv' 6 46 0,cl' 171 [44,45,46] 47 7168,mv' 47 33 15360,xt' 33 0 48 31744,xt' 33 1 49 31744,ix' 2 37 38 50 31,o3 (.idxA 2 1 (.tmp 50) (ci' 0)) 51 196095,o0 (.store 1 (.tmp 51) (.tmp 48)) 458239,ix' 2 42 43 52 992,o3 (.idxA 2 1 (.tmp 52) (ci' 1)) 53 2097151,o0 (.store 1 (.tmp 53) (.tmp 49)) 4194303]
def ybni:LO:=[o3 (.bin .add (.tmp 28) (ci' 1)) 54 0,mv' 54 28 1]
def ybnk:LO:=[o3 (.bin .add (.tmp 15) (ci' 1)) 55 0,mv' 55 15 1]
def ybtj:LO:=[mv' 5 56 0,mv' 56 4 1]
def c144:SC:=(.seq (.reg false ycke) (.seq (.reg false ycda) (.seq (.seq (.reg false ycov) (.block 0 (.loop (.seq (.reg false ycfi) (.seq (.cond (.tmp 16) .skip (.exit 0)) (.seq (.block 1 (.seq (.reg false ycno) (.seq (.reg false ycjy) (.seq (.reg false ycrn) (.block 2 (.loop (.seq (.reg false yclx) (.seq (.cond (.tmp 29) .skip (.exit 2)) (.seq (.block 3 (.seq (.reg false yckb) (.reg true ycln))) (.reg false ybni)))))))))) (.reg false ybnk))))))) (.seq (.reg false ybtj) .ret))))
theorem ycum:Fn 144 c144 [.t 4]:=fn_0 Tryz.func144 (by kernel_rfl) (by kernel_rfl)
def ycog:LO:=[o3 (.box 75 (.tmp 1)) 4 0,o3 (.mv (ci' 0)) 6 0]
def ycgv:LO:=[mv' 2 8 0,o3 (.idxA 2 1 (.tmp 4) (ci' 0)) 9 0,ld' false 1 9 10 2,bn' .geq 8 10 11 7,mv' 11 12 15,⟨.mv (.tmp 2),some 13,some (12,true),31⟩,⟨.idxA 2 1 (.tmp 4) (ci' 1),some 14,some (12,true),31⟩,⟨.load false 1 (.tmp 14),some 15,some (12,true),95⟩,⟨.bin .leq (.tmp 13) (.tmp 15),some 16,some (12,true),255⟩,o3 (.pick (.tmp 12) (.tmp 16) (.const (.bool false))) 17 511,mv' 17 7 1023]
def ycpd:LO:=[mv' 2 18 0,mv' 18 6 1]
def ycfy:LO:=[mv' 0 20 0,o3 (.bin .eql (.tmp 20) (ci' 3)) 21 1,mv' 21 19 3]
def ycku:LO:=[o3 (.mv (.const (.int .i64 (-1)))) 6 0]
def ycie:LO:=[mv' 2 23 0,o3 (.idxA 2 1 (.tmp 4) (ci' 0)) 24 0,ld' false 1 24 25 2,bn' .lss 23 25 26 7,mv' 26 22 15]
def yclb:LO:=[o3 (.idxA 2 1 (.tmp 4) (ci' 0)) 27 0,ld' false 1 27 28 1,mv' 28 6 3]
def ycch:LO:=[o3 (.idxA 2 1 (.tmp 4) (ci' 1)) 29 0,ld' false 1 29 30 1,mv' 30 6 3]
def c194:SC:=(.seq (.reg false ycog) (.seq (.block 0 (.seq (.reg false ycgv) (.cond (.tmp 7) (.seq (.reg false ycpd) .ret) (.seq (.reg false ycfy) (.cond (.tmp 19) (.seq (.reg false ycku) .ret) (.seq (.reg false ycie) (.cond (.tmp 22) (.seq (.reg false yclb) .ret) .skip))))))) (.seq (.reg false ycch) .ret)))
theorem ycve:Fn 194 c194 [.t 6]:=fn_0 Tryz.func194 (by kernel_rfl) (by kernel_rfl)
def ycge:LO:=[o3 (.box 58 (.tmp 0)) 2 0,o3 (.box 27 (.tmp 1)) 3 0,o3 (.mv (ci' 0)) 4 0]
def ycro:LO:=[ld' true 3 2 9 0,cl' 191 [9] 10 1,o3 (.un .not (.tmp 10)) 11 3]
def ycqr:LO:=[o3 (.mv (ci' 8)) 4 0]
def ycde:LO:=[ld' true 2 3 12 0,cl' 96 [12] 13 1,o3 (.un .not (.tmp 13)) 14 3]
def ycmm:LO:=[o3 (.mv (ci' 1)) 4 0]
def ycmn:LO:=[fa' 1 1 2 15 0,ld' false 1 15 16 1,ln' 16 17 3,o3 (.mv (ci' 0)) 18 0]
def ycfv:LO:=[bn' .lss 18 17 19 0]
def ycjk:LO:=[ix' 6 16 18 20 0,ld' true 6 20 21 1,o3 (.alloc 87 1 [.a (.string (ByteArray.mk #[])),.i .i64 0,.i .i64 0,.i .i64 0,.i .i64 0,.i .i64 0]) 6 0,o0 (.store 6 (.tmp 6) (.tmp 21)) 7]
def ycdc:LO:=[fa' 1 1 6 22 0,ld' false 1 22 23 1,o3 (.bin .neq (.tmp 23) (ci' 1)) 24 3]
def ycpy:LO:=[ld' true 6 6 26 0,ld' true 2 3 27 0,o3 (.call (.func 171) [(.tmp 26),(.tmp 27),(ci' 0)]) 28 3,mv' 28 25 7,xt' 25 0 29 15,xt' 25 1 30 15,mv' 29 7 31,mv' 30 8 127]
def ybuy:LO:=[mv' 8 31 0,mv' 7 32 0,bn' .lss 31 32 33 3,mv' 33 34 7,⟨.mv (.tmp 8),some 35,some (34,false),15⟩,⟨.mv (.tmp 7),some 36,some (34,false),15⟩,⟨.bin .sub (.tmp 35) (.tmp 36),some 37,some (34,false),63⟩,⟨.bin .add (.tmp 37) (ci' 1),some 38,some (34,false),127⟩,⟨.bin .gtr (.tmp 38) (ci' 4096),some 39,some (34,false),255⟩,o3 (.pick (.tmp 34) (.const (.bool true)) (.tmp 39)) 40 511]
def ybmq:LO:=[o3 (.mv (ci' 9)) 4 0]
def ybnd:LO:=[o3 (.bin .add (.tmp 18) (ci' 1)) 41 0,mv' 41 18 1]
def ybrd:LO:=[o3 (.mv (ci' 0)) 4 0]
def c155:SC:=(.seq (.reg false ycge) (.seq (.seq (.reg false ycro) (.cond (.tmp 11) (.seq (.reg false ycqr) .ret) .skip)) (.seq (.seq (.reg false ycde) (.cond (.tmp 14) (.seq (.reg false ycmm) .ret) .skip)) (.seq (.seq (.reg false ycmn) (.block 0 (.loop (.seq (.reg false ycfv) (.seq (.cond (.tmp 19) .skip (.exit 0)) (.seq (.block 1 (.seq (.reg false ycjk) (.seq (.seq (.reg false ycdc) (.cond (.tmp 24) (.exit 1) .skip)) (.seq (.reg false ycpy) (.seq (.reg false ybuy) (.cond (.tmp 40) (.seq (.reg false ybmq) .ret) .skip)))))) (.reg false ybnd))))))) (.seq (.reg false ybrd) .ret)))))
theorem ycvu:Fn 155 c155 [.t 4]:=fn_0 Tryz.func155 (by kernel_rfl) (by kernel_rfl)
def yczi:LO:=[o3 (.box 58 (.tmp 0)) 3 0,o3 (.box 27 (.tmp 1)) 4 0,o3 (.mv (.const (.bool false))) 6 0]
def yddr:LO:=[ld' true 3 3 7 0,ld' true 2 4 8 0,mv' 2 9 0,cl' 112 [7,8,9] 10 7,o3 (.bin .eql (.tmp 10) (ci' 0)) 11 15,mv' 11 6 31]
def c92:SC:=(.seq (.reg false yczi) (.seq (.reg false yddr) .ret))
theorem ydgc:Fn 92 c92 [.t 6]:=fn_0 Tryz.func92 (by kernel_rfl) (by kernel_rfl)
def ycoo:LO:=[o3 (.box 58 (.tmp 0)) 3 0,o3 (.box 27 (.tmp 1)) 4 0,o3 (.mv (ci' 0)) 6 0]
def ycmt:LO:=[ld' true 3 3 8 0,ld' true 2 4 9 0,cl' 155 [8,9] 10 3,mv' 10 7 7]
def ycdr:LO:=[mv' 7 11 0,o3 (.bin .neq (.tmp 11) (ci' 0)) 12 1]
def ychk:LO:=[mv' 7 13 0,mv' 13 6 1]
def ycbx:LO:=[ld' true 3 3 14 0,ld' true 2 4 15 0,cl' 144 [14,15] 16 3,mv' 2 17 0,cl' 156 [16,17] 18 15,o3 (.un .not (.tmp 18)) 19 31]
def ycft:LO:=[o3 (.mv (ci' 10)) 6 0]
def ycgm:LO:=[o3 (.mv (ci' 0)) 6 0]
def c112:SC:=(.seq (.reg false ycoo) (.seq (.seq (.reg false ycmt) (.seq (.reg false ycdr) (.cond (.tmp 12) (.seq (.reg false ychk) .ret) .skip))) (.seq (.seq (.reg false ycbx) (.cond (.tmp 19) (.seq (.reg false ycft) .ret) .skip)) (.seq (.reg false ycgm) .ret))))
theorem yctb:Fn 112 c112 [.t 6]:=fn_0 Tryz.func112 (by kernel_rfl) (by kernel_rfl)
def ycdy:LO:=[o3 (.mv (.const (.bool false))) 4 0]
def ycoj:LO:=[mv' 1 7 0,ln' 7 8 1,mv' 0 9 0,ln' 9 10 4,bn' .neq 8 10 11 15]
def yccj:LO:=[o3 (.mv (.const (.bool false))) 4 0]
def ychi:LO:=[mv' 0 12 0,ln' 12 13 1,o3 (.mv (ci' 0)) 14 0]
def ycfd:LO:=[bn' .lss 14 13 15 0]
def ycic:LO:=[mv' 14 16 0,ix' 1 12 14 17 0,ld' false 1 17 18 2,mv' 16 5 7,mv' 18 6 15]
def ycet:LO:=[mv' 6 19 0,mv' 1 20 0,mv' 5 21 0,ix' 1 20 21 22 6,ld' false 1 22 23 14,cl' 192 [19,23] 24 31,o3 (.un .not (.tmp 24)) 25 63]
def ycpn:LO:=[o3 (.mv (.const (.bool false))) 4 0]
def yckr:LO:=[o3 (.bin .add (.tmp 14) (ci' 1)) 26 0,mv' 26 14 1]
def ycjv:LO:=[o3 (.mv (.const (.bool true))) 4 0]
def c156:SC:=(.seq (.reg false ycdy) (.seq (.seq (.reg false ycoj) (.cond (.tmp 11) (.seq (.reg false yccj) .ret) .skip)) (.seq (.seq (.reg false ychi) (.block 0 (.loop (.seq (.reg false ycfd) (.seq (.cond (.tmp 15) .skip (.exit 0)) (.seq (.block 1 (.seq (.reg false ycic) (.seq (.reg false ycet) (.cond (.tmp 25) (.seq (.reg false ycpn) .ret) .skip)))) (.reg false yckr))))))) (.seq (.reg false ycjv) .ret))))
theorem ycsy:Fn 156 c156 [.t 4]:=fn_0 Tryz.func156 (by kernel_rfl) (by kernel_rfl)
def ycgg:LO:=[o3 (.mv (.const (.bool false))) 4 0]
def ycnd:LO:=[mv' 1 7 0,ln' 7 8 1,mv' 0 9 0,ln' 9 10 4,bn' .neq 8 10 11 15]
def ycgf:LO:=[o3 (.mv (.const (.bool false))) 4 0]
def ychy:LO:=[mv' 1 12 0,ln' 12 13 1,o3 (.mv (ci' 0)) 14 0]
def ycqc:LO:=[bn' .lss 14 13 15 0]
def ychm:LO:=[mv' 14 16 0,ix' 1 12 14 17 0,ld' false 1 17 18 2,mv' 16 5 7,mv' 18 6 15]
def yckx:LO:=[mv' 6 19 0,mv' 0 20 0,mv' 5 21 0,ix' 2 20 21 22 6,o3 (.idxA 2 1 (.tmp 22) (ci' 0)) 23 14,ld' false 1 23 24 30,bn' .lss 19 24 25 63,mv' 25 26 127,⟨.mv (.tmp 6),some 27,some (26,false),255⟩,⟨.mv (.tmp 0),some 28,some (26,false),255⟩,⟨.mv (.tmp 5),some 29,some (26,false),255⟩,⟨.idx 2 (.tmp 28) (.tmp 29),some 30,some (26,false),1791⟩,⟨.idxA 2 1 (.tmp 30) (ci' 1),some 31,some (26,false),3839⟩,⟨.load false 1 (.tmp 31),some 32,some (26,false),7935⟩,⟨.bin .gtr (.tmp 27) (.tmp 32),some 33,some (26,false),16383⟩,o3 (.pick (.tmp 26) (.const (.bool true)) (.tmp 33)) 34 32767]
def ycle:LO:=[o3 (.mv (.const (.bool false))) 4 0]
def yckq:LO:=[o3 (.bin .add (.tmp 14) (ci' 1)) 35 0,mv' 35 14 1]
def ycob:LO:=[o3 (.mv (.const (.bool true))) 4 0]
def c192:SC:=(.seq (.reg false ycgg) (.seq (.seq (.reg false ycnd) (.cond (.tmp 11) (.seq (.reg false ycgf) .ret) .skip)) (.seq (.seq (.reg false ychy) (.block 0 (.loop (.seq (.reg false ycqc) (.seq (.cond (.tmp 15) .skip (.exit 0)) (.seq (.block 1 (.seq (.reg false ychm) (.seq (.reg false yckx) (.cond (.tmp 34) (.seq (.reg false ycle) .ret) .skip)))) (.reg false yckq))))))) (.seq (.reg false ycob) .ret))))
theorem ycsq:Fn 192 c192 [.t 4]:=fn_0 Tryz.func192 (by kernel_rfl) (by kernel_rfl)
def ybmk:LO:=[o3 (.mv (.const (.slice none 0 0))) 2 0]
def ybnq:LO:=[mv' 0 6 0,ln' 6 7 1,o3 (.mk 22 1 24 [.a (.slice none 0 0)] (.tmp 7) (.tmp 7)) 8 3,mv' 8 3 7]
def ybpk:LO:=[mv' 0 9 0,ln' 9 10 1,o3 (.mv (ci' 0)) 11 0]
def ybau:LO:=[bn' .lss 11 10 12 0]
def yzo:LO:=[mv' 11 13 0,ix' 1 9 11 14 0,ld' false 1 14 15 2,mv' 13 4 7,mv' 15 5 15]
def ybaq:LO:=[mv' 3 16 0,mv' 4 17 0,mv' 5 18 0,o3 (.app 3 1 8 (.const (.slice none 0 0)) (.tmp 18)) 19 4,ix' 1 16 17 20 15,o0 (.store 1 (.tmp 20) (.tmp 19)) 31]
def yxu:LO:=[o3 (.bin .add (.tmp 11) (ci' 1)) 21 0,mv' 21 11 1]
def yza:LO:=[mv' 3 22 0,mv' 22 2 1]
def c132:SC:=(.seq (.reg false ybmk) (.seq (.reg false ybnq) (.seq (.seq (.reg false ybpk) (.block 0 (.loop (.seq (.reg false ybau) (.seq (.cond (.tmp 12) .skip (.exit 0)) (.seq (.block 1 (.seq (.reg false yzo) (.reg false ybaq))) (.reg false yxu))))))) (.seq (.reg false yza) .ret))))
theorem ycvn:Fn 132 c132 [.t 2]:=fn_0 Tryz.func132 (by kernel_rfl) (by kernel_rfl)
theorem ybzz:FnM 132 c132 [.t 2]:=fn_m Tryz.func132 (by kernel_rfl) (by kernel_rfl)
def ycyv:LO:=[o3 (.box 58 (.tmp 0)) 2 0,o3 (.box 27 (.tmp 1)) 3 0,o3 (.mv (.const (.pointer none))) 4 0]
def yczd:LO:=[ld' true 3 2 5 0,ld' true 3 2 6 0,ld' true 2 3 7 0,cl' 143 [6,7] 8 6,ld' true 3 2 9 0,ld' true 2 3 10 0,cl' 144 [9,10] 11 62,o3 (.build [.a (.string (ByteArray.mk #[])),.a (.slice none 0 0),.a (.slice none 0 0),.a (.pointer none),.a (.slice none 0 0)] [(0,3,(.tmp 5)),(3,1,(.tmp 8)),(4,1,(.tmp 11))]) 12 127,o3 (.box 140 (.tmp 12)) 13 255,mv' 13 4 511]
def c93:SC:=(.seq (.reg false ycyv) (.seq (.reg true yczd) .ret))
theorem ydco:Fn 93 c93 [.t 4]:=fn_0 Tryz.func93 (by kernel_rfl) (by kernel_rfl)
def ycdq:LO:=[o3 (.mv (ci' 0)) 6 0]
def ycfz:LO:=[mv' 0 8 0,o3 (.nilck (.tmp 8)) 9 1,fa' 0 3 9 10 3,fa' 2 1 10 11 7,ld' false 1 11 12 15,ln' 12 13 31,o3 (.mv (ci' 0)) 14 0]
def ycmp:LO:=[bn' .lss 14 13 15 0]
def ycmd:LO:=[mv' 14 16 0,mv' 16 7 1]
def ycps:LO:=[mv' 0 17 0,o3 (.nilck (.tmp 17)) 18 1,fa' 3 1 18 19 3,ld' false 1 19 20 7,mv' 1 21 0,mv' 2 22 0,mv' 7 23 0,cl' 172 [20,21,22,23] 24 127]
def ycne:LO:=[mv' 7 25 0,mv' 25 6 1]
def ycfx:LO:=[o3 (.bin .add (.tmp 14) (ci' 1)) 26 0,mv' 26 14 1]
def ycms:LO:=[o3 (.mv (.const (.int .i64 (-1)))) 6 0]
def c147:SC:=(.seq (.reg false ycdq) (.seq (.seq (.reg false ycfz) (.block 0 (.loop (.seq (.reg false ycmp) (.seq (.cond (.tmp 15) .skip (.exit 0)) (.seq (.block 1 (.seq (.reg false ycmd) (.seq (.reg false ycps) (.cond (.tmp 24) (.seq (.reg false ycne) .ret) .skip)))) (.reg false ycfx))))))) (.seq (.reg false ycms) .ret)))
theorem ycwh:Fn 147 c147 [.t 6]:=fn_0 Tryz.func147 (by kernel_rfl) (by kernel_rfl)
def ydgj:LO:=[o3 (.box 99 (.tmp 0)) 2 0,o3 (.box 34 (.tmp 1)) 3 0,o3 (.mv (.const (.int .u32 0))) 4 0]
def ydbt:LO:=[ld' false 1 2 5 0,o3 (.nilck (.tmp 5)) 6 1,fa' 4 1 6 7 3,ld' false 1 7 8 7,ln' 8 9 15,o3 (.mkfn 146 [] [(.tmp 2),(.tmp 3)]) 10 0,cl' 145 [9,10] 11 63,mv' 11 4 127]
def c94:SC:=(.seq (.reg false ydgj) (.seq (.reg false ydbt) .ret))
theorem yday:Fn 94 c94 [.t 4]:=fn_0 Tryz.func94 (by kernel_rfl) (by kernel_rfl)
def ycgb:LO:=[o3 (.mv (.const (.bool false))) 4 0]
def ycom:LO:=[ld' false 1 1 5 0,ld' false 1 2 6 0,mv' 0 7 0,cl' 147 [5,6,7] 8 7,o3 (.bin .geq (.tmp 8) (ci' 0)) 9 15,mv' 9 4 31]
def c146:SC:=(.seq (.reg false ycgb) (.seq (.reg false ycom) .ret))
theorem ycsx:Fn 146 c146 [.t 4]:=fn_0 Tryz.func146 (by kernel_rfl) (by kernel_rfl)
def ycko:LO:=[o3 (.mv (.const (.slice none 0 0))) 8 0]
def ycju:LO:=[mv' 1 13 0,mv' 2 14 0,ix' 1 13 14 15 3,ld' false 1 15 16 7,o3 (.app 3 1 8 (.const (.slice none 0 0)) (.tmp 16)) 17 15,mv' 17 9 31]
def ycfo:LO:=[mv' 0 18 0,o3 (.nilck (.tmp 18)) 19 1,fa' 0 3 19 20 3,fa' 2 1 20 21 7,ld' false 1 21 22 15,mv' 3 23 0,ix' 3 22 23 24 63,fa' 2 1 24 25 127,ld' false 1 25 26 255,ln' 26 27 511,o3 (.mv (ci' 0)) 28 0]
def ycfh:LO:=[bn' .lss 28 27 29 0]
def ycfs:LO:=[ix' 2 26 28 30 0,ld' true 2 30 31 1,o3 (.alloc 200 1 [.i .i64 0,.a (.slice none 0 0)]) 11 0,o0 (.store 2 (.tmp 11) (.tmp 31)) 7]
def ychz:LO:=[mv' 0 32 0,o3 (.nilck (.tmp 32)) 33 1,fa' 3 1 33 34 3,ld' false 1 34 35 7,mv' 1 36 0,mv' 2 37 0,fa' 1 1 11 38 0,ld' false 1 38 39 64,cl' 193 [35,36,37,39] 40 255,mv' 40 12 511]
def yckj:LO:=[mv' 9 41 0,fa' 0 1 11 42 0,ld' false 1 42 43 2,mv' 0 44 0,o3 (.nilck (.tmp 44)) 45 8,fa' 0 3 45 46 24,fa' 1 1 46 47 56,ld' false 1 47 48 120,fa' 0 1 11 49 0,ld' false 1 49 50 256,ix' 6 48 50 51 1016,fa' 1 1 51 52 2040,ld' false 1 52 53 4088,mv' 0 54 0,o3 (.nilck (.tmp 54)) 55 8192,fa' 4 1 55 56 24576,ld' false 1 56 57 57344,mv' 2 58 0,ix' 1 57 58 59 253952,ld' false 1 59 60 516096,fa' 0 1 11 61 0,ld' false 1 61 62 1048576,ix' 2 60 62 63 4186112,ld' true 2 63 64 8380416,mv' 12 65 0,cl' 194 [53,64,65] 66 33554424,ix' 1 41 43 67 67108863,o0 (.store 1 (.tmp 67) (.tmp 66)) 134217727]
def ycea:LO:=[o3 (.bin .add (.tmp 28) (ci' 1)) 68 0,mv' 68 28 1]
def ycnt:LO:=[mv' 9 69 0,mv' 69 8 1]
def c157:SC:=(.seq (.reg false ycko) (.seq (.reg false ycju) (.seq (.seq (.reg false ycfo) (.block 0 (.loop (.seq (.reg false ycfh) (.seq (.cond (.tmp 29) .skip (.exit 0)) (.seq (.block 1 (.seq (.reg false ycfs) (.seq (.reg true ychz) (.reg true yckj)))) (.reg false ycea))))))) (.seq (.reg false ycnt) .ret))))
theorem ycua:Fn 157 c157 [.t 8]:=fn_0 Tryz.func157 (by kernel_rfl) (by kernel_rfl)
def ycgu:LO:=[o3 (.mv (.const (.slice none 0 0))) 6 0]
def ycgn:LO:=[mv' 1 9 0,cl' 132 [9] 10 1,mv' 10 7 3]
def ycga:LO:=[mv' 1 11 0,ln' 11 12 1,o3 (.mv (ci' 0)) 13 0]
def ycrd:LO:=[bn' .lss 13 12 14 0]
def ycik:LO:=[mv' 13 15 0,mv' 15 8 1]
def ycdt:LO:=[mv' 2 16 0,mv' 8 17 0,bn' .shr 16 17 18 3,o3 (.bin .and (.tmp 18) (.const (.int .u32 1))) 19 7,o3 (.bin .eql (.tmp 19) (.const (.int .u32 1))) 20 15]
def ycrf:LO:=[mv' 7 21 0,mv' 8 22 0,mv' 0 23 0,mv' 1 24 0,mv' 8 25 0,mv' 0 26 0,mv' 1 27 0,mv' 8 28 0,cl' 147 [26,27,28] 29 224,cl' 157 [23,24,25,29] 30 508,ix' 1 21 22 31 1023,o0 (.store 1 (.tmp 31) (.tmp 30)) 2047]
def ycma:LO:=[o3 (.bin .add (.tmp 13) (ci' 1)) 32 0,mv' 32 13 1]
def ycqt:LO:=[mv' 7 33 0,mv' 33 6 1]
def c113:SC:=(.seq (.reg false ycgu) (.seq (.reg false ycgn) (.seq (.seq (.reg false ycga) (.block 0 (.loop (.seq (.reg false ycrd) (.seq (.cond (.tmp 14) .skip (.exit 0)) (.seq (.block 1 (.seq (.reg false ycik) (.seq (.reg false ycdt) (.cond (.tmp 20) (.reg false ycrf) .skip)))) (.reg false ycma))))))) (.seq (.reg false ycqt) .ret))))
theorem ybxo:FnU 113 c113 [.t 6]:=fn_u Tryz.func113 (by kernel_rfl) (by kernel_rfl)
def ycor:LO:=[o3 (.mv (.const (.int .u32 0))) 4 0]
def ycia:LO:=[o3 (.mv (.const (.int .u32 0))) 5 0]
def ycrs:LO:=[mv' 0 7 0,o3 (.mv (ci' 0)) 8 0]
def ycmz:LO:=[bn' .lss 8 7 9 0]
def ycmc:LO:=[mv' 8 10 0,mv' 10 6 1]
def ycqo:LO:=[mv' 1 11 0,mv' 6 12 0,o3 (.call (.tmp 11) [(.tmp 12)]) 13 3]
def yclz:LO:=[mv' 5 14 0,mv' 6 15 0,o3 (.bin .shl (.const (.int .u32 1)) (.tmp 15)) 16 2,bn' .or 14 16 17 7,mv' 17 5 15]
def yciy:LO:=[o3 (.bin .add (.tmp 8) (ci' 1)) 18 0,mv' 18 8 1]
def ycod:LO:=[mv' 5 19 0,mv' 19 4 1]
def c145:SC:=(.seq (.reg false ycor) (.seq (.reg false ycia) (.seq (.seq (.reg false ycrs) (.block 0 (.loop (.seq (.reg false ycmz) (.seq (.cond (.tmp 9) .skip (.exit 0)) (.seq (.block 1 (.seq (.reg false ycmc) (.seq (.reg false ycqo) (.cond (.tmp 13) (.reg false yclz) .skip)))) (.reg false yciy))))))) (.seq (.reg false ycod) .ret))))
theorem ycto:Fn 145 c145 [.t 4]:=fn_0 Tryz.func145 (by kernel_rfl) (by kernel_rfl)
def ydfm:LO:=[o3 (.box 58 (.tmp 0)) 3 0,o3 (.box 27 (.tmp 1)) 4 0,o3 (.mv (.const (.int .u32 0))) 6 0]
def ydcg:LO:=[ld' true 3 3 7 0,ld' true 2 4 8 0,mv' 2 9 0,cl' 92 [7,8,9] 10 7,o3 (.un .not (.tmp 10)) 11 15]
def ydfd:LO:=[o3 (.mv (.const (.int .u32 0))) 6 0]
def ydfj:LO:=[ld' true 3 3 12 0,ld' true 2 4 13 0,cl' 93 [12,13] 14 3,mv' 2 15 0,cl' 94 [14,15] 16 15,mv' 16 6 31]
def c36:SC:=(.seq (.reg false ydfm) (.seq (.seq (.reg false ydcg) (.cond (.tmp 11) (.seq (.reg false ydfd) .ret) .skip)) (.seq (.reg false ydfj) .ret)))
theorem ydgn:Fn 36 c36 [.t 6]:=fn_0 Tryz.func36 (by kernel_rfl) (by kernel_rfl)
def ycgd:LO:=[o3 (.mv (.const (.bool false))) 2 0]
def ychc:LO:=[mv' 0 5 0,ln' 5 6 1,o3 (.mv (ci' 0)) 7 0]
def ycii:LO:=[bn' .lss 7 6 8 0]
def ycem:LO:=[ix' 1 5 7 9 0,ld' false 1 9 10 1,mv' 10 4 3]
def yccu:LO:=[mv' 4 11 0,o3 (.bin .andNot (.tmp 11) (.const (.int .u32 16777215))) 12 1,o3 (.bin .neq (.tmp 12) (.const (.int .u32 0))) 13 3]
def ycje:LO:=[o3 (.mv (.const (.bool false))) 2 0]
def ycjl:LO:=[o3 (.bin .add (.tmp 7) (ci' 1)) 14 0,mv' 14 7 1]
def ycoc:LO:=[o3 (.mv (.const (.bool true))) 2 0]
def c223:SC:=(.seq (.reg false ycgd) (.seq (.seq (.reg false ychc) (.block 0 (.loop (.seq (.reg false ycii) (.seq (.cond (.tmp 8) .skip (.exit 0)) (.seq (.block 1 (.seq (.reg false ycem) (.seq (.reg false yccu) (.cond (.tmp 13) (.seq (.reg false ycje) .ret) .skip)))) (.reg false ycjl))))))) (.seq (.reg false ycoc) .ret)))
theorem ycxx:Fn 223 c223 [.t 2]:=fn_0 Tryz.func223 (by kernel_rfl) (by kernel_rfl)
def c222_0:LO:=[o3 (.box 48 (.tmp 0)) 1 0,o3 (.mv (.const (.bool false))) 2 0]
def c222_1:LO:=[fa' 0 1 1 3 0,ld' false 1 3 4 1,o3 (.bin .lss (.tmp 4) (ci' 0)) 5 3,mv' 5 6 7,⟨.faddr 0 1 (.tmp 1),some 7,some (6,false),15⟩,⟨.load false 1 (.tmp 7),some 8,some (6,false),31⟩,⟨.bin .gtr (.tmp 8) (ci' 4096),some 9,some (6,false),63⟩,o3 (.pick (.tmp 6) (.const (.bool true)) (.tmp 9)) 10 127,mv' 10 11 255,⟨.faddr 2 1 (.tmp 1),some 12,some (11,false),511⟩,⟨.load false 1 (.tmp 12),some 13,some (11,false),1023⟩,⟨.bin .lss (.tmp 13) (ci' 0),some 14,some (11,false),2047⟩,o3 (.pick (.tmp 11) (.const (.bool true)) (.tmp 14)) 15 4095,mv' 15 16 8191,⟨.faddr 2 1 (.tmp 1),some 17,some (16,false),16383⟩,⟨.load false 1 (.tmp 17),some 18,some (16,false),32767⟩,⟨.faddr 3 1 (.tmp 1),some 19,some (16,false),16383⟩,⟨.load false 1 (.tmp 19),some 20,some (16,false),81919⟩,⟨.bin .gtr (.tmp 18) (.tmp 20),some 21,some (16,false),262143⟩,o3 (.pick (.tmp 16) (.const (.bool true)) (.tmp 21)) 22 524287,mv' 22 23 1048575,⟨.faddr 3 1 (.tmp 1),some 24,some (23,false),2097151⟩,⟨.load false 1 (.tmp 24),some 25,some (23,false),4194303⟩,⟨.faddr 0 1 (.tmp 1),some 26,some (23,false),2097151⟩,⟨.load false 1 (.tmp 26),some 27,some (23,false),10485759⟩,⟨.bin .gtr (.tmp 25) (.tmp 27),some 28,some (23,false),33554431⟩,o3 (.pick (.tmp 23) (.const (.bool true)) (.tmp 28)) 29 67108863]
def yczv:LO:=[o3 (.mv (.const (.bool false))) 2 0]
def c222_3:LO:=[fa' 3 1 1 30 0,ld' false 1 30 31 1,fa' 2 1 1 32 0,ld' false 1 32 33 4,o3 (.bin .add (.tmp 33) (ci' 1)) 34 12,bn' .gtr 31 34 35 31]
def yddj:LO:=[o3 (.mv (.const (.bool false))) 2 0]
def c222_5:LO:=[fa' 0 1 1 36 0,ld' false 1 36 37 1,fa' 1 1 1 38 0,ld' false 1 38 39 4,bn' .leq 37 39 40 15,mv' 40 41 31,⟨.faddr 1 1 (.tmp 1),some 42,some (41,true),63⟩,⟨.load false 1 (.tmp 42),some 43,some (41,true),127⟩,⟨.faddr 0 1 (.tmp 1),some 44,some (41,true),63⟩,⟨.load false 1 (.tmp 44),some 45,some (41,true),319⟩,⟨.bin .mul (ci' 24) (.tmp 45),some 46,some (41,true),831⟩,⟨.bin .leq (.tmp 43) (.tmp 46),some 47,some (41,true),2047⟩,o3 (.pick (.tmp 41) (.tmp 47) (.const (.bool false))) 48 4095,mv' 48 49 8191,⟨.faddr 4 1 (.tmp 1),some 50,some (49,true),16383⟩,⟨.load false 1 (.tmp 50),some 51,some (49,true),32767⟩,⟨.bslice 40 1 1 [.i .u32 0] [(0,1,(.tmp 51))],some 52,some (49,true),65535⟩,⟨.call (.func 223) [(.tmp 52)],some 53,some (49,true),131071⟩,o3 (.pick (.tmp 49) (.tmp 53) (.const (.bool false))) 54 262143,mv' 54 2 524287]
def c222:SC:=(.seq (.reg false c222_0) (.seq (.seq (.reg false c222_1) (.cond (.tmp 29) (.seq (.reg false yczv) .ret) .skip)) (.seq (.seq (.reg false c222_3) (.cond (.tmp 35) (.seq (.reg false yddj) .ret) .skip)) (.seq (.reg false c222_5) .ret))))
theorem c222_ok:Fn 222 c222 [.t 2]:=fn_0 Tryz.func222 (by kernel_rfl) (by kernel_rfl)
def ycmb:LO:=[o3 (.alloc 48 1 [.i .i64 0,.i .i64 0,.i .i64 0,.i .i64 0,.i .u32 0]) 2 0]
def ycoi:LO:=[mv' 0 3 0,o3 (.bin .and (.tmp 3) (.const (.int .u32 16777215))) 4 1,o3 (.build [.i .i64 0,.i .i64 0,.i .i64 0,.i .i64 0,.i .u32 0] [(4,1,(.tmp 4))]) 5 3,o0 (.store 5 (.tmp 2) (.tmp 5)) 7]
def c195:SC:=(.seq (.reg false ycmb) (.seq (.reg false ycoi) .ret))
theorem ycuy:Fn 195 c195 [.c 2 true 5]:=fn_0 Tryz.func195 (by kernel_rfl) (by kernel_rfl)
def ycnv:LO:=[o3 (.box 48 (.tmp 0)) 3 0,o3 (.alloc 48 1 [.i .i64 0,.i .i64 0,.i .i64 0,.i .i64 0,.i .u32 0]) 6 0,o3 (.mv (ci' 0)) 7 0]
def ycjs:LO:=[ld' true 5 3 8 0,cl' 222 [8] 9 1,o3 (.un .not (.tmp 9)) 10 3]
def ydhc:LO:=[o3 (.build [.i .i64 0,.i .i64 0,.i .i64 0,.i .i64 0,.i .u32 0] []) 11 0,o0 (.store 5 (.tmp 6) (.tmp 11)) 1,o3 (.mv (ci' 7)) 7 3]
def yccq:LO:=[mv' 1 12 0,o3 (.bin .eql (.tmp 12) (.const (.int .u32 0))) 13 1,mv' 13 14 3,⟨.mv (.tmp 1),some 15,some (14,false),7⟩,⟨.mv (.tmp 2),some 16,some (14,false),7⟩,⟨.bslice 40 1 2 [.i .u32 0,.i .u32 0] [(0,1,(.tmp 15)),(1,1,(.tmp 16))],some 17,some (14,false),31⟩,⟨.call (.func 223) [(.tmp 17)],some 18,some (14,false),63⟩,⟨.un .not (.tmp 18),some 19,some (14,false),127⟩,o3 (.pick (.tmp 14) (.const (.bool true)) (.tmp 19)) 20 255]
def yczs:LO:=[o3 (.build [.i .i64 0,.i .i64 0,.i .i64 0,.i .i64 0,.i .u32 0] []) 21 0,o0 (.store 5 (.tmp 6) (.tmp 21)) 1,o3 (.mv (ci' 11)) 7 3]
def ycey:LO:=[fa' 0 1 3 22 0,ld' false 1 22 23 1,o3 (.bin .eql (.tmp 23) (ci' 4096)) 24 3]
def ydeb:LO:=[o3 (.build [.i .i64 0,.i .i64 0,.i .i64 0,.i .i64 0,.i .u32 0] []) 25 0,o0 (.store 5 (.tmp 6) (.tmp 25)) 1,o3 (.mv (ci' 3)) 7 3]
def ycjz:LO:=[fa' 0 1 3 26 0,ld' false 1 26 27 1,o3 (.bin .add (.tmp 27) (ci' 1)) 28 3,fa' 0 1 3 29 7,o0 (.store 1 (.tmp 29) (.tmp 28)) 15]
def yccy:LO:=[fa' 1 1 3 30 0,ld' false 1 30 31 1,mv' 1 32 0,cl' 104 [32] 33 4,bn' .add 31 33 34 15,fa' 1 1 3 35 31,o0 (.store 1 (.tmp 35) (.tmp 34)) 63]
def ycfw:LO:=[fa' 2 1 3 36 0,ld' false 1 36 37 1,o3 (.bin .add (.tmp 37) (ci' 1)) 38 3,fa' 3 1 3 39 7,o0 (.store 1 (.tmp 39) (.tmp 38)) 15]
def ybvz:LO:=[fa' 4 1 3 40 0,ld' false 1 40 41 1,mv' 1 42 0,bn' .andNot 41 42 43 7,mv' 2 44 0,bn' .and 43 44 45 31,fa' 4 1 3 46 63,o0 (.store 1 (.tmp 46) (.tmp 45)) 127]
def ybvd:LO:=[fa' 4 1 3 47 0,ld' false 1 47 48 1,o3 (.bin .eql (.tmp 48) (.const (.int .u32 0))) 49 3]
def ybwc:LO:=[fa' 3 1 3 50 0,ld' false 1 50 51 1,fa' 2 1 3 52 3,o0 (.store 1 (.tmp 52) (.tmp 51)) 7]
def ybpc:LO:=[mv' 2 53 0,fa' 4 1 3 54 1,o0 (.store 1 (.tmp 54) (.tmp 53)) 3]
def ybdo:LO:=[ld' true 5 3 55 0,o0 (.store 5 (.tmp 6) (.tmp 55)) 1,o3 (.mv (ci' 0)) 7 3]
def c197:SC:=(.seq (.reg false ycnv) (.seq (.seq (.reg false ycjs) (.cond (.tmp 10) (.seq (.reg false ydhc) .ret) .skip)) (.seq (.seq (.reg false yccq) (.cond (.tmp 20) (.seq (.reg false yczs) .ret) .skip)) (.seq (.seq (.reg false ycey) (.cond (.tmp 24) (.seq (.reg false ydeb) .ret) .skip)) (.seq (.reg false ycjz) (.seq (.reg true yccy) (.seq (.reg false ycfw) (.seq (.reg false ybvz) (.seq (.seq (.reg false ybvd) (.cond (.tmp 49) (.seq (.reg false ybwc) (.reg false ybpc)) .skip)) (.seq (.reg false ybdo) .ret))))))))))
theorem yctx:Fn 197 c197 [.c 6 true 5,.t 7]:=fn_0 Tryz.func197 (by kernel_rfl) (by kernel_rfl)
def ycqm:LO:=[o3 (.mv (ci' 0)) 2 0]
def yccd:LO:=[mv' 0 3 0,o3 (.bin .shr (.tmp 3) (.const (.int .u64 24))) 4 1,o3 (.stri yuc (.tmp 4)) 5 3,mv' 0 6 0,o3 (.bin .shr (.tmp 6) (.const (.int .u64 16))) 7 8,o3 (.bin .and (.tmp 7) (.const (.int .u32 255))) 8 24,o3 (.stri yuc (.tmp 8)) 9 56,bn' .add 5 9 10 127,mv' 0 11 0,o3 (.bin .shr (.tmp 11) (.const (.int .u64 8))) 12 256,o3 (.bin .and (.tmp 12) (.const (.int .u32 255))) 13 768,o3 (.stri yuc (.tmp 13)) 14 1792,bn' .add 10 14 15 4095,mv' 0 16 0,o3 (.bin .and (.tmp 16) (.const (.int .u32 255))) 17 8192,o3 (.stri yuc (.tmp 17)) 18 24576,bn' .add 15 18 19 65535,o3 (.conv .i64 (.tmp 19)) 20 131071,mv' 20 2 262143]
def c104:SC:=(.seq (.reg false ycqm) (.seq (.reg true yccd) .ret))
theorem ycyh:Fn 104 c104 [.t 2]:=fn_0 Tryz.func104 (by kernel_rfl) (by kernel_rfl)
def ycpc:LO:=[o3 (.box 27 (.tmp 0)) 1 0,o3 (.mv (.const (.slice none 0 0))) 2 0]
def ycco:LO:=[fa' 1 1 1 8 0,ld' false 1 8 9 1,ln' 9 10 3,o3 (.mk 40 1 4 [.i .u32 0] (.tmp 10) (.tmp 10)) 11 7,mv' 11 3 15]
def yciw:LO:=[fa' 1 1 1 12 0,ld' false 1 12 13 1,ln' 13 14 3,o3 (.mv (ci' 0)) 15 0]
def ycdk:LO:=[bn' .lss 15 14 16 0]
def ycce:LO:=[mv' 15 17 0,ix' 1 13 15 18 0,ld' false 1 18 19 2,mv' 17 4 7,mv' 19 5 15]
def ycon:LO:=[mv' 5 20 0,ln' 20 21 1,o3 (.mv (ci' 0)) 22 0]
def ycil:LO:=[bn' .lss 22 21 23 0]
def ycqd:LO:=[ix' 2 20 22 24 0,ld' true 2 24 25 1,o3 (.alloc 95 1 [.i .i64 0,.i .i64 0]) 7 0,o0 (.store 2 (.tmp 7) (.tmp 25)) 7]
def ycfe:LO:=[mv' 3 26 0,mv' 4 27 0,ix' 1 26 27 28 3,ld' false 1 28 29 7,fa' 0 1 7 30 0,ld' false 1 30 31 16,o3 (.bin .shl (.const (.int .u32 1)) (.tmp 31)) 32 48,bn' .or 29 32 33 127,ix' 1 26 27 34 255,o0 (.store 1 (.tmp 34) (.tmp 33)) 511]
def yccg:LO:=[o3 (.bin .add (.tmp 22) (ci' 1)) 35 0,mv' 35 22 1]
def yboo:LO:=[o3 (.bin .add (.tmp 15) (ci' 1)) 36 0,mv' 36 15 1]
def ybtg:LO:=[mv' 3 37 0,mv' 37 2 1]
def c110:SC:=(.seq (.reg false ycpc) (.seq (.reg false ycco) (.seq (.seq (.reg false yciw) (.block 0 (.loop (.seq (.reg false ycdk) (.seq (.cond (.tmp 16) .skip (.exit 0)) (.seq (.block 1 (.seq (.reg false ycce) (.seq (.reg false ycon) (.block 2 (.loop (.seq (.reg false ycil) (.seq (.cond (.tmp 23) .skip (.exit 2)) (.seq (.block 3 (.seq (.reg false ycqd) (.reg true ycfe))) (.reg false yccg))))))))) (.reg false yboo))))))) (.seq (.reg false ybtg) .ret))))
theorem ycyd:Fn 110 c110 [.t 2]:=fn_0 Tryz.func110 (by kernel_rfl) (by kernel_rfl)
def ycmx:LO:=[o3 (.mv (.const (.bool false))) 8 0]
def ycmy:LO:=[mv' 3 9 0,o3 (.bin .eql (.tmp 9) (.const (.int .u32 0))) 10 1,mv' 10 11 3,⟨.mv (.tmp 3),some 12,some (11,false),7⟩,⟨.mv (.tmp 2),some 13,some (11,false),7⟩,⟨.bin .andNot (.tmp 12) (.tmp 13),some 14,some (11,false),31⟩,⟨.bin .neq (.tmp 14) (.const (.int .u32 0)),some 15,some (11,false),63⟩,o3 (.pick (.tmp 11) (.const (.bool true)) (.tmp 15)) 16 127]
def yczf:LO:=[o3 (.mv (.const (.bool false))) 8 0]
def ychh:LO:=[mv' 1 17 0]
def ycok:LO:=[o3 (.bin .eql (.tmp 17) (ci' 1)) 19 0,mv' 19 18 1]
def ydfw:LO:=[mv' 3 20 0,mv' 3 21 0,o3 (.bin .sub (.tmp 21) (.const (.int .u32 1))) 22 2,bn' .and 20 22 23 7,o3 (.bin .eql (.tmp 23) (.const (.int .u32 0))) 24 15,mv' 24 8 31]
def ycdo:LO:=[o3 (.bin .eql (.tmp 17) (ci' 2)) 26 0,mv' 26 25 1]
def ydcz:LO:=[mv' 0 27 0,mv' 3 28 0,cl' 221 [27,28] 29 3,mv' 29 8 7]
def ycji:LO:=[o3 (.bin .eql (.tmp 17) (ci' 4)) 31 0,mv' 31 30 1]
def ydbc:LO:=[mv' 3 32 0,mv' 2 33 0,bn' .eql 32 33 34 3,mv' 34 8 7]
def ybqs:LO:=[o3 (.mv (.const (.bool true))) 8 0]
def c196:SC:=(.seq (.reg false ycmx) (.seq (.seq (.reg false ycmy) (.cond (.tmp 16) (.seq (.reg false yczf) .ret) .skip)) (.seq (.seq (.reg false ychh) (.block 0 (.seq (.reg false ycok) (.cond (.tmp 18) (.seq (.reg false ydfw) .ret) (.seq (.reg false ycdo) (.cond (.tmp 25) (.seq (.reg false ydcz) .ret) (.seq (.reg false ycji) (.cond (.tmp 30) (.seq (.reg false ydbc) .ret) .skip)))))))) (.seq (.reg false ybqs) .ret))))
theorem ycxr:Fn 196 c196 [.t 8]:=fn_0 Tryz.func196 (by kernel_rfl) (by kernel_rfl)
def ybmw:LO:=[o3 (.box 110 (.tmp 0)) 4 0,o3 (.mv (.const (.int .u32 0))) 8 0]
def ybvn:LO:=[mv' 3 11 0,mv' 2 12 0,bn' .and 11 12 13 3,mv' 13 3 7]
def ybue:LO:=[mv' 3 14 0,o3 (.bin .eql (.tmp 14) (.const (.int .u32 0))) 15 1]
def ybmc:LO:=[mv' 2 16 0,mv' 2 17 0,o3 (.un .neg (.tmp 17)) 18 2,bn' .and 16 18 19 7,mv' 19 3 15]
def ybgi:LO:=[mv' 1 20 0]
def ybgm:LO:=[o3 (.bin .eql (.tmp 20) (ci' 1)) 22 0,mv' 22 21 1]
def ydgw:LO:=[mv' 3 23 0,mv' 3 24 0,o3 (.un .neg (.tmp 24)) 25 2,bn' .and 23 25 26 7,mv' 26 8 15]
def ybic:LO:=[o3 (.bin .eql (.tmp 20) (ci' 2)) 28 0,mv' 28 27 1]
def ydfo:LO:=[o3 (.alloc 40 1 [.i .u32 0]) 9 0,o0 (.store 1 (.tmp 9) (.const (.int .u32 0))) 1]
def yczb:LO:=[mv' 3 29 0,cl' 154 [29] 30 1]
def ycxe:LO:=[mv' 31 10 0]
def ycun:LO:=[ld' false 1 4 32 0,mv' 10 33 0,ix' 1 32 33 34 3,ld' false 1 34 35 7,ld' false 1 9 36 0,bn' .and 35 36 37 31,o3 (.bin .eql (.tmp 37) (.const (.int .u32 0))) 38 63]
def ycuq:LO:=[ld' false 1 9 39 0,mv' 10 40 0,o3 (.bin .shl (.const (.int .u32 1)) (.tmp 40)) 41 2,bn' .or 39 41 42 7,o0 (.store 1 (.tmp 9) (.tmp 42)) 15]
def yctv:LO:=[ld' false 1 9 43 0,mv' 43 8 1]
def yvn:LO:=[o3 (.bin .eql (.tmp 20) (ci' 4)) 45 0,mv' 45 44 1]
def ycwv:LO:=[mv' 2 46 0,mv' 46 8 1]
def yxj:LO:=[mv' 3 47 0,mv' 47 8 1]
def c111:SC:=(.seq (.reg false ybmw) (.seq (.reg false ybvn) (.seq (.seq (.reg false ybue) (.cond (.tmp 15) (.reg false ybmc) .skip)) (.seq (.seq (.reg false ybgi) (.block 0 (.seq (.reg false ybgm) (.cond (.tmp 21) (.seq (.reg false ydgw) .ret) (.seq (.reg false ybic) (.cond (.tmp 27) (.seq (.reg false ydfo) (.seq (.seq (.reg false yczb) (.block 1 (.range (.tmp 30) [31] (.reg false ycxe) (.block 2 (.seq (.reg true ycun) (.cond (.tmp 38) (.reg true ycuq) .skip)))))) (.seq (.reg false yctv) .ret))) (.seq (.reg false yvn) (.cond (.tmp 44) (.seq (.reg false ycwv) .ret) .skip)))))))) (.seq (.reg false yxj) .ret)))))
theorem ybsw:Fn 111 c111 [.t 8]:=fn_0 Tryz.func111 (by kernel_rfl) (by kernel_rfl)
def ycqs:LO:=[o3 (.mv (.const (.bool false))) 2 0]
def ycir:LO:=[mv' 0 3 0,o3 (.bin .geq (.tmp 3) (ci' 1)) 4 1,mv' 4 5 3,⟨.mv (.tmp 0),some 6,some (5,true),7⟩,⟨.bin .leq (.tmp 6) (ci' 4),some 7,some (5,true),15⟩,o3 (.pick (.tmp 5) (.tmp 7) (.const (.bool false))) 8 31,mv' 8 2 63]
def c108:SC:=(.seq (.reg false ycqs) (.seq (.reg false ycir) .ret))
theorem yctc:Fn 108 c108 [.t 2]:=fn_0 Tryz.func108 (by kernel_rfl) (by kernel_rfl)
def yciz:LO:=[o3 (.box 58 (.tmp 0)) 5 0,o3 (.box 27 (.tmp 1)) 6 0,o3 (.mv (ci' 0)) 10 0]
def ycnj:LO:=[ld' true 3 5 12 0,ld' true 2 6 13 0,mv' 3 14 0,cl' 112 [12,13,14] 15 7,mv' 15 11 15]
def ycja:LO:=[mv' 11 16 0,o3 (.bin .neq (.tmp 16) (ci' 0)) 17 1]
def yddp:LO:=[mv' 11 18 0,mv' 18 10 1]
def ycdu:LO:=[mv' 2 19 0,cl' 108 [19] 20 1,o3 (.un .not (.tmp 20)) 21 3]
def ydgo:LO:=[o3 (.mv (ci' 12)) 10 0]
def ycgz:LO:=[mv' 4 22 0,o3 (.bin .gtr (.tmp 22) (ci' 4096)) 23 1]
def ycys:LO:=[o3 (.mv (ci' 3)) 10 0]
def yciu:LO:=[o3 (.mv (ci' 0)) 10 0]
def c129:SC:=(.seq (.reg false yciz) (.seq (.seq (.reg false ycnj) (.seq (.reg false ycja) (.cond (.tmp 17) (.seq (.reg false yddp) .ret) .skip))) (.seq (.seq (.reg false ycdu) (.cond (.tmp 21) (.seq (.reg false ydgo) .ret) .skip)) (.seq (.seq (.reg false ycgz) (.cond (.tmp 23) (.seq (.reg false ycys) .ret) .skip)) (.seq (.reg false yciu) .ret)))))
theorem ycvs:Fn 129 c129 [.t 10]:=fn_0 Tryz.func129 (by kernel_rfl) (by kernel_rfl)
def ycjb:LO:=[o3 (.box 58 (.tmp 0)) 4 0,o3 (.box 27 (.tmp 1)) 5 0,o3 (.alloc 126 1 [.a (.pointer none),.a (.slice none 0 0),.i .i64 0,.i .u32 0,.a (.nilFunc)]) 8 0]
def ycpf:LO:=[ld' true 3 4 9 0,ld' true 2 5 10 0,cl' 93 [9,10] 11 3,ld' true 2 5 12 0,cl' 110 [12] 13 15,mv' 2 14 0,ld' true 2 5 15 0,cl' 109 [15] 16 95,mv' 3 17 0,o3 (.build [.a (.pointer none),.a (.slice none 0 0),.i .i64 0,.i .u32 0,.a (.nilFunc)] [(0,1,(.tmp 11)),(1,1,(.tmp 13)),(2,1,(.tmp 14)),(3,1,(.tmp 16)),(4,1,(.tmp 17))]) 18 511,o0 (.store 5 (.tmp 8) (.tmp 18)) 1023]
def c130:SC:=(.seq (.reg false ycjb) (.seq (.reg true ycpf) .ret))
theorem ybzm:FnM 130 c130 [.c 8 true 5]:=fn_m Tryz.func130 (by kernel_rfl) (by kernel_rfl)
def yceq:LO:=[o3 (.box 126 (.tmp 0)) 4 0,o3 (.alloc 130 1 [.a (.slice none 0 0),.a (.slice none 0 0),.a (.slice none 0 0),.i .i64 0,.i .i64 0,.i .i64 0,.i .i64 0,.i .u32 0]) 8 0,o3 (.mv (ci' 0)) 9 0]
def ycfn:LO:=[o3 (.alloc 130 1 [.a (.slice none 0 0),.a (.slice none 0 0),.a (.slice none 0 0),.i .i64 0,.i .i64 0,.i .i64 0,.i .i64 0,.i .u32 0]) 10 0]
def ycmu:LO:=[mv' 1 16 0,cl' 132 [16] 17 1,mv' 17 1 3]
def yclu:LO:=[fa' 0 1 4 18 0,ld' false 1 18 19 1,mv' 1 20 0,cl' 94 [19,20] 21 7,fa' 3 1 4 22 0,ld' false 1 22 23 16,bn' .and 21 23 24 63,mv' 24 11 127]
def ycds:LO:=[mv' 11 25 0,cl' 195 [25] 26 1,o3 (.alloc 48 1 [.i .i64 0,.i .i64 0,.i .i64 0,.i .i64 0,.i .u32 0]) 12 0,o0 (.store 5 (.tmp 12) (.tmp 26)) 7]
def ycip:LO:=[fa' 4 1 4 27 0,ld' false 1 27 28 1,mv' 1 29 0,mv' 11 30 0,ld' true 5 12 31 0,o3 (.call (.tmp 28) [(.tmp 29),(.tmp 30),(.tmp 31)]) 32 31]
def ycqk:LO:=[fa' 1 1 10 33 0,ld' false 1 33 34 1,mv' 11 35 0,o3 (.bslice 40 1 1 [.i .u32 0] [(0,1,(.tmp 35))]) 36 4,o3 (.app 40 1 4 (.tmp 34) (.tmp 36)) 37 15,fa' 1 1 10 38 31,o0 (.store 1 (.tmp 38) (.tmp 37)) 63]
def ycbv:LO:=[mv' 2 39 0,o3 (.mv (ci' 0)) 40 0]
def yclv:LO:=[bn' .lss 40 39 41 0]
def ycgr:LO:=[mv' 40 42 0,mv' 42 13 1]
def ybtq:LO:=[mv' 3 44 0,mv' 13 45 0,mv' 11 46 0,o3 (.call (.tmp 44) [(.tmp 45),(.tmp 46)]) 47 7,mv' 47 43 15,xt' 43 0 48 31,xt' 43 1 49 31,mv' 48 14 63,mv' 49 15 255]
def ybet:LO:=[mv' 15 50 0,o3 (.un .not (.tmp 50)) 51 1]
def ybpa:LO:=[fa' 1 1 4 52 0,ld' false 1 52 53 1,fa' 2 1 4 54 0,ld' false 1 54 55 4,mv' 11 56 0,mv' 14 57 0,cl' 196 [53,55,56,57] 58 63,o3 (.un .not (.tmp 58)) 59 127]
def ycxa:LO:=[o3 (.build [.a (.slice none 0 0),.a (.slice none 0 0),.a (.slice none 0 0),.i .i64 0,.i .i64 0,.i .i64 0,.i .i64 0,.i .u32 0] []) 60 0,o0 (.store 8 (.tmp 8) (.tmp 60)) 1,o3 (.mv (ci' 11)) 9 3]
def yboe:LO:=[fa' 0 1 4 61 0,ld' false 1 61 62 1,mv' 1 63 0,mv' 14 64 0,cl' 113 [62,63,64] 65 15,mv' 65 1 31]
def ybtp:LO:=[fa' 0 1 4 66 0,ld' false 1 66 67 1,mv' 1 68 0,cl' 94 [67,68] 69 7,fa' 3 1 4 70 0,ld' false 1 70 71 16,bn' .and 69 71 72 63,mv' 72 11 127]
def ybpu:LO:=[ld' true 5 12 74 0,mv' 14 75 0,mv' 11 76 0,cl' 197 [74,75,76] 77 7,mv' 77 73 15,xt' 73 0 78 31,xt' 73 1 79 31,o0 (.store 5 (.tmp 12) (.tmp 78)) 63]
def ybpo:LO:=[fa' 4 1 4 80 0,ld' false 1 80 81 1,mv' 1 82 0,mv' 11 83 0,ld' true 5 12 84 0,o3 (.call (.tmp 81) [(.tmp 82),(.tmp 83),(.tmp 84)]) 85 31]
def ybna:LO:=[fa' 0 1 10 86 0,ld' false 1 86 87 1,mv' 14 88 0,o3 (.bslice 40 1 1 [.i .u32 0] [(0,1,(.tmp 88))]) 89 4,o3 (.app 40 1 4 (.tmp 87) (.tmp 89)) 90 15,fa' 0 1 10 91 31,o0 (.store 1 (.tmp 91) (.tmp 90)) 63]
def ybty:LO:=[fa' 1 1 10 92 0,ld' false 1 92 93 1,mv' 11 94 0,o3 (.bslice 40 1 1 [.i .u32 0] [(0,1,(.tmp 94))]) 95 4,o3 (.app 40 1 4 (.tmp 93) (.tmp 95)) 96 15,fa' 1 1 10 97 31,o0 (.store 1 (.tmp 97) (.tmp 96)) 63]
def ybon:LO:=[o3 (.bin .add (.tmp 40) (ci' 1)) 98 0,mv' 98 40 1]
def ybbw:LO:=[mv' 1 99 0,ld' true 5 12 100 0,fa' 2 1 10 101 1,o0 (.store 1 (.tmp 101) (.tmp 99)) 5,fa' 3 5 10 102 15,o0 (.store 5 (.tmp 102) (.tmp 100)) 31]
def ybdd:LO:=[ld' true 8 10 103 0,o0 (.store 8 (.tmp 8) (.tmp 103)) 1,o3 (.mv (ci' 0)) 9 3]
def c168:SC:=(.seq (.reg false yceq) (.seq (.reg false ycfn) (.seq (.reg false ycmu) (.seq (.reg true yclu) (.seq (.reg false ycds) (.seq (.reg false ycip) (.seq (.reg false ycqk) (.seq (.seq (.reg false ycbv) (.block 0 (.loop (.seq (.reg false yclv) (.seq (.cond (.tmp 41) .skip (.exit 0)) (.seq (.block 1 (.seq (.reg false ycgr) (.seq (.reg false ybtq) (.seq (.seq (.reg false ybet) (.cond (.tmp 51) (.exit 0) .skip)) (.seq (.seq (.reg false ybpa) (.cond (.tmp 59) (.seq (.reg false ycxa) .ret) .skip)) (.seq (.reg false yboe) (.seq (.reg true ybtp) (.seq (.reg false ybpu) (.seq (.reg false ybpo) (.seq (.reg false ybna) (.reg false ybty))))))))))) (.reg false ybon))))))) (.seq (.reg true ybbw) (.seq (.reg false ybdd) .ret))))))))))
theorem ybxu:FnM 168 c168 [.c 8 true 8,.t 9]:=fn_m Tryz.func168 (by kernel_rfl) (by kernel_rfl)
def ycky:LO:=[o3 (.box 126 (.tmp 0)) 3 0,o3 (.box 38 (.tmp 2)) 5 0,o3 (.alloc 130 1 [.a (.slice none 0 0),.a (.slice none 0 0),.a (.slice none 0 0),.i .i64 0,.i .i64 0,.i .i64 0,.i .i64 0,.i .u32 0]) 6 0,o3 (.mv (ci' 0)) 7 0]
def yceg:LO:=[ld' true 5 3 8 0,mv' 1 9 0,ld' false 1 5 10 0,ln' 10 11 4,o3 (.mkfn 169 [] [(.tmp 3),(.tmp 5)]) 12 0,cl' 168 [8,9,11,12] 13 31,xt' 13 0 14 63,xt' 13 1 15 63,o0 (.store 8 (.tmp 6) (.tmp 14)) 255,mv' 15 7 511]
def c133:SC:=(.seq (.reg false ycky) (.seq (.reg false yceg) .ret))
theorem ybye:FnM 133 c133 [.c 6 true 8,.t 7]:=fn_m Tryz.func133 (by kernel_rfl) (by kernel_rfl)
def ybqz:LO:=[o3 (.mv (.const (.int .u32 0))) 6 0,o3 (.mv (.const (.bool false))) 7 1]
def ybui:LO:=[fa' 1 1 2 8 0,ld' false 1 8 9 1,fa' 2 1 2 10 0,ld' false 1 10 11 4,mv' 1 12 0,ld' false 1 3 13 0,mv' 0 14 0,ix' 1 13 14 15 96,ld' false 1 15 16 224,cl' 111 [9,11,12,16] 17 511,mv' 1 18 0,o3 (.bin .neq (.tmp 18) (.const (.int .u32 0))) 19 1024,mv' 17 6 1023,mv' 19 7 8191]
def c169:SC:=(.seq (.reg false ybqz) (.seq (.reg true ybui) .ret))
theorem ybpb:Fn 169 c169 [.t 6,.t 7]:=fn_0 Tryz.func169 (by kernel_rfl) (by kernel_rfl)
def ydaz:LO:=[o3 (.box 58 (.tmp 0)) 5 0,o3 (.box 27 (.tmp 1)) 6 0,o3 (.mv (.const (.slice none 0 0))) 10 0,o3 (.mv (.const (.slice none 0 0))) 11 4,o3 (.mv (ci' 0)) 12 12]
def ydgk:LO:=[ld' true 3 5 19 0,ld' true 2 6 20 0,mv' 2 21 0,mv' 3 22 0,mv' 4 23 0,ln' 23 24 16,cl' 129 [19,20,21,22,24] 25 63,mv' 25 13 127]
def yczg:LO:=[mv' 13 26 0,o3 (.bin .neq (.tmp 26) (ci' 0)) 27 1]
def ydjt:LO:=[mv' 13 28 0,o3 (.mv (.const (.slice none 0 0))) 10 0,o3 (.mv (.const (.slice none 0 0))) 11 2,mv' 28 12 7]
def ydcf:LO:=[o3 (.alloc 29 1 [.a (.slice none 0 0)]) 14 0]
def ydbf:LO:=[o3 (.alloc 30 1 [.a (.slice none 0 0)]) 15 0]
def ydar:LO:=[ld' true 3 5 29 0,ld' true 2 6 30 0,mv' 2 31 0,o3 (.mkfn 131 [] [(.tmp 14),(.tmp 15)]) 32 0,cl' 130 [29,30,31,32] 33 15,o3 (.alloc 126 1 [.a (.pointer none),.a (.slice none 0 0),.i .i64 0,.i .u32 0,.a (.nilFunc)]) 16 0,o0 (.store 5 (.tmp 16) (.tmp 33)) 63]
def ydaq:LO:=[ld' true 5 16 35 0,mv' 3 36 0,mv' 4 37 0,cl' 133 [35,36,37] 38 7,mv' 38 34 15,xt' 34 0 39 31,xt' 34 1 40 31,o3 (.alloc 130 1 [.a (.slice none 0 0),.a (.slice none 0 0),.a (.slice none 0 0),.i .i64 0,.i .i64 0,.i .i64 0,.i .i64 0,.i .u32 0]) 17 0,o0 (.store 8 (.tmp 17) (.tmp 39)) 191,mv' 40 18 511]
def ydcq:LO:=[mv' 18 41 0,o3 (.bin .neq (.tmp 41) (ci' 0)) 42 1]
def ydio:LO:=[mv' 18 43 0,o3 (.mv (.const (.slice none 0 0))) 10 0,o3 (.mv (.const (.slice none 0 0))) 11 2,mv' 43 12 7]
def ycre:LO:=[ld' false 1 14 44 0,ld' false 1 15 45 0,mv' 44 10 1,mv' 45 11 7,o3 (.mv (ci' 0)) 12 15]
def c78:SC:=(.seq (.reg false ydaz) (.seq (.seq (.reg false ydgk) (.seq (.reg false yczg) (.cond (.tmp 27) (.seq (.reg false ydjt) .ret) .skip))) (.seq (.reg false ydcf) (.seq (.reg false ydbf) (.seq (.reg false ydar) (.seq (.seq (.reg false ydaq) (.seq (.reg false ydcq) (.cond (.tmp 42) (.seq (.reg false ydio) .ret) .skip))) (.seq (.reg true ycre) .ret)))))))
theorem ycwe:FnU 78 c78 [.t 10,.t 11,.t 12]:=fn_u Tryz.func78 (by kernel_rfl) (by kernel_rfl)
def ybwg:LO:=[o3 (.box 48 (.tmp 2)) 7 0]
def ybnh:LO:=[ld' false 1 3 8 0,mv' 0 9 0,cl' 132 [9] 10 2,o3 (.bslice 34 1 1 [.a (.slice none 0 0)] [(0,1,(.tmp 10))]) 11 6,o3 (.app 34 1 24 (.tmp 8) (.tmp 11)) 12 15,o0 (.store 1 (.tmp 3) (.tmp 12)) 31]
def ybpl:LO:=[ld' false 1 4 13 0,ld' true 5 7 14 0,o3 (.bslice 48 5 1 [.i .i64 0,.i .i64 0,.i .i64 0,.i .i64 0,.i .u32 0] [(0,5,(.tmp 14))]) 15 2,o3 (.app 48 5 40 (.tmp 13) (.tmp 15)) 16 7,o0 (.store 1 (.tmp 4) (.tmp 16)) 15]
def c131:SC:=(.seq (.reg false ybwg) (.seq (.reg true ybnh) (.reg false ybpl)))
theorem ybgj:FnM 131 c131 []:=fn_m Tryz.func131 (by kernel_rfl) (by kernel_rfl)
end Sh
end Go.Proofs.YtiejahgklcjhkaaGreatDoor

namespace Go.Proofs.YtiejahgklcjhkaaGreatDoor
namespace Sh
open Go Ev
theorem mulB{a b:Int}(ha:InB a)(hb:InB b):-1152921504606846976<=a * b/\a * b<=1152921504606846976:=by
 unfold InB at *
 have h:(a * b).natAbs<=1073741824 * 1073741824:=by
  rw[Int.natAbs_mul];exact Nat.mul_le_mul (by omega) (by omega)
 omega
set_option maxRecDepth 8000

theorem ydk(b:Bool):Returns Tryz.prog 256 [.b b] (.i .i64 (yer b)):=by
 refine Returns.of (ycuu _ _ ?_);simp only[c256,ycoa,ycbt,ycrg,yclq,yw,yer,go_sem,↓reduceIte,reduceCtorEq];cases b<;>simp
theorem ycy(a:Int):Returns Tryz.prog 258 [.i .i64 a] (.i .i64 (satP a)):=by
 refine Returns.of (ycux _ _ ?_);simp only[c258,yccl,ycrq,yw,satP,go_sem,Nat.reduceEqDiff,Nat.reduceAdd,↓reduceIte,reduceCtorEq]
theorem yddz{a b:Int}(ha:InB a):-1073741824<=a.tdiv b/\a.tdiv b<=1073741824:=by
 have h1:(a.tdiv b).natAbs=a.natAbs / b.natAbs:=Int.natAbs_tdiv a b;have h2:a.natAbs / b.natAbs<=a.natAbs:=Nat.div_le_self _ _;rw[<- h1]at h2;unfold InB at ha;omega
theorem ycbr{a b:Int}(ha:InB a):-1073741825<=ysy a b/\ysy a b<=1073741824:=by
 have:=yddz (b:=b) ha;unfold ysy;split
 ·omega
 ·split<;>omega
theorem ybuo{a b:Int}(ha:InB a)(hb:InB b):-1152921505680588800<=b * ysy a b/\b * ysy a b<=1152921505680588800:=by
 have h1:=ycbr (b:=b) ha
 have h:(b * ysy a b).natAbs<=1073741824 * 1073741825:=by
  unfold InB at *;rw[Int.natAbs_mul];exact Nat.mul_le_mul (by omega) (by omega)
 omega
theorem ybvq(op a:Int)(ha:InB a):Returns Tryz.prog 237 [.i .i64 op,.i .i64 a] (.i .i64 (unP op a)):=by
 refine Returns.of (ycrz _ _ ?_);simp only[c237,ycjm,ycpl,ycev,yceo,yw,unP,IntKind.signed,go_sem,Nat.reduceEqDiff,Nat.reduceAdd,↓reduceIte,reduceCtorEq];unfold InB at ha;refine⟨fun h=>⟨ikw (by omega) (by omega),by rw[if_pos h];omega⟩,fun h=>(ydk _).use ?_⟩
 simp only[thenO,yw,go_sem,Nat.reduceEqDiff,Nat.reduceAdd,↓reduceIte,reduceCtorEq];rw[if_neg h]
theorem ynt(a b:Int)(ha:InB a):Returns Tryz.prog 259 [.i .i64 a,.i .i64 b] (.i .i64 (ysy a b)):=by
 refine Returns.of (ycxn _ _ ?_);simp only[c259,ycfr,ycpe,ycfu,yckn,ycrp,ycpo,ycdj,yw,ysy,go_sem,Nat.reduceEqDiff,Nat.reduceAdd,↓reduceIte,reduceCtorEq];have:=yddz (b:=b) ha;refine⟨fun h=>by rw[if_pos h],fun h=>⟨⟨h,ikw (by omega) (by omega)⟩,h,fun h1=>⟨fun h2=>⟨ikw (by omega) (by omega),?_⟩,fun h2=>?_⟩,fun h1=>?_⟩⟩
 ·rw[if_neg h,if_pos ⟨h1,h2⟩]
 ·rw[if_neg h,if_neg (fun q=>q.2 h2)]
 ·rw[if_neg h,if_neg (fun q=>q.1 h1)]
theorem yze(op a b:Int):Returns Tryz.prog 260 [.i .i64 op,.i .i64 a,.i .i64 b] (.b (cmpP op a b)):=by
 refine Returns.of (ycwk _ _ ?_);simp only[c260,ychj,ycfa,ycjf,ycrt,ycpv,ycmw,ycdx,ycph,ycow,ycei,ybub,ybmd,ybtm,sim_b,cmpP,go_sem,Nat.reduceEqDiff,Nat.reduceAdd,↓reduceIte,reduceCtorEq];refine⟨fun h=>by rw[if_pos h],fun h35=>⟨fun h=>by rw[if_neg h35,if_pos h],fun h36=>⟨fun h=>by rw[if_neg h35,if_neg h36,if_pos h],fun h37=>⟨fun h=>by rw[if_neg h35,if_neg h36,if_neg h37,if_pos h],fun h38=>⟨fun h=>by rw[if_neg h35,if_neg h36,if_neg h37,if_neg h38,if_pos h],fun h39=>by rw[if_neg h35,if_neg h36,if_neg h37,if_neg h38,if_neg h39]⟩⟩⟩⟩⟩
theorem ybjl(op a b:Int)(ha:InB a)(hb:InB b):Returns Tryz.prog 239 [.i .i64 op,.i .i64 a,.i .i64 b] (.i .i64 (binP op a b)):=by
 refine Returns.of (ycug _ _ ?_);simp only[c239,ycrk,yclh,ycnu,ycgw,yces,ycnw,ycni,ycjn,yceu,ycqw,ybvy,ybmv,ybrp,ybnb,ybnn,ybwj,yboc,ybso,ybpv,yw,go_sem,Nat.reduceEqDiff,Nat.reduceAdd,↓reduceIte,reduceCtorEq];have hm:=mulB ha hb;have hq:=ybuo ha hb;have hA:=ha;have hB:=hb;unfold InB at hA hB;refine⟨fun h=>⟨ikw (by omega) (by omega),(ycy _).use ?_⟩,fun h30=>⟨fun h=>(ynt a b ha).use ?_,fun h31=>⟨fun h=>⟨fun h0=>?_,fun h0=>(ynt a b ha).use ?_⟩,fun h32=>⟨fun h=>⟨ikw (by omega) (by omega),(ycy _).use ?_⟩,fun h33=>⟨fun h=>⟨ikw (by omega) (by omega),(ycy _).use ?_⟩,fun h34=>?_⟩⟩⟩⟩⟩
 ·simp only[thenO,yw,go_sem,Nat.reduceEqDiff,Nat.reduceAdd,↓reduceIte,reduceCtorEq];simp[binP,h]
 ·simp only[thenO,go_sem,Nat.reduceEqDiff,Nat.reduceAdd,↓reduceIte,reduceCtorEq];refine(ycy _).use ?_;simp only[yw,go_sem];simp[binP,h]
 ·simp[binP,h,h0]
 ·simp only[thenO,go_sem,Nat.reduceEqDiff,Nat.reduceAdd,↓reduceIte,reduceCtorEq];refine⟨ikw (by omega) (by omega),ikw (by omega) (by omega),(ycy _).use ?_⟩
  simp only[yw,go_sem];simp[binP,h,h0]
 ·simp only[thenO,yw,go_sem,Nat.reduceEqDiff,Nat.reduceAdd,↓reduceIte,reduceCtorEq];simp[binP,h]
 ·simp only[thenO,yw,go_sem,Nat.reduceEqDiff,Nat.reduceAdd,↓reduceIte,reduceCtorEq];simp[binP,h]
 ·refine⟨fun h=>?_,fun h41=>⟨fun h=>?_,fun h42=>?_⟩⟩
  ·refine⟨fun h1=>(ydk _).use ?_,fun h1=>(ydk _).use ?_⟩
   ·simp only[thenO,yw,go_sem,Nat.reduceEqDiff,Nat.reduceAdd,↓reduceIte,reduceCtorEq];simp[binP,h];rw[show(a != 0)=true by simpa using h1];simp
   ·simp only[thenO,yw,go_sem,Nat.reduceEqDiff,Nat.reduceAdd,↓reduceIte,reduceCtorEq];simp[binP,h,h1]
  ·refine⟨fun h1=>(ydk _).use ?_,fun h1=>(ydk _).use ?_⟩
   ·simp only[thenO,yw,go_sem,Nat.reduceEqDiff,Nat.reduceAdd,↓reduceIte,reduceCtorEq];simp[binP,h,h1]
   ·simp only[thenO,yw,go_sem,Nat.reduceEqDiff,Nat.reduceAdd,↓reduceIte,reduceCtorEq];simp[binP,h];rw[show(a != 0)=true by simpa using h1];simp
  ·refine(yze op a b).use ?_;simp only[thenO,go_sem,Nat.reduceEqDiff,Nat.reduceAdd,↓reduceIte,reduceCtorEq];refine(ydk _).use ?_;simp only[yw,go_sem];simp[binP,h30,h31,h32,h33,h34,h41,h42]
end Sh
end Go.Proofs.YtiejahgklcjhkaaGreatDoor

namespace Go.Proofs.YtiejahgklcjhkaaGreatDoor
namespace Sh
open Go Ev
set_option maxRecDepth 8000

theorem yqj{l:List Int}{k:Nat}(h:k<l.length):countP (l.take (k+1))=countP (l.take k)+(if l.getD k 0 ≠ 0 then 1 else 0):=by
 unfold countP;rw[List.take_succ_eq_append_getElem h,List.filter_append,List.length_append,getD_at h]
 by_cases q:l[k]=0
 ·simp[q]
 ·simp[q]
theorem ybfh{l:List Int}(k:Nat):0<=countP (l.take k)/\countP (l.take k)<=k:=by
 have:=countP_le (l.take k);simp only[List.length_take]at this;omega
theorem ybsi(l:List Int)(hl:l.length<=1000):Returns Tryz.prog 266 [yj l] (.i .i64 (countP l)):=by
 refine Returns.of (ycws _ _ ?_);simp only[c266,ycpw,yckc,ycqx,yj,go_sem,Nat.reduceAdd,↓reduceIte,reduceCtorEq];refine ybd (σ:=Nat) (fun k=>⟨[(8,.i .i64 k),(3,.i .i64 (countP (l.take k))),(6,yj l),(7,.i .i64 l.length)],[]⟩) (fun k=>k<=l.length) (fun k=>l.length - k) 0 (Nat.zero_le _) ?_ ?_
 ·refine yg [] [] [] ?_;simp only[yj,allQ,live,yc,yw,Int.natCast_zero,go_sem,Nat.reduceEqDiff,↓reduceIte,reduceCtorEq];simp[countP]
 ·intro k hk;simp only[ychd,yclt,ycha,ycou,ycfm,ycnr,yj,yw,go_sem,Nat.reduceEqDiff,Nat.reduceAdd,↓reduceIte,reduceCtorEq];have hb:=ybfh (l:=l) k;refine⟨fun hlt=>⟨by omega,fun h0=>⟨ikw (by omega) (by omega),ikw (by omega) (by omega),?_⟩,fun h0=>⟨ikw (by omega) (by omega),?_⟩⟩,fun hlt=>?_⟩
  ·have hk':k<l.length:=by omega
   refine yh (k+1) (by omega) (by omega) ?_
   refine yg [] [] [] ?_;simp only[yqj hk',if_pos h0,allQ,live,yc,yw,go_sem,Nat.reduceEqDiff,↓reduceIte,reduceCtorEq];simp
  ·have hk':k<l.length:=by omega
   refine yh (k+1) (by omega) (by omega) ?_
   refine yg [] [] [] ?_;simp only[yqj hk',if_neg (not_not_intro h0),allQ,live,yc,yw,go_sem,Nat.reduceEqDiff,↓reduceIte,reduceCtorEq];simp
  ·rw[List.take_of_length_le (by omega)]
theorem ynz{l:List Int}{k:Nat}(h:k<l.length):yco (l.take (k+1))=(if l.getD k 0 > (yco (l.take k)).1 then(l.getD k 0,(yco (l.take k)).1)else((yco (l.take k)).1,max (yco (l.take k)).2 (l.getD k 0))):=by
 unfold yco;rw[List.take_succ_eq_append_getElem h,List.foldl_append,getD_at h];rfl
theorem ysi(l:List Int)(hl:l.length<=1000):Returns Tryz.prog 269 [yj l] (.tp [.i .i64 (yco l).1,.i .i64 (yco l).2]):=by
 refine Returns.of (ycts _ _ ?_);simp only[c269,yckh,ycnx,ycot,yj,go_sem,Nat.reduceAdd,↓reduceIte,reduceCtorEq];refine ybd (σ:=Nat) (fun k=>⟨[(8,.i .i64 k),(2,.i .i64 (yco (l.take k)).1),(3,.i .i64 (yco (l.take k)).2),(6,yj l),(7,.i .i64 l.length)],[]⟩) (fun k=>k<=l.length) (fun k=>l.length - k) 0 (Nat.zero_le _) ?_ ?_
 ·refine yg [] [] [] ?_;simp only[yj,allQ,live,yc,yw,Int.natCast_zero,go_sem,Nat.reduceEqDiff,↓reduceIte,reduceCtorEq];simp[yco]
 ·intro k hk;simp only[ycmj,ycby,yclm,ycif,yccr,ycns,ycmo,yj,go_sem,Nat.reduceEqDiff,Nat.reduceAdd,↓reduceIte,reduceCtorEq];refine⟨fun hlt=>⟨by omega,fun h0=>⟨ikw (by omega) (by omega),?_⟩,fun h0=>⟨ikw (by omega) (by omega),?_⟩⟩,fun hlt=>?_⟩
  ·have hk':k<l.length:=by omega
   refine yh (k+1) (by omega) (by omega) ?_
   refine yg [] [] [] ?_;simp only[ynz hk',if_pos h0,allQ,live,yc,yw,go_sem,Nat.reduceEqDiff,↓reduceIte,reduceCtorEq];simp
  ·have hk':k<l.length:=by omega
   refine yh (k+1) (by omega) (by omega) ?_
   refine yg [] [] [] ?_;simp only[ynz hk',if_neg h0,allQ,live,yc,yw,go_sem,Nat.reduceEqDiff,↓reduceIte,reduceCtorEq];simp
  ·rw[List.take_of_length_le (by omega)]
   exact Sim.refl _
theorem yzk(l:List Int)(x:Int)(hl:l.length<=100000):Returns Tryz.prog 274 [yj l,.i .i64 x] (.b (l.elem x)):=by
 refine Returns.of (ycru _ _ ?_);simp only[c274,ycrb,ycnf,yj,go_sem,Nat.reduceEqDiff,Nat.reduceAdd,↓reduceIte,reduceCtorEq];refine(ybvl l x hl).use ?_;simp only[thenO,sim_b,go_sem,Nat.reduceEqDiff,Nat.reduceAdd,↓reduceIte,reduceCtorEq];unfold idxP;cases h:l.findIdx? (fun y=>x == y)with
 | none =>
  rw[List.findIdx?_eq_none_iff]at h
  have:l.elem x=false:=by
   rw[List.elem_eq_mem,decide_eq_false_iff_not];intro hm;have:=h x hm;simp at this
  rw[this];simp
 | some i =>
  obtain⟨h1,h2,_⟩:=List.findIdx?_eq_some_iff_getElem.1 h
  have:l.elem x=true:=by
   rw[List.elem_eq_mem,decide_eq_true_eq];have:x=l[i]:=by simpa using h2
   rw[this];exact List.getElem_mem h1
  rw[this];simp
theorem ybkf{l:List Int}{n:Nat}{r:Int}(h:l.elem r=true):ysv l (n+1) r=ysv l n (r+1):=by
 show(if l.elem r then _ else _)=_;rw[if_pos h]
theorem ybku{l:List Int}{n:Nat}{r:Int}(h:l.elem r=false):ysv l n r=r:=by
 cases n with
 | zero=>rfl
 | succ n=>show(if l.elem r then _ else _)=_;rw[if_neg (by rw[h];simp)]
theorem yzm{l:List Int}{k:Nat}(h:∀ j:Nat,j<k->l.elem (j:Int)=true):k<=l.length:=by
 have h1:((List.range k).map fun(j:Nat)=>(j:Int)).Nodup:=by
  rw[List.Nodup,List.pairwise_map];exact List.nodup_range.imp fun {a b} hab e=>hab (by omega)
 have h2:((List.range k).map fun(j:Nat)=>(j:Int)) ⊆ l:=fun x hx=>by
  obtain⟨j,hj,rfl⟩:=List.mem_map.1 hx;have:=h j (List.mem_range.1 hj)
  simpa using this
 have:=List.Nodup.length_le_of_subset h1 h2
 simpa using this
theorem ycsj(l:List Int)(hl:l.length<=1000):Returns Tryz.prog 270 [yj l] (.i .i64 (mexP l)):=by
 refine Returns.of (ycvk _ _ ?_);simp only[c270,ycjx,ycck,yj,go_sem];refine ybd (σ:=Nat) (fun k=>⟨[(3,.i .i64 k),(0,yj l)],[]⟩) (fun k=>(∀ j:Nat,j<k->l.elem (j:Int)=true)/\mexP l=ysv l (l.length+1 - k) k) (fun k=>l.length+1 - k) 0 ⟨fun j h=>absurd h (Nat.not_lt_zero _),rfl⟩ ?_ ?_
 ·refine yg [] [] [] ?_;simp only[yj,allQ,live,yc,Int.natCast_zero,go_sem,↓reduceIte,reduceCtorEq]
 ·intro k ⟨hk,he⟩;have hb:=yzm hk;simp only[ycdg,ycek,ycpq,yj,go_sem,Nat.reduceEqDiff,Nat.reduceAdd,↓reduceIte,reduceCtorEq];refine(yzk l k (by omega)).use ?_
  simp only[thenO,yw,go_sem,Nat.reduceEqDiff,Nat.reduceAdd,↓reduceIte,reduceCtorEq];refine⟨fun h=>⟨ikw (by omega) (by omega),?_⟩,fun h=>?_⟩
  ·have hk2:∀ j:Nat,j<k+1->l.elem (j:Int)=true:=fun j hj=>by
    by_cases q:j<k
    ·exact hk j q
    ·obtain rfl:j=k:=by omega
     exact h
   have hb2:=yzm hk2;refine yh (k+1) ⟨hk2,?_⟩ (by omega) ?_
   ·rw[he,show l.length+1 - k=(l.length+1 - (k+1))+1 by omega,ybkf h];simp
   ·refine yg [] [] [] ?_;simp only[allQ,live,yc,yw,go_sem,↓reduceIte,reduceCtorEq];simp
  ·rw[he,ybku h]
theorem ybuw(x:Int):Returns Tryz.prog 268 [.i .i64 x] (.b (x != 0)):=by
 refine Returns.of (ycuz _ _ ?_);simp only[c268,yckm,yccp,sim_b,go_sem,Nat.reduceEqDiff,Nat.reduceAdd,↓reduceIte,reduceCtorEq]
theorem yxc(l:List Int)(hl:l.length<=1000):Returns Tryz.prog 267 [yj l,.fn 268 [] []] (.i .i64 (yep l)):=by
 refine Returns.of (ycwz _ _ ?_);simp only[c267,ycjc,ycgq,yj,go_sem,Nat.reduceAdd,↓reduceIte,reduceCtorEq];refine ybd (σ:=Nat) (fun k=>⟨[(8,.i .i64 k),(0,yj l),(1,.fn 268 [] []),(7,.i .i64 l.length)],[]⟩) (fun k=>k<=l.length/\(l.take k).findIdx? (· != 0)=none) (fun k=>l.length - k) 0 ⟨Nat.zero_le _,by simp⟩ ?_ ?_
 ·refine yg [] [] [] ?_;simp only[yj,allQ,live,yc,Int.natCast_zero,go_sem,Nat.reduceEqDiff,↓reduceIte,reduceCtorEq]
 ·intro k ⟨hk,hno⟩;simp only[ycen,ycmf,ycqh,ycri,ycfq,ycgs,yj,yw,go_sem,Nat.reduceEqDiff,Nat.reduceAdd,↓reduceIte,reduceCtorEq];refine⟨fun hlt=>⟨by omega,(ybuw _).use ?_⟩,fun hlt=>?_⟩
  ·have hlt:k<l.length:=by omega
   simp only[thenO,yw,go_sem,Nat.reduceEqDiff,Nat.reduceAdd,↓reduceIte,reduceCtorEq];rw[getD_at hlt];refine⟨fun ha=>?_,fun ha=>⟨ikw (by omega) (by omega),?_⟩⟩
   ·have:l.findIdx? (· != 0)=some k:=by
     rw[List.findIdx?_eq_some_iff_getElem];refine⟨hlt,by simpa using ha,fun j hj=>?_⟩
     rw[List.findIdx?_eq_none_iff]at hno;have:=hno l[j] (List.mem_take_iff_getElem.2 ⟨j,by omega,rfl⟩)
     simpa using this
    unfold yep;rw[this]
   ·refine yh (k+1) ⟨by omega,?_⟩ (by omega) ?_
    ·rw[List.take_succ_eq_append_getElem hlt,List.findIdx?_append,hno];simp[ha]
    ·refine yg [] [] [] ?_;simp only[allQ,live,yc,yw,go_sem,Nat.reduceEqDiff,↓reduceIte,reduceCtorEq];simp
  ·obtain rfl:k=l.length:=by omega
   rw[List.take_length]at hno;unfold yep;rw[hno]
end Sh
end Go.Proofs.YtiejahgklcjhkaaGreatDoor

namespace Go.Proofs.YtiejahgklcjhkaaGreatDoor
namespace Sh
open Go Ev
set_option maxRecDepth 8000

theorem ybby{l:List Int}{k:Nat}(h:k<l.length):ynk (l.take (k+1))=min (ynk (l.take k)) (l.getD k 0):=by
 unfold ynk;rw[List.take_succ_eq_append_getElem h,List.foldl_append,getD_at h];rfl
theorem yvu{l:List Int}{k:Nat}(h:k<l.length):(l.take (k+1)).sum=(l.take k).sum+l.getD k 0:=by
 rw[List.take_succ_eq_append_getElem h,List.sum_append,getD_at h];simp
theorem ybrc{l:List Int}(h:∀ x ∈ l,InB x):∀ k,k<=l.length -> -1073741824 * (k:Int)<=(l.take k).sum/\(l.take k).sum<=1073741824 * (k:Int)
 | 0,_=>by simp
 | k+1,hk=>by
  have ih:=ybrc h k (by omega)
  rw[yvu (by omega)]
  have:=h l[k] (List.getElem_mem (by omega))
  rw[<- getD_at (d:=0) (show k<l.length by omega)]at this
  unfold InB at this;omega
theorem ybyp(op:Int)(l:List Int)(hl:l.length<=24)(hb:∀ x ∈ l,InB x):Returns Tryz.prog 257 [.i .i64 op,yj l] (.i .i64 (yhd op l)):=by
 refine Returns.of (ycuj _ _ ?_);have hin:∀ k,k<l.length->InB (l.getD k 0):=fun k hk=>by rw[getD_at hk];exact hb _ (List.getElem_mem hk)
 obtain⟨L,hL⟩:∃ L,yj l=L:=⟨_,rfl⟩;have hLs:L = .sl 1 l.length (fun k=>[.i .i64 (l.getD k 0)]):=hL.symm;simp only[c257,ycct,ycef,ycof,ycla,ycer,ycgy,yclk,ycid,ycjw,ycnn,ybqv,ybwh,ybqm,ybne,ybqr,ybtt,ybsu,ybti,ybvx,ybpt,ybrz,ybsr,ybps,ybtw,ybst,ybpn,ybte,ybvu,ybvj,ybto,yboa,ybrk,ybmg,ybrw,ybwn,ybnc,ybwd,yj,go_sem,Int.reduceToNat,Nat.reduceEqDiff,Nat.reduceAdd,↓reduceIte,reduceCtorEq]
 have hcount:=ybsi l (by omega)
 have htwo:=ysi l (by omega)
 simp only[yj]at hcount htwo;refine⟨fun h20=>hcount.use ?_,fun h20=>⟨fun h21=>hcount.use ?_,fun h21=>⟨fun h22=>hcount.use ?_,fun h22=>⟨fun h23=>?_,fun h23=>⟨fun h24=>?_,fun h24=>⟨fun h25=>htwo.use ?_,fun h25=>⟨fun h26=>?_,fun h26=>⟨fun h27=>?_,fun h27=>⟨fun h28=>htwo.use ?_,fun h28=>?_⟩⟩⟩⟩⟩⟩⟩⟩⟩
 ·simp only[thenO,go_sem,Nat.reduceEqDiff,Nat.reduceAdd,↓reduceIte,reduceCtorEq];refine(ydk _).use ?_;simp only[yw,go_sem];simp[yhd,h20]
 ·simp only[thenO,go_sem,Nat.reduceEqDiff,Nat.reduceAdd,↓reduceIte,reduceCtorEq];refine(ydk _).use ?_;simp only[yw,go_sem];simp[yhd,h21]
 ·simp only[thenO,yw,go_sem,Nat.reduceEqDiff,Nat.reduceAdd,↓reduceIte,reduceCtorEq];simp[yhd,h22]
 ·have:=yxc l (by omega)
  simp only[yj]at this;refine this.use ?_;simp only[thenO,yw,go_sem,Nat.reduceEqDiff,Nat.reduceAdd,↓reduceIte,reduceCtorEq];simp[yhd,h23]
 ·refine ybd (σ:=Nat) (fun k=>⟨[(42,.i .i64 k),(5,.i .i64 (ynk (l.take k))),(40,yj l),(41,.i .i64 l.length)],[]⟩) (fun k=>k<=l.length) (fun k=>l.length - k) 0 (Nat.zero_le _) ?_ ?_
  ·refine yg [] [] [] ?_;simp only[yj,allQ,live,yc,yw,Int.natCast_zero,go_sem,Nat.reduceEqDiff,↓reduceIte,reduceCtorEq];simp[ynk]
  ·intro k hk;simp only[yj,yw,go_sem,Nat.reduceEqDiff,Nat.reduceAdd,↓reduceIte,reduceCtorEq];refine⟨fun hlt=>⟨by omega,ikw (by omega) (by omega),?_⟩,fun hlt=>?_⟩
   ·have hk':k<l.length:=by omega
    refine yh (k+1) (by omega) (by omega) ?_
    refine yg [] [] [] ?_;simp only[ybby hk',allQ,live,yc,yw,go_sem,Nat.reduceEqDiff,↓reduceIte,reduceCtorEq];simp
   ·rw[List.take_of_length_le (by omega)]
    simp[yhd,h24]
 ·simp only[thenO,yw,go_sem,Nat.reduceEqDiff,Nat.reduceAdd,↓reduceIte,reduceCtorEq];simp[yhd,h25]
 ·refine ybd (σ:=Nat) (fun k=>⟨[(63,.i .i64 k),(10,.i .i64 (l.take k).sum),(61,yj l),(62,.i .i64 l.length)],[]⟩) (fun k=>k<=l.length) (fun k=>l.length - k) 0 (Nat.zero_le _) ?_ ?_
  ·refine yg [] [] [] ?_;simp only[yj,allQ,live,yc,yw,Int.natCast_zero,go_sem,Nat.reduceEqDiff,↓reduceIte,reduceCtorEq];simp
  ·intro k hk;simp only[yj,go_sem,Nat.reduceEqDiff,Nat.reduceAdd,↓reduceIte,reduceCtorEq];have hs:=ybrc hb k hk;refine⟨fun hlt=>?_,fun hlt=>(ycy _).use ?_⟩
   ·have hk':k<l.length:=by omega
    have hs2:=ybrc hb (k+1) hk';rw[yvu hk']at hs2;refine⟨by omega,ikw (by omega) (by omega),ikw (by omega) (by omega),?_⟩
    refine yh (k+1) (by omega) (by omega) ?_
    refine yg [] [] [] ?_;simp only[yvu hk',allQ,live,yc,yw,go_sem,Nat.reduceEqDiff,↓reduceIte,reduceCtorEq];simp
   ·simp only[thenO,yw,go_sem,Nat.reduceEqDiff,Nat.reduceAdd,↓reduceIte,reduceCtorEq];rw[List.take_of_length_le (by omega)]
    simp[yhd,h26]
 ·have:=ycsj l (by omega)
  simp only[yj]at this;refine this.use ?_;simp only[thenO,yw,go_sem,Nat.reduceEqDiff,Nat.reduceAdd,↓reduceIte,reduceCtorEq];simp[yhd,h27]
 ·simp only[thenO,yw,go_sem,Nat.reduceEqDiff,Nat.reduceAdd,↓reduceIte,reduceCtorEq];simp[yhd,h28]
 ·refine⟨fun h0=>?_,fun h0=>⟨by omega,?_⟩⟩
  ·simp only[yw,go_sem];have:l = []:=List.eq_nil_of_length_eq_zero (by omega)
   simp[yhd,h20,h21,h22,h23,h24,h25,h26,h27,h28,this]
  ·cases l with
   | nil=>simp at h0
   | cons x l=>
    simp only[yw,go_sem];simp[yhd,h20,h21,h22,h23,h24,h25,h26,h27,h28]
end Sh
end Go.Proofs.YtiejahgklcjhkaaGreatDoor

namespace Go.Proofs.YtiejahgklcjhkaaGreatDoor
def Ex.shp:Ex->Bool
 | .leaf op _=>decide (1<=op/\op<=17)
 | .un op a=>decide (18<=op/\op<=29) && a.shp
 | .agg op a=>decide (18<=op/\op<=29) && a.shp
 | .bin op a b=>decide (30<=op/\op<=42) && a.shp && b.shp
 | .ite x a b=>x.shp && a.shp && b.shp
theorem Ex.ok_shp{nv:Int}:∀ (x:Ex) {bnd:Bool},x.ok nv bnd=true->x.shp=true
 | .leaf op arg,bnd,h=>by
  simp only[Ex.ok,Bool.and_eq_true]at h;exact h.1.1
 | .un op a,bnd,h=>by
  simp only[Ex.ok,Bool.and_eq_true,decide_eq_true_eq]at h;simp only[Ex.shp,Bool.and_eq_true,decide_eq_true_eq];exact⟨by omega,Ex.ok_shp a h.2⟩
 | .agg op a,bnd,h=>by
  simp only[Ex.ok,Bool.and_eq_true,decide_eq_true_eq]at h;simp only[Ex.shp,Bool.and_eq_true,decide_eq_true_eq];exact⟨by omega,Ex.ok_shp a h.2⟩
 | .bin op a b,bnd,h=>by
  simp only[Ex.ok,Bool.and_eq_true,decide_eq_true_eq]at h;simp only[Ex.shp,Bool.and_eq_true,decide_eq_true_eq];exact⟨⟨h.1.1,Ex.ok_shp a h.1.2⟩,Ex.ok_shp b h.2⟩
 | .ite x a b,bnd,h=>by
  simp only[Ex.ok,Bool.and_eq_true]at h;simp only[Ex.shp,Bool.and_eq_true];exact⟨⟨Ex.ok_shp x h.1.1,Ex.ok_shp a h.1.2⟩,Ex.ok_shp b h.2⟩
def yjs(op:Int):Int:=if op<1\/op > 43 then -1 else if op<=17 then 0 else if op<=29 then 1 else if op<=42 then 2 else 3
def serL(ts:List Ex):List Tm:=(ts.map Ex.ser).flatten
def Ex.head:Ex->Tm
 | .leaf op arg=>(op,arg)
 | .un op _=>(op,0)
 | .agg op _=>(op,0)
 | .bin op _ _=>(op,0)
 | .ite _ _ _=>(43,0)
def Ex.subs:Ex->List Ex
 | .leaf _ _=>[]
 | .un _ a=>[a]
 | .agg _ a=>[a]
 | .bin _ a b=>[a,b]
 | .ite x a b=>[x,a,b]
theorem Ex.ser_eq(x:Ex):x.ser=x.head :: serL x.subs:=by
 cases x<;>simp[Ex.ser,Ex.head,Ex.subs,serL]
theorem ycaj{op:Int}(h:1<=op/\op<=17):yjs op=0:=by
 unfold yjs;rw[if_neg (by omega),if_pos (by omega)]
theorem ybfp{op:Int}(h:18<=op/\op<=29):yjs op=1:=by
 unfold yjs;rw[if_neg (by omega),if_neg (by omega),if_pos (by omega)]
theorem ycam{op:Int}(h:30<=op/\op<=42):yjs op=2:=by
 unfold yjs;rw[if_neg (by omega),if_neg (by omega),if_neg (by omega),if_pos (by omega)]
theorem Ex.arity(x:Ex)(h:x.shp=true):yjs x.head.1=x.subs.length:=by
 cases x with
 | leaf op arg=>simp only[Ex.shp,decide_eq_true_eq]at h;exact ycaj h
 | un op a=>simp only[Ex.shp,Bool.and_eq_true,decide_eq_true_eq]at h;exact ybfp h.1
 | agg op a=>simp only[Ex.shp,Bool.and_eq_true,decide_eq_true_eq]at h;exact ybfp h.1
 | bin op a b=>simp only[Ex.shp,Bool.and_eq_true,decide_eq_true_eq]at h;exact ycam h.1.1
 | ite x a b=>simp[Ex.head,Ex.subs,yjs]
theorem Ex.subs_shp(x:Ex)(h:x.shp=true):∀ y ∈ x.subs,y.shp=true:=by
 cases x with
 | leaf op arg=>intro y hy;cases hy
 | un op a=>simp only[Ex.shp,Bool.and_eq_true]at h;intro y hy;simp[Ex.subs]at hy;subst hy;exact h.2
 | agg op a=>simp only[Ex.shp,Bool.and_eq_true]at h;intro y hy;simp[Ex.subs]at hy;subst hy;exact h.2
 | bin op a b=>simp only[Ex.shp,Bool.and_eq_true]at h;intro y hy;simp[Ex.subs]at hy;rcases hy with rfl | rfl<;>first | exact h.1.2 | exact h.2
 | ite x a b=>simp only[Ex.shp,Bool.and_eq_true]at h;intro y hy;simp[Ex.subs]at hy;rcases hy with rfl | rfl | rfl<;>first | exact h.1.1 | exact h.1.2 | exact h.2
theorem ydz{e:List Tm}{at_:Nat}{t:Tm}{r:List Tm}(h:e.drop at_=t :: r):at_<e.length/\e.getD at_ (0,0)=t/\e.drop (at_+1)=r:=by
 have hlt:at_<e.length:=by
  refine Classical.byContradiction fun hc=>?_;rw[List.drop_of_length_le (by omega)]at h;cases h
 refine⟨hlt,?_,?_⟩
 ·rw[List.drop_eq_getElem_cons hlt]at h;simp only[List.cons.injEq]at h;simp[List.getD,hlt,h.1]
 ·rw[List.drop_eq_getElem_cons hlt]at h;simp only[List.cons.injEq]at h;exact h.2
namespace Sh
open Go Ev
set_option maxRecDepth 8000

theorem yboj(op:Int):Returns Tryz.prog 247 [.i .i64 op] (.i .i64 (yjs op)):=by
 refine Returns.of (ycte _ _ ?_);simp only[c247,ycmq,ycis,ycgc,ycld,ycdi,ycpu,ychf,yckw,ycjj,yccv,yw,yjs,go_sem,Nat.reduceEqDiff,Nat.reduceAdd,↓reduceIte,reduceCtorEq];refine⟨fun h1=>⟨fun h=>by rw[if_pos (.inr h)],fun h2=>⟨fun h=>by rw[if_neg (by omega),if_pos h],fun h3=>⟨fun h=>by rw[if_neg (by omega),if_neg h3,if_pos h],fun h4=>⟨fun h=>by rw[if_neg (by omega),if_neg h3,if_neg h4,if_pos h],fun h5=>by rw[if_neg (by omega),if_neg h3,if_neg h4,if_neg h5]⟩⟩⟩⟩,fun h=>by rw[if_pos (.inl h)]⟩
theorem ycvy(e:List Tm)(x:Ex)(at_:Nat)(rest:List Tm)(hx:x.shp=true)(he:e.drop at_=x.ser ++ rest)(hl:e.length<=1000):Returns Tryz.prog 231 [yx e,.i .i64 at_] (.i .i64 ((at_+x.ser.length:Nat):Int)):=by
 refine Returns.of (ycvi _ _ ?_)
 have h0:at_<e.length:=by
  rw[x.ser_eq]at he;exact(ydz he).1
 simp only[c231,yckl,ycim,ycjr,ycqb,yx,yw,go_sem,Nat.reduceEqDiff,Nat.reduceAdd,↓reduceIte,reduceCtorEq];refine⟨fun _=>⟨fun h=>by omega,fun _=>?_⟩,fun h=>by omega⟩
 refine ybd (σ:=Nat × List Ex) (fun p=>⟨[(1,.i .i64 p.1),(5,.i .i64 p.2.length),(0,yx e)],[]⟩)
  (fun p=>e.drop p.1=serL p.2 ++ rest/\p.2 ≠ []/\(∀ y ∈ p.2,y.shp=true)/\p.1+(serL p.2).length=at_+x.ser.length/\p.2.length<=3 * p.1+1) (fun p=>e.length - p.1) (at_,[x]) ⟨by simpa [serL]using he,by simp,by simpa using hx,by simp[serL],by simp⟩ ?_ ?_
 ·refine yg [] [] [] ?_;simp only[yx,allQ,live,yc,yw,go_sem,Nat.reduceEqDiff,↓reduceIte,reduceCtorEq];simp
 ·rintro⟨k,ts⟩ ⟨hk,hne,hsh,hlen,hb⟩;cases ts with
  | nil=>exact absurd rfl hne
  | cons y ts =>
   dsimp only at hk hlen hb ⊢
   have hser:serL (y :: ts)=y.head :: (serL y.subs ++ serL ts):=by
    show(y.ser ++ serL ts)=_;rw[y.ser_eq];rfl
   rw[hser]at hk hlen;obtain⟨d1,d2,d3⟩:=ydz hk;have hy:=hsh y List.mem_cons_self;have har:=y.arity hy;have hsub:y.subs.length<=3:=by cases y<;>simp[Ex.subs]
   simp only[List.length_cons]at hb hlen;simp only[ycdl,ycpg,yced,ycpz,ycmh,ycks,ybse,ybmo,ybth,yx,yw,go_sem,Nat.reduceEqDiff,Nat.reduceAdd,Nat.reduceLeDiff,↓reduceIte,reduceCtorEq];refine⟨fun hlt=>⟨by omega,(yboj _).use ?_⟩,fun hlt=>by omega⟩
   rw[d2,har];simp only[thenO,yw,go_sem,Nat.reduceEqDiff,Nat.reduceAdd,↓reduceIte,reduceCtorEq];refine⟨fun h=>by omega,fun _=>⟨ikw (by omega) (by omega),ikw (by simp;omega) (by simp;omega),fun h=>⟨ikw (by omega) (by omega),?_⟩,fun h=>⟨ikw (by omega) (by omega),?_⟩⟩⟩
   ·have h1:ts = []:=List.eq_nil_of_length_eq_zero (by omega)
    have h2:y.subs = []:=List.eq_nil_of_length_eq_zero (by omega)
    subst h1;rw[h2]at hlen;simp[serL]at hlen;omega
   ·have hpos:y.subs ++ ts ≠ []:=fun q=>by
     have q1:=congrArg List.length q;simp only[List.length_append,List.length_nil]at q1;omega
    refine yh (k+1,y.subs ++ ts) ⟨?_,hpos,?_,?_,?_⟩ (by dsimp only;omega) ?_
    ·dsimp only
     rw[d3];simp[serL]
    ·intro z hz;rcases List.mem_append.1 hz with q | q
     ·exact y.subs_shp hy z q
     ·exact hsh z (List.mem_cons_of_mem _ q)
    ·dsimp only
     have:(serL (y.subs ++ ts)).length=(serL y.subs ++ serL ts).length:=by simp[serL]
     rw[this];omega
    ·dsimp only
     simp only[List.length_append];omega
    ·refine yg [] [] [] ?_;simp only[allQ,live,yc,yw,go_sem,Nat.reduceEqDiff,↓reduceIte,reduceCtorEq];simp;omega
end Sh
end Go.Proofs.YtiejahgklcjhkaaGreatDoor

