/- Lemmas, joined: SgB GraphA GraphC SgD SgQ SgR SgS ScWo SgT SgU. -/
import Derived.Test.YtpngeppkgoaimaaGreatDoorPkPp12
import Derived.Test.YtpngeppkgoaimaaGreatDoorPkPp8
import Derived.Test.YtpngeppkgoaimaaGreatDoorPkPp13
import Derived.Test.YtpngeppkgoaimaaGreatDoorPkPp11
set_option linter.unusedSimpArgs false
set_option linter.unusedVariables false
namespace Go.Proofs.YtpngeppkgoaimaaGreatDoor
namespace Sh
open Go Ev Go.RowKit

def GrI(g:Gr):Prop:=(∀ x ∈ g.ids,I64 x) /\ ∀ ls ∈ g.ports,∀ l ∈ ls,I64 l.1/\I64 l.2
def ycud(c:List (List Int)):Prop:=∀ s ∈ c,∀ x ∈ s,I64 x

section
variable {G:AM} {m:Mem} {φ:Phi} {M:AM} {w:World} {u u':Value}

theorem ybzx {α:Type} {z n:Nat} {gg:Nat->List SV} {xs:List α} {E:Elem α} (hG:Le G m.b.get) (hr:RV G om0 (.sl z n gg) u) (hv:VR φ u u') (hR:Rel φ M w) (hs:Sub m M) (hn:xs.length=n)
  (hE:∀ k x b o L L',xs[k]? = some x->RVL G om0 (gg k) L->VRL φ L L'->(∀ j v,L'[j]? = some v->w.cell? ⟨b,o+j,none⟩=some v)->E w b o x):SlAt z E w u' xs:=by
 rcases hr.sl_inv with⟨rfl,h0⟩ | ⟨bk,p,cp,T,N,e,zz,L,rfl,g1,g2,g3,g4,g5,g6,g7⟩
 ·have:xs = []:=List.eq_nil_of_length_eq_zero hn;subst this;rcases h0 with rfl | ⟨b,o,c,rfl⟩
  ·have e:=hv.eq_simple rfl;subst e;exact SlAt.nil w
  ·obtain⟨lc,A,c',k1,k2,k3,k4,k5,k6,k7⟩:=hv.slice_inv;subst k3;exact⟨some A,c',rfl,Nat.zero_le _,k6,fun q=>absurd q (by simp)⟩
 ·obtain⟨lc,A,c',k1,k2,k3,k4,k5,k6,k7⟩:=hv.slice_inv;subst k3;subst hn;refine⟨some A,c',rfl,k4,k6,fun hpos=>?_⟩;rcases k7 with⟨rfl,_⟩ | k7
  ·obtain⟨lc',h1,h2⟩:=hR.blk _ _ (hs _ _ (hG _ _ g1));have k1':φ bk=some lc:=k1;rw[k1']at h1;cases h1
   obtain⟨h3,h4,cs,e2,fz2,h0,h5,h6,h7⟩:=h2;refine⟨lc.blk,lc.base+p,rfl,(Array.getElem?_eq_some_iff.1 h5).1,fun k x hx=>?_⟩;have hk:k<xs.length:=(List.getElem?_eq_some_iff.1 hx).1;have hin:=yhw (z:=z) hk;have hcells:∀ j v,j<z->(L k)[j]? = some v -> ∃ v',cs[lc.base+(p+k * z+j)]? = some v'/\VR φ v v':=fun j v hj hv=>h7 _ v (by omega) (by rw[g5 k hk j hj];exact hv)
   have hex:∀ (l:List Value) (q:Nat),(∀ j v,l[j]? = some v -> ∃ v',cs[q+j]? = some v'/\VR φ v v') -> ∃ l',VRL φ l l' /\ ∀ j v,l'[j]? = some v->cs[q+j]? = some v:=by
    intro l
    induction l with
    | nil=>intro q _;exact⟨[],.nil,fun j v h=>by simp at h⟩
    | cons a l ih =>
     intro q h;obtain⟨v',e1,e2⟩:=h 0 a rfl;obtain⟨l',e3,e4⟩:=ih (q+1) (fun j v hv=>by have:=h (j+1) v (by simpa using hv);rw[show q+1+j=q+(j+1)by omega];exact this)
     refine⟨v' :: l',.cons e2 e3,fun j v hv=>?_⟩;cases j with
     | zero=>simp at hv;subst hv;exact e1
     | succ j=>have:=e4 j v (by simpa using hv);rw[show q+(j+1)=q+1+j by omega];exact this
   obtain⟨L',r1,r2⟩:=hex (L k) (lc.base+p+k * z) (fun j v hv=>by
    have hj:j<z:=by rw[<- g4 k hk];exact(List.getElem?_eq_some_iff.1 hv).1
    have:=hcells j v hj hv;rw[show lc.base+p+k * z+j=lc.base+(p+k * z+j)by omega]
    exact this)
   exact hE k x _ _ (L k) L' hx (g6 k hk) r1 fun j v hv=>cell_of h5 (by have:=r2 j v hv;exact this)
  ·omega
theorem ints_at{l:List Int}(hG:Le G m.b.get)(hr:RV G om0 (yj l) u)(hv:VR φ u u')(hR:Rel φ M w)(hs:Sub m M)(hI:∀ x ∈ l,I64 x):yju w u' l:=by
 refine ybzx hG hr hv hR hs rfl fun k x b o L L' hx hL hL' hc=>?_;have hk:k<l.length:=(List.getElem?_eq_some_iff.1 hx).1;have hxe:l.getD k 0=x:=by simp[List.getD,hx]
 rw[hxe]at hL;cases hL with
 | cons a b =>
  cases b
  cases a.int_inv
  obtain⟨v',rfl,hvv⟩:=yez hL';have:=hvv.eq_simple rfl;subst this;exact⟨hc 0 _ rfl,hI x (List.mem_of_getElem? hx)⟩
theorem ybzw{ls:List (Int × Int)}(hG:Le G m.b.get)(hr:RV G om0 (yba ls) u)(hv:VR φ u u')(hR:Rel φ M w)(hs:Sub m M)(hI:∀ l ∈ ls,I64 l.1/\I64 l.2):ybcc w u' ls:=by
 refine ybzx hG hr hv hR hs rfl fun k x b o L L' hx hL hL' hc=>?_;have hxe:ls.getD k (0,0)=x:=by simp[List.getD,hx]
 rw[hxe]at hL;cases hL with
 | cons a b =>
  cases b with
  | cons a2 b2 =>
   cases b2
   cases a.int_inv
   cases a2.int_inv
   obtain⟨v1,v2,rfl,h1,h2⟩:=yvp hL';have:=h1.eq_simple rfl;subst this;have:=h2.eq_simple rfl;subst this;exact⟨hc 0 _ rfl,hc 1 _ rfl,hI x (List.mem_of_getElem? hx)⟩
theorem ybzp{ps:List (List (Int × Int))}(hG:Le G m.b.get)(hr:RV G om0 (yu ps) u)(hv:VR φ u u')(hR:Rel φ M w)(hs:Sub m M)(hI:∀ ls ∈ ps,∀ l ∈ ls,I64 l.1/\I64 l.2):ywg w u' ps:=by
 refine ybzx hG hr hv hR hs rfl fun k x b o L L' hx hL hL' hc=>?_;have hxe:ps.getD k []=x:=by simp[List.getD,hx]
 rw[hxe]at hL;cases hL with
 | cons a b =>
  cases b
  obtain⟨v',rfl,hvv⟩:=yez hL';exact⟨v',hc 0 _ rfl,ybzw hG a hvv hR hs (hI x (List.mem_of_getElem? hx))⟩
theorem yctq{c:List (List Int)}(hG:Le G m.b.get)(hr:RV G om0 (ybe c) u)(hv:VR φ u u')(hR:Rel φ M w)(hs:Sub m M)(hI:ycud c):ycfb w u' c:=by
 refine ybzx hG hr hv hR hs rfl fun k x b o L L' hx hL hL' hc=>?_;have hxe:c.getD k []=x:=by simp[List.getD,hx]
 rw[hxe]at hL;cases hL with
 | cons a b =>
  cases b
  obtain⟨v',rfl,hvv⟩:=yez hL';exact⟨v',hc 0 _ rfl,ints_at hG a hvv hR hs (hI x (List.mem_of_getElem? hx))⟩
theorem ycao{g:Gr}(hG:Le G m.b.get)(hr:RV G om0 (grV g) u)(hv:VR φ u u')(hR:Rel φ M w)(hs:Sub m M)(hI:GrI g):GrAt w u' g:=by
 obtain⟨L,rfl,hL⟩:=hr.ag_inv;cases hL with
 | cons a b =>
  cases b with
  | cons a2 b2 =>
   cases b2
   obtain⟨L',rfl,hL'⟩:=hv.agg_inv;obtain⟨v1,v2,rfl,h1,h2⟩:=yvp hL';exact⟨v1,v2,rfl,ints_at hG a h1 hR hs hI.1,ybzp hG a2 h2 hR hs hI.2⟩
end
theorem yzu {g:FuncId} {args:List SV} {r:SV} {v:Value} (hg:∃ fn c,Tryz.prog.funcs[g]? = some fn/\fn.body=some c) (hrv:∀ F,RV F om0 r v) (hvr:∀ φ,VR φ v v)
  (h:∀ (G:AM) (m:Mem) (us:List Value),Le G m.b.get->RVL G om0 args us -> ∀ φ M w us',Rel φ M w->Sub m M->VRL φ us us'->Calls Tryz.prog g us'.toArray w fun e w'=>e = .returned v/\Below w.heap.size w w'):Returns Tryz.prog g args r:=by
 intro G m us hw hle hr;refine⟨v,enterM m,r,yjr yli hg fun φ M w us' hR hs hv=>(h G m us hle hr φ M w us' hR hs hv).mono ?_,Nat.le_refl _,Le.refl _,rfl,hrv _⟩;rintro e w' ⟨rfl,hb⟩;exact⟨v,rfl,hvr φ,hb⟩
theorem rvl1{F:AM}{ω:Om}{a:SV}{us:List Value}(h:RVL F ω [a] us):∃ u,us = [u]/\RV F ω a u:=by
 cases h with | cons x y=>cases y;exact⟨_,rfl,x⟩
theorem rvl2{F:AM}{ω:Om}{a b:SV}{us:List Value}(h:RVL F ω [a,b] us):∃ u v,us = [u,v]/\RV F ω a u/\RV F ω b v:=by
 cases h with | cons x y=>obtain⟨v,rfl,q⟩:=rvl1 y;exact⟨_,v,rfl,x,q⟩
end Sh
end Go.Proofs.YtpngeppkgoaimaaGreatDoor

namespace Go.Proofs.YtpngeppkgoaimaaGreatDoor
open Go.RowKit

theorem yblg(n k:Nat)(hk:k<n):(List.replicate k (-1:Int) ++ List.replicate (n - k) 0).set k (-1)=List.replicate (k+1) (-1) ++ List.replicate (n - (k+1)) 0:=by
 apply List.ext_getElem
 ·simp;omega
 ·intro i h1 h2;rw[List.getElem_set];split
  ·subst_vars
   rw[List.getElem_append_left (by simp)]
   simp
  ·by_cases hi:i<k
   ·rw[List.getElem_append_left (by simpa using hi),List.getElem_append_left (by simp;omega)];simp
   ·rw[List.getElem_append_right (by simp;omega),List.getElem_append_right (by simp;omega)];simp

theorem yvz(g:Gr)(a:Nat)(h:g.ports.length<=24):1+yho (start g a)<=30:=by
 have h1:=List.countP_le_length (p:=fun x:Int=>decide (x<0)) (l:=start g a);have h2:(start g a).length=g.ports.length:=by simp[start]
 unfold yho;omega

set_option maxHeartbeats 2000000 in
theorem ybhz(gv:Value)(g:Gr)(a:Nat)(w:World)(hg:GrAt w gv g)(hgood:yx g)(ha:a<g.ports.length) :
  Calls Tryz.prog 108 #[gv,.int .i64 a] w (ycuq (yeg g a) w):=by
 have hn24:=hgood.2.1;have Hgood:=Lib.hid hgood
 clear hgood
 obtain⟨i,p,rfl,hi,hp⟩:=hg;obtain⟨A2,c2,rfl,hB1,hB2⟩:=ybj hp;have Hp:=Lib.hid hp
 clear hi hp
 have hmk:=yyz g.ports.length (by omega)
 go_enter Tryz.func108,Tryz.ntmps108
 go_wp2
 go_loopg [17] g.ports.length (fun q t wr=>∃ k:Nat,q+k=g.ports.length/\t = .int .i64 k/\Hid (Below (w.heap.size+1) (w.alloc (.cells #[i,.slice A2 g.ports.length c2] 28)) wr)/\Hid (IBlk wr (w.heap.size+1) (List.replicate k (-1) ++ List.replicate (g.ports.length - k) 0)))
 case atStart =>
  refine⟨0,by omega,rfl,Lib.hid ((Below.refl _ _).alloc (by simp) _),Lib.hid ?_⟩
  have:=IBlk.new (w.alloc (.cells #[i,.slice A2 g.ports.length c2] 28)) (List.replicate g.ports.length (0:Int))
  simpa using this
 case round =>
  obtain⟨k,hq,rfl,hbel,hblk⟩:=hrel
  by_cases hlt:k<g.ports.length
  ·obtain⟨x,hx⟩:∃ x,wr.cell? ⟨w.heap.size+1,k,none⟩=some (.int .i64 x):=⟨_,hblk.out.cell (by simp;omega)⟩
   have hf:=hblk.out.frozen k
   go_wp2
   go_roundg (gk - 1)
   case measure=>omega
   case rel =>
    refine⟨k+1,by omega,by go_num,Lib.hid (hbel.out.setCell (by simp) _),Lib.hid ?_⟩
    have:=hblk.out.set_ k (-1)
    rwa [yblg _ _ hlt]at this
  ·obtain rfl:k=g.ports.length:=by omega
   have hblk0:IBlk wr (w.heap.size+1) (List.replicate g.ports.length (-1)):=by simpa using hblk.out
   obtain⟨x,hx⟩:∃ x,wr.cell? ⟨w.heap.size+1,a,none⟩=some (.int .i64 x):=⟨_,hblk0.cell (by simpa using ha)⟩
   have hf:=hblk0.frozen a;have Hb0:=Lib.hid hblk0
   clear hblk0 hblk hmk
   go_wp2
   go_loopg [7] (1+yho (start g a)) (fun q t wr=>∃ R Q,q=Q.length+yho R/\q<=30/\Hid (Below (w.heap.size+1) (w.alloc (.cells #[i,.slice A2 g.ports.length c2] 28)) wr)/\Hid (IBlk wr (w.heap.size+1) R)/\Hid (BfsInv g a R Q)/\Hid (Owns wr (w.heap.size+2) 3 1 t Q.length (Q.map (fun q:Nat=>Value.int .i64 (q:Int)))))
   case atStart =>
    refine⟨start g a,[a],rfl,yvz g a hn24,Lib.hid ((hbel.out.setCell (by simp) _).alloc (by have:=hbel.out.size;simp at this ⊢;omega) _),Lib.hid ((Hb0.out.set_ a 0).alloc _),Lib.hid (BfsInv.start ha),Lib.hid ?_⟩
    refine⟨rfl,.inr ⟨_,0,1,#[.int .i64 (a:Int)],rfl,?_,?_,Nat.le_refl _,by simp[maxLen],by simp,?_⟩⟩
    ·have:=Hb0.out.lt;simp;omega
    ·have:=heap_alloc_new (wr.setCell ⟨w.heap.size+1,a,none⟩ (.int .i64 0)) (.cells #[.int .i64 (a:Int)] 3);simpa using this
    ·intro j u hu
     simpa using hu
   case round =>
    clear hbel Hb0 hx hf
    obtain⟨R,Q,hq,hq30,hbel,hblk,hinv,hown⟩:=hrel;obtain⟨AQ,cQ,rfl⟩:=hown.out.val;cases Q with
    | nil =>
     have Hd:=Lib.hid (hinv.out.isDist.unique (ygh Hgood.out ha))
     go_wp2
     go_ret
     have h:=hblk.out.ints (fun x hx=>by have:=hinv.out.isDist.bound Hgood.out ha x hx;unfold I64;omega) (by rw[hinv.out.len];omega)
     rw[hinv.out.len,Hd.out]at h;exact⟨_,rfl,h,(box2 hbel.out).2.2.1⟩
    | cons v Q =>
     obtain⟨gQ,oQ,cap,hv,hg1,hg2,hg3,hg4,hcell⟩:=hown.out.form (by simp)
     cases hv
     have hc0:=hcell 0 (.int .i64 (v:Int)) rfl;simp only[Nat.add_zero]at hc0;have Hcell:=Lib.hid hcell;obtain⟨d,hd⟩:=hinv.out.qin v (by simp)
     have hvl:v<g.ports.length:=by rw[<- hinv.out.len];exact(List.getElem?_eq_some_iff.1 hd).1
     obtain⟨q0,q1,hbw,hsz⟩:=box2 hbel.out;obtain⟨b2,off2,lv,rfl,hb2,hclw,hls⟩:=yfn Hp.out (List.getElem?_eq_getElem hvl);have hcl:=ygy hbw _ _ hclw
     clear hclw
     obtain⟨A3,c3,rfl,hl1,hl2⟩:=ybj hls;obtain⟨ls,hle⟩:∃ ls,g.ports[v]=ls:=⟨_,rfl⟩;have Hlp:=Lib.hid (show g.ports[v]? = some ls by rw[List.getElem?_eq_getElem hvl,hle])
     rw[hle]at hls hcl hl1;have Hls:=Lib.hid hls;have Hin:=Lib.hid (hinv.out.pop hd ls);have Hbw:=Lib.hid hbw
     clear hle hls hbw hcell hinv hd
     simp only[List.length_cons]at hq hg3 hown hc0;obtain⟨i0,hi0,hz0,hz1,hz2⟩:=info_parts ybfm;obtain⟨vQ,hsl,hoQ,hobQ⟩:=ybzj (P:=Tryz.prog) Tryz.underlying22 hi0 hz1 hown.out (k:=1) (by simp) (by simp)
     simp only[Nat.add_sub_cancel,Nat.mul_one,List.map_cons,List.drop_succ_cons,List.drop_zero]at hoQ;have hsl':∀ W,(Instr.slice 22 (.slice (some ⟨gQ,oQ,none⟩) (Q.length+1) cQ) (some (.int .i64 1)) none none).run Tryz.prog W = .ok vQ W:=fun W=>by simpa using hsl W
     have HoQ:=Lib.hid hoQ;have Hi0:=Lib.hid (show _/\_/\_/\_ from⟨hi0,hz0,hz1,hz2⟩)
     clear hoQ hown hsl hobQ hi0 hz0 hz1 hz2
     unfold maxLen at hg4
     go_wp2
     clear hsl'
     obtain⟨go,rfl⟩:∃ go,go=gk:=⟨_,rfl⟩
     go_loopg [43,7] ls.length (fun q t tq wr=>∃ (k:Nat) (R:List Int) (Q:List Nat),q+k=ls.length/\t = .int .i64 k/\Hid (go=Q.length+1+yho R)/\Hid (Below (w.heap.size+1) (w.alloc (.cells #[i,.slice (some ⟨b2,off2,none⟩) g.ports.length c2] 28)) wr)/\Hid (IBlk wr (w.heap.size+1) R)/\Hid (BfsIn g a v d ls k R Q)/\Hid (Owns wr (w.heap.size+2) 3 1 tq Q.length (Q.map (fun q:Nat=>Value.int .i64 (q:Int)))))
     case atStart=>exact⟨0,R,Q,by omega,rfl,Lib.hid (by omega),hbel,hblk,Hin,HoQ⟩
     case round =>
      clear hbel hblk Hin HoQ hq hcl q0 q1 Hbw hsz
      obtain⟨k,R,Q,hq,rfl,Hgk,hbel,hblk,Hin,HoQ⟩:=hrel
      by_cases hlt:k<ls.length
      ·obtain⟨q0,q1,hbw,hsz⟩:=box2 hbel.out;have Hbw:=Lib.hid hbw;obtain⟨A4,c4,e4,_,_,hE⟩:=Hls.out.below Stable.link hbw;cases e4
       obtain⟨b3,off3,rfl,hb3,hE⟩:=hE (by omega)
       obtain⟨⟨l1,wt⟩,hle⟩:∃ l,ls[k]=l:=⟨_,rfl⟩;have hl?:ls[k]? = some (l1,wt):=by rw[List.getElem?_eq_getElem hlt,hle]
       obtain⟨hx1,hx2,⟨hr1,hr2⟩,⟨hr3,hr4⟩⟩:=hE k _ hl?;obtain⟨k1,k2,k3,k4,k5⟩:=Hgood.out.link Hlp.out (List.mem_of_getElem? hl?);simp only at k1 k2 k3 k4 k5 hx1 hx2 hr1 hr2 hr3 hr4;obtain⟨u,rfl⟩:=Int.eq_ofNat_of_zero_le k1;have hul:u<R.length:=by rw[Hin.out.len];omega
       have hvR:v<R.length:=by rw[Hin.out.len];omega
       have hRv:R[v]? = some (d:Int):=Hin.out.rv;have hcv:=hblk.out.cell hvR;rw[show R[v]=(d:Int)by have:=List.getElem?_eq_getElem hvR;rw[hRv]at this;exact(Option.some.inj this).symm]at hcv
       have hcu:=hblk.out.cell hul;have hfu:=hblk.out.frozen u
       have hd24:d<g.ports.length:=by
        rcases Hin.out.val v _ hRv with e | ⟨k',e,h1,h2⟩
        ·omega
        ·obtain rfl:d=k':=by omega
         exact yuq Hgood.out ha h1 h2
       have hle1:ls[k].1=(u:Int):=by rw[hle]
       have hRu:R[u]? = some R[u]:=List.getElem?_eq_getElem hul;have hB:w.heap.size+1<wr.heap.size:=hblk.out.lt
       clear hE hl? hle hbw k1 k3 hRv
       by_cases hneg:R[u]<0
       ·have hRm:R[u]? = some (-1):=by
         rcases Hin.out.val u _ hRu with e | ⟨k',e,_⟩
         ·exact hRu.trans (congrArg some e)
         ·exact absurd e (by omega)
        have Hd:=Lib.hid (Hin.out.discover Hlp.out hlt hle1 hRm);have Hun:=Lib.hid (ybav (R:=R) (u:=u) (x:=(d:Int)+1) hRm (by omega))
        clear hRu hRm hle1
        go_wp2
        go_region
        go_wp2_with (at_builtin;refine ylb _ rfl _ _ 22 rfl (w.heap.size+2) 3 i0 (.int .i64 0) 1 8 Tryz.underlying22 Hi0.out.1 Hi0.out.2.1 Hi0.out.2.2.1 Hi0.out.2.2.2 rfl (by decide) u7 Q.length (Q.map (fun q:Nat=>Value.int .i64 (q:Int))) (by rfl) ?hown _ 1 1 [.int .i64 (u:Int)] (by rfl) rfl ?c1 ?c2 ?c3 ?c4 ?c5 ?_)
        case hown=>exact(((HoQ.out.low (p:=⟨w.heap.size+1,u,none⟩) (by simp) _).alloc _).alloc _).drew
        case c1=>exact ybyn (by simp)
        case c2=>simp[Value.oneCell']
        case c3=>have:=Hgk.out;simp only[maxLen];omega
        case c4=>have:=Hgk.out;omega
        case c5=>simp;omega
        intro vQ' w' hown' hgr hob;have hgo:=Hgk.out;have Hown:=Lib.hid hown';have Hgr:=Lib.hid hgr
        clear hown' hgr hob
        go_wp2
        go_roundg (gk - 1)
        case measure=>omega
        case rel =>
         have hb1:=(((hbel.out.setCell (p:=⟨w.heap.size+1,u,none⟩) (by simp) (.int .i64 ((d:Int)+1))).alloc (by simp;omega) (.cells #[.int .i64 (u:Int),.int .i64 wt] 43)).alloc (by simp;omega) (.cells #[.int .i64 (u:Int)] 3)).drew
         have hk1:=((((hblk.out.set_ u ((d:Int)+1)).alloc (.cells #[.int .i64 (u:Int),.int .i64 wt] 43)).alloc (.cells #[.int .i64 (u:Int)] 3)).drew);refine⟨k+1,R.set u ((d:Int)+1),Q ++ [u],by omega,by go_num,Lib.hid ?_,Lib.hid (hb1.grown Hgr.out (by simp;omega) (fun x hx=>?_)),Lib.hid (hk1.grown Hgr.out (fun e=>?_)),Hd,Lib.hid ?_⟩
         ·have:=Hun.out;simp;omega
         ·have:=(HoQ.out.lt hx).1;omega
         ·have:=(HoQ.out.lt e.symm).1;omega
         ·have:=Hown.out
          simpa using this
       ·have hpos:0<=R[u]:=by omega
        obtain⟨j,hj⟩:=Int.eq_ofNat_of_zero_le hpos;have Hsk:=Lib.hid (Hin.out.skip hlt (j:=j) (by rw[hle1,Int.toNat_natCast,hRu,hj]))
        clear hRu hle1 hj
        go_wp2
        have hgo:=Hgk.out
        go_roundg (gk - 1)
        case measure=>omega
        case rel=>exact⟨k+1,R,Q,by omega,by go_num,Hgk,Lib.hid (hbel.out.alloc (by omega) _),Lib.hid (hblk.out.alloc _),Hsk,Lib.hid (HoQ.out.alloc _)⟩
      ·obtain rfl:k=ls.length:=by omega
       go_wp2
       have hgo:=Hgk.out
       go_roundg (Q.length+yho R)
       case measure=>omega
       case rel=>exact⟨R,Q,rfl,by omega,hbel,hblk,Lib.hid (Hin.out.finish Hlp.out),HoQ⟩
end Go.Proofs.YtpngeppkgoaimaaGreatDoor

namespace Go.Proofs.YtpngeppkgoaimaaGreatDoor
open Go.RowKit

theorem yws:Tryz.zeroCells177=Array.replicate 256 (.bool false):=by kernel_rfl

def Seen(w:World)(g:Nat)(S:List Int):Prop:=∃ cur,w.heap[g]? = some (.cells cur 177 (0,0))/\cur.size=256 /\ ∀ i:Nat,i<256->cur[i]? = some (.bool (decide ((i:Int) ∈ S)))

theorem Seen.cell{w:World}{g:Nat}{S:List Int}(h:Seen w g S){i:Nat}(hi:i<256):w.cell? ⟨g,i,none⟩=some (.bool (decide ((i:Int) ∈ S))):=by
 obtain⟨cur,h1,h2,h3⟩:=h;simp[World.cell?,h1,h3 i hi]
theorem Seen.frozen{w:World}{g:Nat}{S:List Int}(h:Seen w g S)(i:Nat):w.frozen? ⟨g,i,none⟩=false:=by
 obtain⟨cur,h1,h2,h3⟩:=h;simp[World.frozen?,h1]
theorem Seen.set_{w:World}{g:Nat}{S:List Int}(h:Seen w g S){i:Nat}:Seen (w.setCell ⟨g,i,none⟩ (.bool true)) g (S ++ [(i:Int)]):=by
 obtain⟨cur,h1,h2,h3⟩:=h;refine⟨cur.setIfInBounds i (.bool true),by simp[World.setCell,Array.getElem?_modify,h1],by simp[h2],fun j hj=>?_⟩
 rw[Array.getElem?_setIfInBounds];split
 ·subst_vars
  rw[if_pos (by omega)]
  simp
 ·rw[h3 j hj];congr 3;simp;omega

theorem Seen.start(w:World):Seen (w.alloc (.cells Tryz.zeroCells177 177)) w.heap.size []:=by
 refine⟨_,heap_alloc_new w _,by rw[yws];simp,fun i hi=>?_⟩
 rw[yws];simp[hi]

def ybef(ids:List Int):Bool:=decide ((∀ x ∈ ids,0<=x/\x<=255)/\ids.Nodup)
def yqk(ids:List Int)(k:Nat):Prop:=(∀ x ∈ ids.take k,0<=x/\x<=255)/\(ids.take k).Nodup
theorem ybpy{ids:List Int}{k:Nat}(hk:k<ids.length):yqk ids (k+1) ↔ yqk ids k/\(0<=ids[k]/\ids[k]<=255)/\ids[k] ∉ ids.take k:=by
 unfold yqk;rw[take_snoc ids k hk,List.nodup_append];constructor
 ·rintro⟨h1,h2,_,h3⟩;exact⟨⟨fun x hx=>h1 x (List.mem_append_left _ hx),h2⟩,h1 _ (List.mem_append_right _ (by simp)),fun hm=>h3 _ hm _ (by simp) rfl⟩
 ·rintro⟨⟨h1,h2⟩,h3,h4⟩;refine⟨fun x hx=>?_,h2,by simp,fun a ha b hb e=>?_⟩
  ·rcases List.mem_append.1 hx with hx | hx
   ·exact h1 x hx
   ·simp at hx;subst hx;exact h3
  ·simp at hb;subst hb e;exact h4 ha
theorem ybdj{ids:List Int}{k:Nat}(h:¬ yqk ids k):ybef ids=false:=by
 unfold ybef;rw[decide_eq_false_iff_not];exact fun hd=>h ⟨fun x hx=>hd.1 x (List.mem_of_mem_take hx),hd.2.sublist (List.take_sublist _ _)⟩
theorem ybjd{ids:List Int}(h:yqk ids ids.length):ybef ids=true:=by
 unfold yqk at h;rw[List.take_length]at h;exact decide_eq_true h

set_option maxRecDepth 100000 in
set_option maxHeartbeats 1000000 in
theorem yok(iv:Value)(ids:List Int)(w:World)(hi:yju w iv ids) :
  Calls Tryz.prog 115 #[iv] w fun e w'=>e = .returned (.bool (ybef ids))/\Below w.heap.size w w':=by
 obtain⟨A,c,rfl,hA1,hA2⟩:=ybj hi;have Hi:=Lib.hid hi
 clear hi
 go_enter Tryz.func115,Tryz.ntmps115
 go_wp2
 go_loopg [8] ids.length (fun q t wr=>∃ k:Nat,q+k=ids.length/\t = .int .i64 k/\Hid (Below w.heap.size w wr)/\Hid (Seen wr w.heap.size (ids.take k))/\Hid (yqk ids k))
 case atStart=>exact⟨0,by omega,rfl,Lib.hid ((Below.refl _ _).alloc (Nat.le_refl _) _),Lib.hid (Seen.start w),Lib.hid ⟨by simp,by simp⟩⟩
 case round =>
  obtain⟨k,hq,rfl,hbel,hseen,hok⟩:=hrel
  by_cases hlt:k<ids.length
  ·obtain⟨b,off,rfl,hb,hcid,hr⟩:=yfq (Hi.out.below Stable.int hbel.out) hlt;obtain⟨x,hx⟩:∃ x,ids[k]=x:=⟨_,rfl⟩;have Hsn:=Lib.hid (ybpy hlt);rw[hx]at hcid hr Hsn;obtain⟨hr1,hr2⟩:=hr;have Hbad:=Lib.hid (fun h=>ybdj (ids:=ids) (k:=k+1) h);have Hts:=Lib.hid (take_snoc ids k hlt);rw[hx]at Hts
   clear hx
   by_cases c1:0<=x/\x<=255
   ·obtain⟨c1a,c1b⟩:=c1;obtain⟨n,rfl⟩:=Int.eq_ofNat_of_zero_le c1a;have hcs:=hseen.out.cell (i:=n) (by omega)
    have hfs:=hseen.out.frozen n
    by_cases c2:(n:Int) ∈ ids.take k
    ·rw[decide_eq_true c2]at hcs;have Hf:=Lib.hid (Hbad.out (fun h=>(Hsn.out.1 h).2.2 c2))
     clear c2
     go_wp2
     go_ret
     exact⟨ybf Hf.out.symm,hbel.out⟩
    ·rw[decide_eq_false c2]at hcs;have Hn:=Lib.hid (Hsn.out.2 ⟨hok.out,⟨by omega,by omega⟩,c2⟩)
     clear c2
     go_wp2
     go_roundg (gk - 1)
     case measure=>omega
     case rel =>
      refine⟨k+1,by omega,by go_num,Lib.hid (hbel.out.setCell (Nat.le_refl _) _),Lib.hid ?_,Hn⟩
      rw[Hts.out];exact hseen.out.set_
   ·have Hf:=Lib.hid (Hbad.out (fun h=>c1 (Hsn.out.1 h).2.1))
    by_cases c3:x<0
    ·clear c1
     go_wp2
     go_ret
     exact⟨ybf Hf.out.symm,hbel.out⟩
    ·have c4:255<x:=by omega
     clear c1
     go_wp2
     go_ret
     exact⟨ybf Hf.out.symm,hbel.out⟩
  ·obtain rfl:k=ids.length:=by omega
   have Ht:=Lib.hid (ybjd hok.out)
   go_wp2
   go_ret
   exact⟨ybf Ht.out.symm,hbel.out⟩

theorem ybuf(g:Gr)(h1:1<=g.ids.length)(h2:g.ids.length<=24)(h3:g.ports.length=g.ids.length):yeb g=(ybef g.ids && symB g.ports):=by
 unfold yeb ybef symB;rw[<- Bool.decide_and];congr 1;apply propext;unfold yx ybyo;constructor
 ·rintro⟨_,_,_,h4,h5,h6,h7⟩;exact⟨⟨h4,h5⟩,h6,h7⟩
 ·rintro⟨⟨h4,h5⟩,h6,h7⟩;exact⟨by omega,by omega,by omega,h4,h5,h6,h7⟩

set_option maxHeartbeats 1000000 in
theorem yrf(gv:Value)(g:Gr)(w:World)(hg:GrAt w gv g) :
  Calls Tryz.prog 84 #[gv] w fun e w'=>e = .returned (.bool (yeb g))/\Below w.heap.size w w':=by
 obtain⟨i,p,rfl,hi,hp⟩:=hg;obtain⟨A,c,rfl,hA1,hA2⟩:=ybj hi;obtain⟨A2,c2,rfl,hB1,hB2⟩:=ybj hp;have Hi:=Lib.hid hi;have Hp:=Lib.hid hp
 clear hi hp
 by_cases n1:1<=g.ids.length
 ·by_cases n2:g.ids.length<=24
  ·by_cases n3:g.ports.length=g.ids.length
   ·have n3':((g.ports.length:Int) != (g.ids.length:Int))=false:=by simp[n3]
    have He:=Lib.hid (ybuf g n1 n2 n3);have n3a:g.ports.length<=24:=by omega
    clear n3
    go_enter Tryz.func84,Tryz.ntmps84
    go_wp2_with fail
    refine(yok _ g.ids _ (Hi.out.below Stable.int ((Below.refl _ _).alloc (Nat.le_refl _) _))).mono ?_;rintro e w1 ⟨rfl,hb1⟩;have Hb1:=Lib.hid (yto hb1);obtain⟨q0,q1⟩:=ybpu hb1
    clear hb1
    cases hd:ybef g.ids with
    | false =>
     have Hv:=Lib.hid (show yeb g=false by rw[He.out,hd];rfl)
     go_wp2_with fail
     go_ret
     exact⟨ybf Hv.out.symm,Hb1.out⟩
    | true =>
     have Hv:=Lib.hid (show yeb g=symB g.ports by rw[He.out,hd];rfl)
     go_wp2_with fail
     refine(ylf _ g.ports _ (Hp.out.below (Stable.sl Stable.link) Hb1.out) (by omega)).mono ?_
     rintro e w2 ⟨rfl,hb2⟩
     go_wp2_with fail
     go_ret
     exact⟨ybf Hv.out.symm,Hb1.out.trans (hb2.mono Hb1.out.size)⟩
   ·have n3':((g.ports.length:Int) != (g.ids.length:Int))=true:=by simp;omega
    have Hf:=Lib.hid (ydl (g:=g) (fun h=>n3 h.2.2.symm))
    clear n3
    go_enter Tryz.func84,Tryz.ntmps84
    go_wp2
    go_ret
    exact⟨ybf Hf.out.symm,(Below.refl _ _).alloc (Nat.le_refl _) _⟩
  ·have Hf:=Lib.hid (ydl (g:=g) (fun h=>n2 (by omega)))
   go_enter Tryz.func84,Tryz.ntmps84
   go_wp2
   go_ret
   exact⟨ybf Hf.out.symm,(Below.refl _ _).alloc (Nat.le_refl _) _⟩
 ·have Hf:=Lib.hid (ydl (g:=g) (fun h=>n1 (by omega)))
  go_enter Tryz.func84,Tryz.ntmps84
  go_wp2
  go_ret
  exact⟨ybf Hf.out.symm,(Below.refl _ _).alloc (Nat.le_refl _) _⟩
end Go.Proofs.YtpngeppkgoaimaaGreatDoor

namespace Go.Proofs.YtpngeppkgoaimaaGreatDoor
namespace Sh
open Go Ev Go.RowKit
set_option maxRecDepth 8000
theorem yep{x:Int}(h:-4611686018427387904<=x/\x<=4611686018427387904):I64 x:=by
 unfold I64;omega
theorem ywo{g:Gr}(hg:yx g):GrI g:=by
 obtain⟨h1,h2,h3,h4,h5,h6,h7⟩:=hg;refine⟨fun x hx=>yep (by have:=h4 x hx;omega),fun ls hls l hl=>?_⟩
 obtain⟨v,hv,rfl⟩:=List.getElem_of_mem hls;obtain⟨a1,a2,a3,a4,a5⟩:=(h6 ⟨v,hv⟩).1 l hl;exact⟨yep (by omega),yep (by omega)⟩
theorem ybiw{g:Gr}(hI:GrI g):Returns Tryz.prog 84 [grV g] (.b (yeb g)):=by
 refine yzu ⟨_,_,Tryz.func84,rfl⟩ (fun _=>.b) (fun _=>.simple rfl) fun G m us hG hr φ M w us' hR hs hv=>?_;obtain⟨u,rfl,h1⟩:=rvl1 hr;obtain⟨u',rfl,h2⟩:=yez hv;exact yrf u' g w (ycao hG h1 h2 hR hs hI)
end Sh
end Go.Proofs.YtpngeppkgoaimaaGreatDoor

namespace Go.Proofs.YtpngeppkgoaimaaGreatDoor
namespace Sh
open Go Ev Go.RowKit
set_option maxRecDepth 8000

theorem ybvb{g:Gr}(hg:yx g){x:VarR}(hx:x.ok=true)(v:Nat):-4096<=(ybg g v x).1/\(ybg g v x).2<=100000:=by
 obtain⟨h1,h2,h3,h4,h5⟩:=ybdv hx;obtain⟨h6,h7⟩:=ykv hg hx;have h8:=hg.deg_lt (v:=v);unfold ybg;split
 ·exact⟨by simp only[];omega,by simp only[];omega⟩
 ·split
  ·exact⟨by simp only[];omega,by simp only[];omega⟩
  ·split
   ·exact⟨by simp only[];omega,by simp only[];omega⟩
   ·exact⟨by simp only[];omega,by simp only[];omega⟩
theorem yja{p:ProgT}{g:Gr}(hg:yx g)(hp:p.ok=true){c:Conf}(hc:ydk p g c=true):ConfIn g.ports.length p.vars.length c:=by
 have h:=(yft _ _ _).1 hc;have hp':=hp;unfold ProgT.ok at hp';simp only[Bool.and_eq_true,decide_eq_true_eq]at hp';refine⟨h.1.trans hg.2.2.1,fun s hs=>?_⟩;obtain⟨v,hv,rfl⟩:=List.getElem_of_mem hs;have h2:=h.2 v _ (List.getElem?_eq_getElem hv);have hl:(c[v]).length=p.vars.length:=by have:=h2.1;simpa using this
 refine⟨hl,fun x hx=>?_⟩;obtain⟨i,hi,rfl⟩:=List.getElem_of_mem hx;have hi':i<p.vars.length:=by omega
 have h3:=h2.2 i (ybg g v p.vars[i]) _ (by simp[hi']) (List.getElem?_eq_getElem hi)
 have h4:=ybvb hg (List.all_eq_true.1 hp'.1.1.2 _ (List.getElem_mem hi')) v;unfold InB;omega
structure Checked(Q1 Q2:(Nat->Option ABlk)->Value->Prop)(p:ProgT)(g:Gr):Prop where
 hg:yx g
 hp:p.ok=true
 hf:yuj p g=true
 hV:Returns Tryz.prog 169 [.ag (ydb Q1 Q2 p.raw)] (.b true)
theorem Checked.gv{Q1 Q2:(Nat->Option ABlk)->Value->Prop}{p:ProgT}{g:Gr}(h:Checked Q1 Q2 p g):Returns Tryz.prog 84 [grV g] (.b true):=by
 have e:=ybiw (ywo h.hg);rw[(yje g).2 h.hg]at e;exact e
section
variable {Q1 Q2:(Nat->Option ABlk)->Value->Prop} {p:ProgT} {g:Gr}
theorem yyx(h:Checked Q1 Q2 p g)(c:Conf):Returns Tryz.prog 102 [.ag (ydb Q1 Q2 p.raw),grV g,ybe c] (.i .i64 (if ydk p g c then 0 else 10)):=by
 refine Returns.of (yctz _ _ ?_);have hp':=h.hp;unfold ProgT.ok at hp';simp only[Bool.and_eq_true,decide_eq_true_eq]at hp';have hid:=h.hg.2.2.1;have h24:=h.hg.2.1;have hF:=ybyw p h.hg h.hp h.hf h.hV h.gv;have hT:=ybas p.raw h.hg hp'.1.1.2 hp'.1.1.1.2;have hW:=ybhw (n:=g.ids.length) p.vars (by omega) (ybg g) c (by omega)
 simp only[ydb,grV]at hF hT;simp only[c102,ycjm,ycgu,ydb,grV,go_sem,Nat.reduceEqDiff,Nat.reduceAdd,Nat.reduceLT,↓reduceIte,reduceCtorEq];refine hF.use ?_;simp only[thenO,ycjy,ycnh,yciu,go_sem,Nat.reduceEqDiff,Nat.reduceAdd,↓reduceIte,reduceCtorEq];refine⟨fun h=>absurd rfl h,hT.useS ?_ ?_⟩
 ·exact⟨yny ⟨Sim.refl _,ykx _ _,ykx _ _,trivial⟩,Sim.refl _,trivial⟩
 simp only[yht]at hW ⊢;simp only[go_sem,↓reduceIte];refine hW.use ?_;simp only[go_sem];have hcf:∀ b,yol g.ids.length (fun v=>p.vars.map (ybg g v)) c=b->ydk p g c=b:=fun b h=>h;refine⟨fun h1=>?_,fun h1=>?_⟩
 ·simp only[yclx,hcf _ h1,yw,go_sem,↓reduceIte]
 ·simp only[ycmo,hcf _ h1,yw,go_sem,↓reduceIte]
theorem ybjp(h:Checked Q1 Q2 p g)(c:Conf):Returns Tryz.prog 63 [.ag (ydb Q1 Q2 p.raw),grV g,ybe c] (.b (ydk p g c)):=by
 refine Returns.of (ydbx _ _ ?_);have hC:=yyx h c;simp only[ydb,grV]at hC;simp only[c63,ydcj,yddl,ydb,grV,go_sem,Nat.reduceEqDiff,Nat.reduceAdd,Nat.reduceLT,↓reduceIte,reduceCtorEq];refine hC.use ?_;simp only[thenO,sim_b,go_sem,Nat.reduceEqDiff,Nat.reduceAdd,↓reduceIte,reduceCtorEq];cases ydk p g c<;>rfl
theorem ypw(h:Checked Q1 Q2 p g){c:Conf}(hc:ydk p g c=true):Returns Tryz.prog 27 [.ag (ydb Q1 Q2 p.raw),grV g,ybe c] (.i .u32 (ybm p g c)):=by
 refine Returns.of (yddx _ _ ?_);have hp':=h.hp;unfold ProgT.ok at hp';simp only[Bool.and_eq_true,decide_eq_true_eq]at hp';have hM:=ybjp h c;rw[hc]at hM;have hN:=ynu p.raw h.hg hp'.1.1.2 hp'.1.1.1.2;have hE:=yil p h.hg h.hp (yja h.hg h.hp hc);simp only[ydb,grV]at hM hN;simp only[c27,ycwx,ydcl,ydb,grV,go_sem,Nat.reduceEqDiff,Nat.reduceAdd,Nat.reduceLT,↓reduceIte,reduceCtorEq]
 refine hM.use ?_;simp only[thenO,yczm,yddd,go_sem,Nat.reduceEqDiff,Nat.reduceAdd,↓reduceIte,reduceCtorEq];refine hN.useS ?_ ?_
 ·exact⟨yny ⟨Sim.refl _,ykx _ _,ykx _ _,trivial⟩,Sim.refl _,trivial⟩
 simp only[go_sem,↓reduceIte];refine hE.use ?_;simp only[go_sem];exact Sim.refl _
theorem ybkq(k:Int):Returns Tryz.prog 118 [.i .i64 k] (.b (decide (1<=k) && decide (k<=4))):=by
 refine Returns.of (ycpz _ _ ?_);simp only[c118,ycou,ycgn,sim_b,go_sem,Nat.reduceEqDiff,Nat.reduceAdd,↓reduceIte,reduceCtorEq]
 by_cases h:k >= 1<;>simp[h]

end
end Sh
end Go.Proofs.YtpngeppkgoaimaaGreatDoor

namespace Go.Proofs.YtpngeppkgoaimaaGreatDoor
open Go

theorem ylm(s a:Nat):∀ b,yfd s (a+b)=yfd s a+yfd (s >>> a) b
 | 0=>rfl
 | b+1=>by
  show yfd s (a+b)+(s.testBit (a+b)).toNat=_;rw[ylm s a b];show _=yfd s a+(yfd (s >>> a) b+((s >>> a).testBit b).toNat);rw[Nat.testBit_shiftRight];omega
theorem ymt(s:Nat):∀ b,b<=8->yfd (s &&& 255) b=yfd s b
 | 0,_=>rfl
 | b+1,h=>by
  show yfd _ b+_=yfd s b+_;rw[ymt s b (by omega),Nat.testBit_and,show(255:Nat)=2 ^ 8 - 1 from rfl,Nat.testBit_two_pow_sub_one]
  simp[show b<8 by omega]
theorem ybja(s:Nat):popP s=yfd (s >>> 24 &&& 255) 8+yfd (s >>> 16 &&& 255) 8+yfd (s >>> 8 &&& 255) 8+yfd (s &&& 255) 8:=by
 simp only[ymt _ 8 (Nat.le_refl _)];have h1:=ylm s 8 24;have h2:=ylm (s >>> 8) 8 16;have h3:=ylm (s >>> 8 >>> 8) 8 8;simp only[<- Nat.shiftRight_add,Nat.reduceAdd]at h1 h2 h3;unfold popP;omega
namespace Sh
open Ev Go.RowKit
set_option maxRecDepth 8000
theorem yvo:∀ k,k<256->yst.getD k 0=yfd k 8:=by decide
theorem ycvm:yst.length=256:=by decide
theorem yctt(a v:Nat):(a:Int).fdiv (2 ^ v)=((a >>> v:Nat):Int):=by
 have h:=ybpa (a:=a) (v:=v)
 rwa [Int.toNat_natCast]at h
theorem ycmz{a:Nat}(ha:a<2 ^ 32):IntKind.wrap .u32 (((BitVec.ofInt (IntKind.bits .u32) (a:Int)) &&& BitVec.ofInt (IntKind.bits .u32) 255).toNat:Int)=((a &&& 255:Nat):Int):=u32_and (b:=255) ha (by decide)
theorem ydew{a n:Nat}(h:a<2 ^ 32):a >>> n<2 ^ 32:=by rw[Nat.shiftRight_eq_div_pow];exact Nat.lt_of_le_of_lt (Nat.div_le_self _ _) h
theorem ybyg{s:Nat}(hs:s<2 ^ 32):Returns Tryz.prog 179 [.i .u32 s] (.i .i64 (popP s)):=by
 refine Returns.of (ycps _ _ ?_);simp only[c179,ycbt,ycmg,clash,go_sem,Int.reduceToNat,Nat.reduceEqDiff,Nat.reduceAdd,↓reduceIte,reduceCtorEq];have f1:=ycmz hs;have f2:=fun n=>ycmz (ydew (n:=n) hs);simp only[IntKind.bits]at f1 f2;simp only[yctt,f1,f2,Int.toNat_natCast,ycvm];have hp:=ybja s;have l1:s >>> 24<256:=by rw[Nat.shiftRight_eq_div_pow];omega
 have b1:∀ x:Nat,x &&& 255<256:=fun x=>Nat.lt_of_le_of_lt Nat.and_le_right (by omega)
 rw[ymt (s >>> 24) 8 (Nat.le_refl _)]at hp;rw[yvo _ l1,yvo _ (b1 (s >>> 16)),yvo _ (b1 (s >>> 8)),yvo _ (b1 s)];have q1:=yiu (s >>> 24) 8;have q2:=yiu (s >>> 16 &&& 255) 8;have q3:=yiu (s >>> 8 &&& 255) 8;have q4:=yiu (s &&& 255) 8;have w1:=b1 (s >>> 16);have w2:=b1 (s >>> 8);have w3:=b1 s;have u8k:∀ x:Int,0<=x->x<=255->inK .u8 x:=fun x h1 h2=>⟨by simpa [IntKind.min,IntKind.signed]using h1,by simpa [IntKind.max,IntKind.bits,IntKind.signed]using h2⟩
 refine⟨⟨by omega,by decide⟩,⟨by omega,by omega⟩,⟨by omega,by decide⟩,by omega,u8k _ (by omega) (by omega),⟨by omega,by decide⟩,by omega,u8k _ (by omega) (by omega),by omega,u8k _ (by omega) (by omega),?_⟩
 rw[wrap_in (ikw (by omega) (by omega)),hp]
 exact Sim.refl _
def cntV(k:Cnt):List SV:=[.i .i64 k.steps,.i .i64 k.moves,.i .i64 k.rounds,.i .i64 k.begun,.i .u32 k.pend]
theorem ybpk{e:Nat}(he:e<2 ^ 24):Returns Tryz.prog 145 [.i .u32 e] (.ag (cntV (ycz e))):=by
 refine Returns.of (ycrg _ _ ?_);simp only[c145,ycbp,yckn,go_sem,Nat.reduceEqDiff,Nat.reduceAdd,Nat.reduceLT,↓reduceIte,reduceCtorEq];have e1:e &&& 16777215=e:=by rw[show(16777215:Nat)=2 ^ 24 - 1 from rfl,Nat.and_two_pow_sub_one_of_lt_two_pow he]
 have e2:IntKind.wrap .u32 (((BitVec.ofInt (IntKind.bits .u32) (e:Int)) &&& BitVec.ofInt (IntKind.bits .u32) 16777215).toNat:Int)=((e &&& 16777215:Nat):Int):=u32_and (b:=16777215) (by omega) (by decide)
 simp only[IntKind.bits]at e2;rw[e2,e1];exact Sim.refl _
def usV(l:List Nat):SV:=.sl 1 l.length (fun k=>[.i .u32 ((l.getD k 0:Nat):Int)])
theorem ydhh{a:Nat}(ha:a<2 ^ 24):IntKind.wrap .u32 (((BitVec.ofInt (IntKind.bits .u32) (a:Int)) &&& ~~~BitVec.ofInt (IntKind.bits .u32) 16777215).toNat:Int)=0:=by
 have h:=u32_andNot (a:=a) (b:=16777215) (by omega) (by decide)
 have e:difB a 16777215=0:=by
  rw[ycl];intro i;rw[yjf,show(16777215:Nat)=2 ^ 24 - 1 from rfl,Nat.testBit_two_pow_sub_one]
  by_cases hi:i<24
  ·simp[hi]
  ·rw[Nat.testBit_lt_two_pow (Nat.lt_of_lt_of_le ha (Nat.pow_le_pow_right (by omega) (by omega)))]
   rfl
 rw[e]at h;exact h
theorem possible_ret(l:List Nat)(hl:l.length<=10)(h:∀ k,k<l.length->l.getD k 0<2 ^ 24):Returns Tryz.prog 178 [usV l] (.b true):=by
 refine Returns.of (ycty _ _ ?_);simp only[c178,ycda,ycbm,usV,go_sem,Nat.reduceAdd,↓reduceIte,reduceCtorEq];refine ybc (σ:=Nat) (fun k=>⟨[(7,.i .i64 k),(6,.i .i64 l.length),(5,usV l)],[]⟩) (fun k=>k<=l.length) (fun k=>l.length - k) 0 (Nat.zero_le _) ?_ ?_
 ·refine yg [] [] [] ?_;simp only[usV,allQ,live,yc,Int.natCast_zero,go_sem,Nat.reduceEqDiff,↓reduceIte,reduceCtorEq]
 ·intro k hk;simp only[ycij,ycgg,ycdq,ycff,usV,go_sem,Nat.reduceEqDiff,Nat.reduceAdd,↓reduceIte,reduceCtorEq];refine⟨fun hlt=>?_,fun hlt=>?_⟩
  ·have hk':k<l.length:=by omega
   have e0:=ydhh (h k hk');simp only[IntKind.bits]at e0;rw[e0];refine⟨⟨by omega,by omega⟩,fun h=>absurd rfl h,fun _=>?_⟩
   simp only[yckd,go_sem,Nat.reduceEqDiff,Nat.reduceAdd,↓reduceIte,reduceCtorEq];refine⟨ikw (by omega) (by omega),?_⟩
   refine yh (k+1) (by omega) (by omega) ?_
   refine yg [] [] [] ?_;simp only[allQ,live,yc,yw,go_sem,Nat.reduceEqDiff,↓reduceIte,reduceCtorEq];omega
  ·simp only[ycgi,sim_b,go_sem,↓reduceIte]
theorem CValid_ret {k : Cnt} (hk : k.ok) (hs : k.steps <= 4096) : Returns Tryz.prog 177 [.ag (cntV k)] (.b true) := by
  refine Returns.of (c177_ok _ _ ?_)
  obtain ⟨h1, h2, h3, h4, h5, h6⟩ := hk
  have hP := possible_ret [k.pend] (by simp) (fun i hi => by have : i = 0 := by simp at hi; omega
                                                             subst this; exact h6)
  have f1 : decide ((k.steps : Int) < 0) = false := by simp
  have f2 : decide ((k.steps : Int) > 4096) = false := by simp; omega
  have f3 : decide ((k.rounds : Int) < 0) = false := by simp
  have f4 : decide ((k.rounds : Int) > k.begun) = false := by simp; omega
  have f5 : decide ((k.begun : Int) > k.steps) = false := by simp; omega
  have f6 : decide ((k.begun : Int) > k.rounds + 1) = false := by simp; omega
  have f7 : decide ((k.steps : Int) <= k.moves) = true := by simp; omega
  have f8 : decide ((k.moves : Int) <= 24 * k.steps) = true := by simp; omega
  simp (maxSteps := 5000000) only [c177, c177_0, c177_1, cntV, f1, f2, f3, f4, f5, go_sem, Nat.reduceEqDiff, Nat.reduceAdd, Nat.reduceLeDiff, Nat.reduceLT, ↓reduceIte, reduceCtorEq]
  simp only [c177_3, f6, go_sem, Nat.reduceEqDiff, Nat.reduceAdd, Nat.reduceLeDiff, ↓reduceIte, reduceCtorEq]
  refine ⟨ikw (by omega) (by omega), ?_⟩
  simp (maxSteps := 5000000) only [c177_5, f7, f8, go_sem, Nat.reduceEqDiff, Nat.reduceAdd, Nat.reduceLeDiff, Nat.reduceLT, ↓reduceIte, reduceCtorEq]
  refine ⟨ikw (by omega) (by omega), ?_⟩
  refine .inl ⟨fun q hq => ?_, hP.useS ?_ ?_⟩
  · obtain rfl : q = 0 := by omega
    simp only [go_sem]
  · exact ⟨sim_sl fun q hq => by obtain rfl : q = 0 := by omega
                                 rfl, trivial⟩
  simp only [thenO, sim_b, go_sem, Nat.reduceEqDiff, Nat.reduceAdd, ↓reduceIte, reduceCtorEq]
theorem ycpl{k:Cnt}(hk:k.ok)(hs:k.steps<4096){s e:Nat}(h0:s ≠ 0)(hs24:s<2 ^ 24)(he:e<2 ^ 24):Returns Tryz.prog 148 [.ag (cntV k),.i .u32 s,.i .u32 e] (.tp [.ag (cntV (addP k s e)),.i .i64 0]):=by
 refine Returns.of (ycre _ _ ?_);have hV:=CValid_ret hk (by omega)
 have hO:=ybyg (s:=s) (by omega)
 have hP:=possible_ret [s,e] (by simp) (fun i hi=>by
  have:i=0\/i=1:=by simp at hi;omega
  rcases this with rfl | rfl
  ·exact hs24
  ·exact he)
 obtain⟨h1,h2,h3,h4,h5,h6⟩:=hk;simp only[cntV]at hV;simp only[c148,ycno,ycot,cntV,go_sem,Nat.reduceEqDiff,Nat.reduceAdd,Nat.reduceLT,↓reduceIte];refine hV.use ?_;have z0:((s:Int) == 0)=false:=by simp;omega
 simp only[thenO,ycne,z0,go_sem,Nat.reduceEqDiff,Nat.reduceAdd,Nat.reduceLeDiff,Nat.reduceLT,↓reduceIte,reduceCtorEq];refine .inl ⟨fun q hq=>?_,hP.useS ?_ ?_⟩
 ·have:q=0\/q=1:=by omega
  rcases this with rfl | rfl
  ·simp only[go_sem]
  ·simp only[go_sem]
 ·exact⟨sim_sl fun q hq=>by
   have:q=0\/q=1:=by omega
   rcases this with rfl | rfl<;>rfl,trivial⟩
 have z1:((k.steps:Int) == 4096)=false:=by simp;omega
 simp only[ycjt,yciw,z1,go_sem,Nat.reduceEqDiff,Nat.reduceAdd,Nat.reduceLeDiff,↓reduceIte,reduceCtorEq];refine⟨ikw (by omega) (by omega),?_⟩
 simp only[ycav,clash,go_sem,Nat.reduceEqDiff,Nat.reduceAdd,Nat.reduceLeDiff,↓reduceIte,reduceCtorEq];refine hO.use ?_;have hpop:=yblk s hs24;have a1:=u32_andNot (a:=k.pend) (b:=s) (by omega) (by omega)
 have hd:difB k.pend s<2 ^ 24:=ybeo h6;have a2:=u32_and (a:=difB k.pend s) (b:=e) (by omega) (by omega)
 obtain⟨P,hPe⟩:∃ P,difB k.pend s &&& e=P:=⟨_,rfl⟩;rw[hPe]at a2;simp only[IntKind.bits]at a1 a2;simp only[thenO,go_sem,Nat.reduceEqDiff,Nat.reduceAdd,Nat.reduceLeDiff,↓reduceIte,reduceCtorEq];refine⟨ikw (by omega) (by omega),?_⟩
 simp only[ycck,ybrp,ybvh,a1,a2,go_sem,Nat.reduceEqDiff,Nat.reduceAdd,Nat.reduceLeDiff,↓reduceIte,reduceCtorEq];refine⟨by decide,ikw (by omega) (by omega),fun hP0=>?_,fun hP0=>?_⟩
 ·have hP1:P=0:=by omega
  have ea:addP k s e=⟨k.steps+1,k.moves+popP s,k.rounds+1,k.rounds+1,e⟩:=by unfold addP;simp only[hPe,hP1,if_true]
  rw[ea];simp only[ybtv,ybpf,ybdo,go_sem,Nat.reduceEqDiff,Nat.reduceAdd,Nat.reduceLeDiff,↓reduceIte,reduceCtorEq];exact Sim.refl _
 ·have hP1:¬ P=0:=by omega
  have ea:addP k s e=⟨k.steps+1,k.moves+popP s,k.rounds,k.rounds+1,P⟩:=by unfold addP;simp only[hPe,if_neg hP1]
  rw[ea];simp only[ybdo,go_sem,Nat.reduceEqDiff,Nat.reduceAdd,↓reduceIte];exact Sim.refl _
end Sh
end Go.Proofs.YtpngeppkgoaimaaGreatDoor

namespace Go.Proofs.YtpngeppkgoaimaaGreatDoor
open Go
def netP(ls:List (Int × Int)):Nat:=ls.foldl (fun a l=>a ||| 2 ^ l.1.toNat) 0
theorem yblt(ls:List (Int × Int))(k:Nat)(h:k<ls.length):netP (ls.take (k+1))=netP (ls.take k) ||| 2 ^ (ls.getD k (0,0)).1.toNat:=by
 unfold netP;rw[List.take_succ_eq_append_getElem h,List.foldl_append,Sh.getD_at h];rfl
theorem ycqz(ls:List (Int × Int))(h:∀ l ∈ ls,l.1<24):netP ls<2 ^ 24:=by
 unfold netP
 have:∀ (ls:List (Int × Int)) (a:Nat),(∀ l ∈ ls,l.1<24)->a<2 ^ 24->ls.foldl (fun a l=>a ||| 2 ^ l.1.toNat) a<2 ^ 24:=by
  intro ls
  induction ls with
  | nil=>intro a _ h;exact h
  | cons l ls ih =>
   intro a hl ha;refine ih _ (fun x hx=>hl x (List.mem_cons_of_mem _ hx)) (Nat.or_lt_two_pow ha ?_);have:=hl l List.mem_cons_self;exact Nat.pow_lt_pow_right (by omega) (by omega)
 exact this ls 0 h (by decide)
namespace Sh
open Ev Go.RowKit
set_option maxRecDepth 8000
theorem u32k{a:Nat}(h:a<2 ^ 32):inK .u32 (a:Int):=⟨by simp[IntKind.min,IntKind.signed],by simp[IntKind.max,IntKind.bits,IntKind.signed];omega⟩
theorem ycsr{g:Gr}(hg:yx g):Returns Tryz.prog 120 [grV g] (.i .u32 (2 ^ g.ids.length - 1:Nat)):=by
 refine Returns.of (ycvh _ _ ?_);have h3:=hg.2.2.1;have h4:=hg.2.1;simp only[c120,ycmp,yclu,grV,yj,go_sem,Nat.reduceEqDiff,Nat.reduceAdd,Nat.reduceLeDiff,Nat.reduceLT,↓reduceIte,reduceCtorEq];have h5:=yvl (v:=g.ids.length) (by omega)
 rw[Int.toNat_natCast]at h5;have h6:2 ^ g.ids.length<2 ^ 32:=Nat.pow_lt_pow_right (by omega) (by omega)
 have h7:1<=2 ^ g.ids.length:=Nat.one_le_two_pow;have h8:(((2 ^ g.ids.length:Nat):Int)) - 1=((2 ^ g.ids.length - 1:Nat):Int):=by omega
 rw[h5,h8];refine⟨⟨by omega,by show _<((32:Nat):Int);omega⟩,u32k (by omega),Sim.refl _⟩
theorem ybjg{g:Gr}(hg:yx g):Returns Tryz.prog 119 [grV g] (usV (g.ports.map netP)):=by
 refine Returns.of (ycsj _ _ ?_);have h3:=hg.2.2.1;have h4:=hg.2.1;simp only[c119,ycdz,ycga,ycmu,grV,yj,yu,go_sem,Nat.reduceEqDiff,Nat.reduceAdd,Nat.reduceLT,↓reduceIte,reduceCtorEq];refine⟨by omega,?_⟩
 obtain⟨n,hn⟩:∃ n,g.ports.length=n:=⟨_,rfl⟩
 let val:Nat->Nat->Nat:=fun k i=>if i<k then netP (g.ports.getD i [])else 0
 refine ybc (σ:=Nat) (fun k=>⟨[(15,.i .i64 k),(14,.i .i64 n),(13,yu g.ports),(3,.os (11,0) 0 n true)],
  [(11,.one (some ⟨44,false,1,n,fun i=>[.i .u32 (val k i:Nat)]⟩))]⟩) (fun k=>k<=n) (fun k=>n - k) 0 (Nat.zero_le _) ?_ ?_
 ·refine yg [] [] [] ?_;simp only[yu,hn,allQ,live,yc,yw,Int.natCast_zero,go_sem,Nat.reduceEqDiff,↓reduceIte,reduceCtorEq];simp[val]
 ·intro k hk;obtain⟨L,hL⟩:∃ L,g.ports.getD k []=L:=⟨_,rfl⟩;simp only[ycbj,ycoz,ycjs,yu,yba,hn,hL,go_sem,Nat.reduceEqDiff,Nat.reduceAdd,↓reduceIte,reduceCtorEq];refine⟨fun hlt=>?_,fun hlt=>?_⟩
  ·have hk':k<n:=by omega
   have hkp:k<g.ports.length:=by omega
   have hlk:∀ l ∈ L,0<=l.1/\l.1<24:=fun l hl=>by
    rw[<- hL,getD_at hkp]at hl;obtain⟨a1,a2,_⟩:=(hg.2.2.2.2.2.1 ⟨k,hkp⟩).1 l hl;exact⟨a1,by omega⟩
   have hdeg:=hg.deg_lt (v:=k);rw[hL]at hdeg;refine⟨by omega,?_⟩
   obtain⟨m,hm⟩:∃ m,L.length=m:=⟨_,rfl⟩;rw[hm]
   let val2:Nat->Nat->Nat:=fun j i=>if i<k then netP (g.ports.getD i [])else if i=k then netP (L.take j)else 0
   refine ybc (σ:=Nat) (fun j=>⟨[(22,.i .i64 j),(21,.i .i64 m),(20,yba L),(4,.i .i64 k),(15,.i .i64 k),(14,.i .i64 n),(13,yu g.ports),(3,.os (11,0) 0 n true)],
    [(11,.one (some ⟨44,false,1,n,fun i=>[.i .u32 (val2 j i:Nat)]⟩))]⟩) (fun j=>j<=m) (fun j=>m - j) 0 (Nat.zero_le _) ?_ ?_
   ·refine yg [] [] [] ?_;simp only[yu,yba,hn,hm,allQ,live,yc,yw,Int.natCast_zero,go_sem,Nat.reduceEqDiff,↓reduceIte,reduceCtorEq];intro i hi;simp only[val,val2]
    by_cases q:i<k
    ·rw[if_pos q,if_pos q]
    ·rw[if_neg q,if_neg q]
     by_cases q2:i=k
     ·rw[if_pos q2];rfl
     ·rw[if_neg q2]
   ·intro j hj;obtain⟨l,hl⟩:∃ l,L.getD j (0,0)=l:=⟨_,rfl⟩;simp only[ycmq,ycoi,yu,yba,hn,hm,hl,go_sem,Nat.reduceEqDiff,Nat.reduceAdd,Nat.reduceLT,↓reduceIte,reduceCtorEq];refine⟨fun hlj=>⟨by omega,?_⟩,fun hlj=>?_⟩
    ·have hj':j<L.length:=by omega
     have hl2:=hlk l (by rw[<- hl,getD_at hj'];exact List.getElem_mem _)
     obtain⟨t,ht⟩:∃ t:Nat,l.1=t:=⟨l.1.toNat,by omega⟩
     have h24t:t<24:=by omega
     have hval:val2 j k<2 ^ 24:=by
      simp only[val2,if_neg (Nat.lt_irrefl k),if_true];exact ycqz _ fun l hl=>(hlk l (List.mem_of_mem_take hl)).2
     have hp:2 ^ t<2 ^ 24:=Nat.pow_lt_pow_right (by omega) h24t
     have hsh:=yvl (v:=t) (by omega)
     have hor:=u32_or (a:=val2 j k) (b:=2 ^ t) (by omega) (by omega)
     rw[Int.toNat_natCast]at hsh;simp only[IntKind.bits]at hor;simp only[ycbl,ht,clash,hsh,hor,go_sem,Nat.reduceEqDiff,Nat.reduceAdd,Nat.reduceLeDiff,↓reduceIte,reduceCtorEq];refine⟨by omega,by omega,⟨by omega,by show _<((32:Nat):Int);omega⟩,by omega,by omega,by decide,?_⟩
     simp only[ycfl,go_sem,Nat.reduceEqDiff,Nat.reduceAdd,↓reduceIte,reduceCtorEq];refine⟨ikw (by omega) (by omega),?_⟩
     refine yh (j+1) (by omega) (by omega) ?_
     refine yg [] [] [] ?_;simp only[allQ,live,yc,yw,go_sem,Nat.reduceEqDiff,↓reduceIte,reduceCtorEq];refine⟨by omega,fun i hi=>?_⟩
     have hsn:=yblt L j hj';rw[hl,ht,Int.toNat_natCast]at hsn
     by_cases q:i=k
     ·simp only[if_pos q];subst q;simp only[go_sem,live,yw,go_sem,reduceCtorEq];simp only[val2,if_neg (Nat.lt_irrefl i),if_true,hsn]
     ·simp only[if_neg q];simp only[go_sem,live,yw,go_sem,reduceCtorEq];simp only[val2,if_neg q]
    ·obtain rfl:j=m:=by omega
     simp only[ybsa,go_sem,Nat.reduceEqDiff,Nat.reduceAdd,↓reduceIte,reduceCtorEq];refine⟨ikw (by omega) (by omega),?_⟩
     refine yh (k+1) (by omega) (by omega) ?_
     refine yg [] [] [] ?_;simp only[allQ,live,yc,yw,go_sem,Nat.reduceEqDiff,↓reduceIte,reduceCtorEq];refine⟨by omega,fun i hi=>?_⟩
     simp only[val,val2]
     by_cases q:i<k
     ·rw[if_pos q,if_pos (by omega)]
     ·rw[if_neg q]
      by_cases q2:i=k
      ·rw[if_pos q2,if_pos (by omega),q2,hL,<- hm,List.take_length]
      ·rw[if_neg q2,if_neg (by omega)]
  ·obtain rfl:k=n:=by omega
   simp only[yblb,go_sem,Nat.reduceEqDiff,Nat.reduceAdd,↓reduceIte,reduceCtorEq];unfold usV;rw[List.length_map,hn];refine sim_sl fun i hi=>?_;have hi':i<g.ports.length:=by omega
   simp only[val,if_pos hi];simp[List.getD,hi']
theorem ywz(net:SV){e s:Nat}(he:e<2 ^ 24)(h0:s ≠ 0)(hs:s<2 ^ 24)(hsub:difB s e=0):Returns Tryz.prog 146 [net,.i .i64 3,.i .u32 e,.i .u32 s] (.b true):=by
 refine Returns.of (yblq _ _ ?_);have z0:((s:Int) == 0)=false:=by simp;omega
 have a0:=u32_andNot (a:=s) (b:=e) (by omega) (by omega)
 rw[hsub]at a0;simp only[Int.natCast_zero,IntKind.bits]at a0;simp only[c146,ybnu,ybtu,z0,a0,Int.reduceBNe,go_sem,Nat.reduceEqDiff,Nat.reduceAdd,↓reduceIte,reduceCtorEq];simp only[ybmw,yboy,ybno,ybpg,ybbo,Int.reduceBEq,sim_b,go_sem,Nat.reduceEqDiff,Nat.reduceAdd,↓reduceIte,reduceCtorEq]
theorem ybar(net:SV){e:Nat}(he:e<2 ^ 24)(h0:e ≠ 0):Returns Tryz.prog 146 [net,.i .i64 4,.i .u32 e,.i .u32 e] (.b true):=by
 refine Returns.of (yblq _ _ ?_);have z0:((e:Int) == 0)=false:=by simp;omega
 have hd:difB e e=0:=by unfold difB;simp
 have a0:=u32_andNot (a:=e) (b:=e) (by omega) (by omega)
 rw[hd]at a0;simp only[Int.natCast_zero,IntKind.bits]at a0;simp only[c146,ybnu,ybtu,z0,a0,Int.reduceBNe,go_sem,Nat.reduceEqDiff,Nat.reduceAdd,↓reduceIte,reduceCtorEq];simp only[ybmw,yboy,ybno,ybpg,ycfo,ybbo,Int.reduceBEq,sim_b,go_sem,Nat.reduceEqDiff,Nat.reduceAdd,↓reduceIte,reduceCtorEq]
theorem yzg(net:SV)(hn:net.cells.all one1=true){e w:Nat}(he:e<2 ^ 24)(h0:e ≠ 0)(hw:w<2 ^ 32):Returns Tryz.prog 123 [net,.i .i64 3,.i .u32 e,.i .u32 w] (.i .u32 (resD e w)):=by
 refine Returns.of (yvb _ _ ?_);have a0:=u32_and (a:=w) (b:=e) (by omega) (by omega)
 have a1:=u32_neg (a:=e) (by omega) (by omega)
 have a2:=u32_and (a:=e) (b:=2 ^ 32 - e) (by omega) (by omega)
 obtain⟨W,hW⟩:∃ W,w &&& e=W:=⟨_,rfl⟩;rw[hW]at a0;simp only[IntKind.bits]at a0 a2;simp only[c123,yxq,yban,yzp,a0,hn,go_sem,Nat.reduceEqDiff,Nat.reduceAdd,Nat.reduceLT,↓reduceIte,reduceCtorEq];have hWl:W<2 ^ 24:=by rw[<- hW,Nat.and_comm];exact ycni he
 refine⟨fun q=>?_,fun q=>?_⟩
 ·have q0:W=0:=by omega
  have er:resD e w=e &&& (2 ^ 32 - e):=by unfold resD;rw[if_pos (by rw[hW];exact q0)];rfl
  rw[er];simp only[ybab,ypv,yql,yqp,yka,ywm,IntKind.signed,a1,a2,Int.reduceBEq,go_sem,Nat.reduceEqDiff,Nat.reduceAdd,↓reduceIte,reduceCtorEq];exact Sim.refl _
 ·have q0:¬ W=0:=by omega
  have er:resD e w=W:=by unfold resD;rw[if_neg (by rw[hW];exact q0),hW]
  rw[er];simp only[ypv,yql,yqp,yka,ywm,Int.reduceBEq,go_sem,Nat.reduceEqDiff,Nat.reduceAdd,↓reduceIte,reduceCtorEq];exact Sim.refl _
theorem yxd(net:SV)(hn:net.cells.all one1=true){e w:Nat}(he:e<2 ^ 24)(h0:e ≠ 0)(hw:w<2 ^ 32):Returns Tryz.prog 123 [net,.i .i64 4,.i .u32 e,.i .u32 w] (.i .u32 e):=by
 refine Returns.of (yvb _ _ ?_);have a0:=u32_and (a:=w) (b:=e) (by omega) (by omega)
 have a1:=u32_neg (a:=e) (by omega) (by omega)
 have a2:=u32_and (a:=e) (b:=2 ^ 32 - e) (by omega) (by omega)
 obtain⟨W,hW⟩:∃ W,w &&& e=W:=⟨_,rfl⟩;rw[hW]at a0;simp only[IntKind.bits]at a0 a2;simp only[c123,yxq,yban,yzp,a0,hn,go_sem,Nat.reduceEqDiff,Nat.reduceAdd,Nat.reduceLT,↓reduceIte,reduceCtorEq];refine⟨fun q=>?_,fun q=>?_⟩
 ·simp only[ybab,ypv,yql,yqp,yka,yvy,IntKind.signed,a1,a2,Int.reduceBEq,go_sem,Nat.reduceEqDiff,Nat.reduceAdd,↓reduceIte,reduceCtorEq];exact Sim.refl _
 ·simp only[ypv,yql,yqp,yka,yvy,Int.reduceBEq,go_sem,Nat.reduceEqDiff,Nat.reduceAdd,↓reduceIte,reduceCtorEq];exact Sim.refl _
end Sh
end Go.Proofs.YtpngeppkgoaimaaGreatDoor

namespace Go.Proofs.YtpngeppkgoaimaaGreatDoor
namespace Sh
open Go Ev
def ydbm:LO:=[o3 (.mv (ci' 0)) 4 0]
def ydfw:LO:=[mv' 1 5 0,o3 (.bin .lss (.tmp 5) (ci' 1)) 6 1]
def ydgn:LO:=[o3 (.mv (ci' 0)) 4 0]
def ycxe:LO:=[mv' 0 7 0,mv' 1 8 0,bn' .rem 7 8 9 3,mv' 9 0 7]
def ydac:LO:=[mv' 0 10 0,o3 (.bin .lss (.tmp 10) (ci' 0)) 11 1]
def ydbp:LO:=[mv' 0 12 0,mv' 1 13 0,bn' .add 12 13 14 3,mv' 14 0 7]
def yczp:LO:=[mv' 0 15 0,mv' 15 4 1]
def c44:SC:=(.seq (.reg false ydbm) (.seq (.seq (.reg false ydfw) (.cond (.tmp 6) (.seq (.reg false ydgn) .ret) .skip)) (.seq (.reg false ycxe) (.seq (.seq (.reg false ydac) (.cond (.tmp 11) (.reg false ydbp) .skip)) (.seq (.reg false yczp) .ret)))))
theorem ycwn:Fn 44 c44 [.t 4]:=fn_0 Tryz.func44 (by kernel_rfl) (by kernel_rfl)
def ydfx:LO:=[o3 (.mv (ci' 0)) 4 0]
def ydff:LO:=[mv' 1 5 0,mv' 0 6 0,ln' 6 7 2,bn' .lss 5 7 8 7]
def ycwm:LO:=[mv' 0 9 0,mv' 1 10 0,ix' 1 9 10 11 3,ld' false 1 11 12 7,mv' 12 4 15]
def ycyf:LO:=[o3 (.mv (ci' 0)) 4 0]
def c50:SC:=(.seq (.reg false ydfx) (.seq (.seq (.reg false ydff) (.cond (.tmp 8) (.seq (.reg false ycwm) .ret) .skip)) (.seq (.reg false ycyf) .ret)))
theorem ycxn:Fn 50 c50 [.t 4]:=fn_0 Tryz.func50 (by kernel_rfl) (by kernel_rfl)
def yckj:LO:=[o3 (.box 28 (.tmp 0)) 3 0,o3 (.mv (.const (.bool false))) 6 0]
def ycje:LO:=[o3 (.mv (ci' 0)) 7 0]
def ycof:LO:=[mv' 7 8 0,fa' 1 1 3 9 0,ld' false 1 9 10 2,mv' 1 11 0,ix' 1 10 11 12 14,ld' false 1 12 13 30,ln' 13 14 62,bn' .lss 8 14 15 127]
def ycep:LO:=[fa' 1 1 3 18 0,ld' false 1 18 19 1,mv' 1 20 0,ix' 1 19 20 21 7,ld' false 1 21 22 15,mv' 7 23 0,ix' 2 22 23 24 63,fa' 0 1 24 25 127,ld' false 1 25 26 255,mv' 2 27 0,bn' .eql 26 27 28 1023]
def ycmi:LO:=[o3 (.mv (.const (.bool true))) 6 0]
def ycfj:LO:=[mv' 7 16 0,o3 (.bin .add (.tmp 16) (ci' 1)) 17 1,mv' 17 7 3]
def ycns:LO:=[o3 (.mv (.const (.bool false))) 6 0]
def c117:SC:=(.seq (.reg false yckj) (.seq (.seq (.reg false ycje) (.block 0 (.loop (.seq (.seq (.reg false ycof) (.cond (.tmp 15) .skip (.exit 0))) (.seq (.block 1 (.seq (.reg false ycep) (.cond (.tmp 28) (.seq (.reg false ycmi) .ret) .skip))) (.reg false ycfj)))))) (.seq (.reg false ycns) .ret)))
theorem ycul:Fn 117 c117 [.t 6]:=fn_0 Tryz.func117 (by kernel_rfl) (by kernel_rfl)
def ycwg:LO:=[o3 (.box 24 (.tmp 0)) 5 0,o3 (.box 28 (.tmp 1)) 6 0]
def yctb:LO:=[mv' 2 12 0,mv' 3 13 0,bn' .eql 12 13 14 3,mv' 14 15 7,⟨.load true 2 (.tmp 6),some 16,some (15,false),15⟩,⟨.mv (.tmp 2),some 17,some (15,false),15⟩,⟨.mv (.tmp 3),some 18,some (15,false),15⟩,⟨.call (.func 117) [(.tmp 16),(.tmp 17),(.tmp 18)],some 19,some (15,false),127⟩,o3 (.pick (.tmp 15) (.const (.bool true)) (.tmp 19)) 20 255]
def ybjt:LO:=[mv' 3 21 0,mv' 4 22 0,o3 (.build [.i .i64 0,.i .i64 0] [(0,1,(.tmp 21)),(1,1,(.tmp 22))]) 23 3,mv' 2 24 0,mv' 4 25 0,o3 (.build [.i .i64 0,.i .i64 0] [(0,1,(.tmp 24)),(1,1,(.tmp 25))]) 26 24,o3 (.alloc 43 1 [.i .i64 0,.i .i64 0]) 10 0,o3 (.alloc 43 1 [.i .i64 0,.i .i64 0]) 11 0,o0 (.store 2 (.tmp 10) (.tmp 23)) 199,o0 (.store 2 (.tmp 11) (.tmp 26)) 511]
def ybjb:LO:=[fa' 5 1 5 27 0,ld' false 1 27 28 1]
def ybqc:LO:=[fa' 1 1 6 29 0,ld' false 1 29 30 1,mv' 2 31 0,ld' true 2 10 32 0,o3 (.bslice 43 2 1 [.i .i64 0,.i .i64 0] [(0,2,(.tmp 32))]) 33 8,fa' 1 1 6 34 0,ld' false 1 34 35 32,mv' 2 36 0,ix' 1 35 36 37 224,ld' false 1 37 38 480,o3 (.app 43 2 16 (.tmp 33) (.tmp 38)) 39 1016,ix' 1 30 31 40 2047,o0 (.store 1 (.tmp 40) (.tmp 39)) 4095]
def ybra:LO:=[fa' 1 1 6 41 0,ld' false 1 41 42 1,mv' 3 43 0,ld' true 2 11 44 0,o3 (.bslice 43 2 1 [.i .i64 0,.i .i64 0] [(0,2,(.tmp 44))]) 45 8,fa' 1 1 6 46 0,ld' false 1 46 47 32,mv' 3 48 0,ix' 1 47 48 49 224,ld' false 1 49 50 480,o3 (.app 43 2 16 (.tmp 45) (.tmp 50)) 51 1016,ix' 1 42 43 52 2047,o0 (.store 1 (.tmp 52) (.tmp 51)) 4095]
def yddi:LO:=[fa' 1 1 6 53 0,ld' false 1 53 54 1,mv' 2 55 0,fa' 1 1 6 56 0,ld' false 1 56 57 8,mv' 3 58 0,fa' 1 1 6 59 0,ld' false 1 59 60 64,mv' 2 61 0,ix' 1 60 61 62 448,ld' false 1 62 63 960,ld' true 2 10 64 0,o3 (.bslice 43 2 1 [.i .i64 0,.i .i64 0] [(0,2,(.tmp 64))]) 65 2048,o3 (.app 43 2 16 (.tmp 63) (.tmp 65)) 66 8128,fa' 1 1 6 67 0,ld' false 1 67 68 16384,mv' 3 69 0,ix' 1 68 69 70 114688,ld' false 1 70 71 245760,ld' true 2 11 72 0,o3 (.bslice 43 2 1 [.i .i64 0,.i .i64 0] [(0,2,(.tmp 72))]) 73 524288,o3 (.app 43 2 16 (.tmp 71) (.tmp 73)) 74 2097088,ix' 1 54 55 75 4194247,o0 (.store 1 (.tmp 75) (.tmp 66)) 8388551,ix' 1 57 58 76 16777215,o0 (.store 1 (.tmp 76) (.tmp 74)) 33554431]
def c87:SC:=(.seq (.reg false ycwg) (.seq (.seq (.reg false yctb) (.cond (.tmp 20) .ret .skip)) (.seq (.reg false ybjt) (.seq (.seq (.reg false ybjb) (.cond (.tmp 28) (.seq (.reg true ybqc) (.seq (.reg true ybra) .ret)) .skip)) (.reg true yddi)))))
theorem ycrd:FnM 87 c87 []:=fn_m Tryz.func87 (by kernel_rfl) (by kernel_rfl)
def ycxx:LO:=[o3 (.box 24 (.tmp 0)) 2 0,o3 (.alloc 28 1 [.a (.slice none 0 0),.a (.slice none 0 0)]) 4 0]
def ycyb:LO:=[fa' 0 1 2 10 0,ld' false 1 10 11 1,o3 (.wsub (.tmp 11) (ci' 1)) 12 3,mv' 1 13 0,cl' 44 [12,13] 14 15,o3 (.bin .add (ci' 1) (.tmp 14)) 15 31,mv' 15 5 63]
def ydfq:LO:=[mv' 5 16 0,o3 (.mk 41 1 24 [.a (.slice none 0 0)] (.tmp 16) (.tmp 16)) 17 1,o3 (.build [.a (.slice none 0 0),.a (.slice none 0 0)] [(1,1,(.tmp 17))]) 18 3,o3 (.alloc 28 1 [.a (.slice none 0 0),.a (.slice none 0 0)]) 6 0,o0 (.store 2 (.tmp 6) (.tmp 18)) 15]
def ycwj:LO:=[o3 (.mv (ci' 0)) 7 0]
def ydds:LO:=[mv' 7 19 0,mv' 5 20 0,bn' .lss 19 20 21 3]
def ydcb:LO:=[fa' 3 1 2 24 0,ld' false 1 24 25 1,mv' 7 26 0,cl' 50 [25,26] 27 7,o3 (.call (.func 44) [(.tmp 27),(ci' 256)]) 28 15,mv' 28 8 31]
def ycxz:LO:=[o3 (.mv (ci' 0)) 9 0]
def ydgk:LO:=[mv' 9 29 0,mv' 7 30 0,bn' .lss 29 30 31 3]
def ycbx:LO:=[fa' 0 1 6 34 0,ld' false 1 34 35 1,mv' 9 36 0,ix' 1 35 36 37 7,ld' false 1 37 38 15,mv' 8 39 0,bn' .eql 38 39 40 63]
def yccd:LO:=[mv' 8 41 0,o3 (.bin .add (.tmp 41) (ci' 1)) 42 1,o3 (.bin .rem (.tmp 42) (ci' 256)) 43 3,mv' 43 8 7,o3 (.mv (.const (.int .i64 (-1)))) 9 15]
def yddg:LO:=[mv' 9 32 0,o3 (.bin .add (.tmp 32) (ci' 1)) 33 1,mv' 33 9 3]
def ychq:LO:=[fa' 0 1 6 44 0,ld' false 1 44 45 1,mv' 8 46 0,o3 (.bslice 3 1 1 [.i .i64 0] [(0,1,(.tmp 46))]) 47 4,o3 (.app 3 1 8 (.tmp 45) (.tmp 47)) 48 15,fa' 0 1 6 49 31,o0 (.store 1 (.tmp 49) (.tmp 48)) 63]
def ydbc:LO:=[mv' 7 22 0,o3 (.bin .add (.tmp 22) (ci' 1)) 23 1,mv' 23 7 3]
def yccx:LO:=[ld' true 2 6 50 0,o0 (.store 2 (.tmp 4) (.tmp 50)) 1]
def c88:SC:=(.seq (.reg false ycxx) (.seq (.reg false ycyb) (.seq (.reg false ydfq) (.seq (.seq (.reg false ycwj) (.block 0 (.loop (.seq (.seq (.reg false ydds) (.cond (.tmp 21) .skip (.exit 0))) (.seq (.block 1 (.seq (.reg false ydcb) (.seq (.seq (.reg false ycxz) (.block 2 (.loop (.seq (.seq (.reg false ydgk) (.cond (.tmp 31) .skip (.exit 2))) (.seq (.block 3 (.seq (.reg false ycbx) (.cond (.tmp 40) (.reg false yccd) .skip))) (.reg false yddg)))))) (.reg false ychq)))) (.reg false ydbc)))))) (.seq (.reg false yccx) .ret)))))
theorem yctc:FnM 88 c88 [.c 4 true 2]:=fn_m Tryz.func88 (by kernel_rfl) (by kernel_rfl)
def ycxt:LO:=[o3 (.box 24 (.tmp 0)) 2 0,o3 (.alloc 28 1 [.a (.slice none 0 0),.a (.slice none 0 0)]) 4 0]
def ydae:LO:=[ld' true 6 2 7 0,mv' 1 8 0,cl' 88 [7,8] 9 3,o3 (.alloc 28 1 [.a (.slice none 0 0),.a (.slice none 0 0)]) 5 0,o0 (.store 2 (.tmp 5) (.tmp 9)) 15]
def ydgb:LO:=[o3 (.mv (ci' 1)) 6 0]
def ycui:LO:=[mv' 6 10 0,fa' 1 1 5 11 0,ld' false 1 11 12 2,ln' 12 13 6,bn' .lss 10 13 14 15]
def ycxh:LO:=[ld' true 6 2 17 0,ld' true 2 5 18 0,fa' 1 1 2 19 0,ld' false 1 19 20 4,mv' 6 21 0,o3 (.bin .sub (.tmp 21) (ci' 1)) 22 16,cl' 50 [20,22] 23 60,mv' 6 24 0,cl' 44 [23,24] 25 252,mv' 6 26 0,fa' 2 1 2 27 0,ld' false 1 27 28 1024,mv' 6 29 0,o3 (.bin .sub (.tmp 29) (ci' 1)) 30 4096,cl' 50 [28,30] 31 15868,o3 (.call (.func 44) [(.tmp 31),(ci' 15)]) 32 32252,o3 (.bin .add (ci' 1) (.tmp 32)) 33 65020,cl' 87 [17,18,25,26,33] 34 131071]
def yczc:LO:=[mv' 6 15 0,o3 (.bin .add (.tmp 15) (ci' 1)) 16 1,mv' 16 6 3]
def ydcx:LO:=[ld' true 2 5 35 0,o0 (.store 2 (.tmp 4) (.tmp 35)) 1]
def c48:SC:=(.seq (.reg false ycxt) (.seq (.reg false ydae) (.seq (.seq (.reg false ydgb) (.block 0 (.loop (.seq (.seq (.reg false ycui) (.cond (.tmp 14) .skip (.exit 0))) (.seq (.block 1 (.reg true ycxh)) (.reg false yczc)))))) (.seq (.reg false ydcx) .ret))))
theorem ycsn:FnM 48 c48 [.c 4 true 2]:=fn_m Tryz.func48 (by kernel_rfl) (by kernel_rfl)
def ycyo:LO:=[o3 (.box 24 (.tmp 0)) 2 0,o3 (.box 28 (.tmp 1)) 3 0,o3 (.alloc 28 1 [.a (.slice none 0 0),.a (.slice none 0 0)]) 4 0]
def ydgl:LO:=[fa' 1 1 3 7 0,ld' false 1 7 8 1,ln' 8 9 3,mv' 9 5 7]
def ydfl:LO:=[mv' 5 10 0,mv' 10 6 1]
def ycaf:LO:=[mv' 6 11 0,o3 (.bin .add (.tmp 11) (ci' 1)) 12 1,fa' 1 1 2 13 0,ld' false 1 13 14 4,ln' 14 15 12,bn' .lss 12 15 16 31,mv' 16 17 63,⟨.mv (.tmp 6),some 18,some (17,true),127⟩,⟨.bin .lss (.tmp 18) (ci' 60),some 19,some (17,true),255⟩,o3 (.pick (.tmp 17) (.tmp 19) (.const (.bool false))) 20 511]
def ydfs:LO:=[ld' true 6 2 23 0,ld' true 2 3 24 0,fa' 1 1 2 25 0,ld' false 1 25 26 4,mv' 6 27 0,ix' 1 26 27 28 28,ld' false 1 28 29 60,mv' 5 30 0,cl' 44 [29,30] 31 252,fa' 1 1 2 32 0,ld' false 1 32 33 512,mv' 6 34 0,o3 (.bin .add (.tmp 34) (ci' 1)) 35 2048,ix' 1 33 35 36 7680,ld' false 1 36 37 15872,mv' 5 38 0,cl' 44 [37,38] 39 65532,fa' 2 1 2 40 0,ld' false 1 40 41 131072,mv' 6 42 0,cl' 50 [41,42] 43 1048572,o3 (.call (.func 44) [(.tmp 43),(ci' 15)]) 44 2097148,o3 (.bin .add (ci' 1) (.tmp 44)) 45 4194300,cl' 87 [23,24,31,39,45] 46 8388607]
def yddr:LO:=[mv' 6 21 0,o3 (.bin .add (.tmp 21) (ci' 2)) 22 1,mv' 22 6 3]
def ycsu:LO:=[ld' true 2 3 47 0,o0 (.store 2 (.tmp 4) (.tmp 47)) 1]
def c47:SC:=(.seq (.reg false ycyo) (.seq (.reg false ydgl) (.seq (.seq (.reg false ydfl) (.block 0 (.loop (.seq (.seq (.reg false ycaf) (.cond (.tmp 20) .skip (.exit 0))) (.seq (.block 1 (.reg true ydfs)) (.reg false yddr)))))) (.seq (.reg false ycsu) .ret))))
theorem ycpn:FnM 47 c47 [.c 4 true 2]:=fn_m Tryz.func47 (by kernel_rfl) (by kernel_rfl)
def ydbj:LO:=[o3 (.box 24 (.tmp 0)) 2 0,o3 (.alloc 28 1 [.a (.slice none 0 0),.a (.slice none 0 0)]) 4 0]
def ycyp:LO:=[ld' true 6 2 5 0,ld' true 6 2 6 0,mv' 1 7 0,cl' 48 [6,7] 8 6,cl' 47 [5,8] 9 15,o0 (.store 2 (.tmp 4) (.tmp 9)) 31]
def c15:SC:=(.seq (.reg false ydbj) (.seq (.reg true ycyp) .ret))
theorem ycrp:FnU 15 c15 [.c 4 true 2]:=fn_u Tryz.func15 (by kernel_rfl) (by kernel_rfl)
def yddu:LO:=[o3 (.box 28 (.tmp 0)) 3 0,o3 (.mv (.const (.slice none 0 0))) 6 0]
def yczk:LO:=[fa' 1 1 3 16 0,ld' false 1 16 17 1,ln' 17 18 3,mv' 18 7 7,o3 (.mv (ci' 0)) 8 15]
def ydfn:LO:=[o3 (.mv (ci' 0)) 9 0]
def ycwv:LO:=[mv' 9 19 0,mv' 7 20 0,bn' .lss 19 20 21 3]
def yddm:LO:=[mv' 8 24 0,fa' 0 1 3 25 0,ld' false 1 25 26 2,mv' 9 27 0,ix' 1 26 27 28 14,ld' false 1 28 29 30,o3 (.mm true (.tmp 24) (.tmp 29)) 30 63,mv' 30 8 127]
def ydba:LO:=[mv' 9 22 0,o3 (.bin .add (.tmp 22) (ci' 1)) 23 1,mv' 23 9 3]
def ydaj:LO:=[o3 (.mv (.const (.slice none 0 0))) 10 0]
def ydgo:LO:=[o3 (.mv (ci' 0)) 11 0]
def ydfv:LO:=[mv' 11 31 0,mv' 7 32 0,bn' .lss 31 32 33 3]
def ycgc:LO:=[o3 (.mv (.const (.slice none 0 0))) 12 0]
def ycka:LO:=[o3 (.mv (ci' 0)) 13 0]
def ycld:LO:=[mv' 13 36 0,mv' 1 37 0,ln' 37 38 2,bn' .lss 36 38 39 7]
def yceo:LO:=[mv' 1 42 0,mv' 13 43 0,ix' 6 42 43 44 3,fa' 2 1 44 45 7,ld' false 1 45 46 15,mv' 1 47 0,mv' 13 48 0,ix' 6 47 48 49 96,fa' 3 1 49 50 224,ld' false 1 50 51 480,mv' 1 52 0,mv' 13 53 0,ix' 6 52 53 54 3072,fa' 4 1 54 55 7168,ld' false 1 55 56 15360,mv' 7 57 0,bn' .mul 56 57 58 64512,bn' .add 51 58 59 131040,mv' 1 60 0,mv' 13 61 0,ix' 6 60 61 62 786432,fa' 5 1 62 63 1835008,ld' false 1 63 64 3932160,mv' 8 65 0,bn' .mul 64 65 66 16515072,bn' .add 59 66 67 33554400,mv' 46 14 31,mv' 67 15 134217727]
def ychv:LO:=[mv' 1 68 0,mv' 13 69 0,ix' 6 68 69 70 3,fa' 1 1 70 71 7,ld' false 1 71 72 15]
def ybez:LO:=[o3 (.bin .eql (.tmp 72) (ci' 2)) 74 0,mv' 74 73 1]
def ybfe:LO:=[o3 (.mv (ci' 0)) 14 0,o3 (.mv (ci' 1)) 15 1]
def ybgh:LO:=[o3 (.bin .eql (.tmp 72) (ci' 3)) 76 0,mv' 76 75 1]
def ybft:LO:=[fa' 1 1 3 77 0,ld' false 1 77 78 1,mv' 11 79 0,ix' 1 78 79 80 7,ld' false 1 80 81 15,ln' 81 82 31,o3 (.bin .sub (.tmp 82) (ci' 1)) 83 63,o3 (.mv (.const (.int .i64 (-1)))) 14 0,mv' 83 15 255]
def ybfg:LO:=[mv' 12 84 0,mv' 14 85 0,mv' 2 86 0,mv' 11 87 0,mv' 1 88 0,ln' 88 89 16,bn' .mul 87 89 90 56,mv' 13 91 0,bn' .add 90 91 92 248,cl' 50 [86,92] 93 508,mv' 15 94 0,mv' 14 95 0,bn' .sub 94 95 96 3072,o3 (.bin .add (.tmp 96) (ci' 1)) 97 7168,cl' 44 [93,97] 98 16380,bn' .add 85 98 99 32766,o3 (.bslice 3 1 1 [.i .i64 0] [(0,1,(.tmp 99))]) 100 65534,o3 (.app 3 1 8 (.tmp 84) (.tmp 100)) 101 131071,mv' 101 12 262143]
def ybgn:LO:=[mv' 13 40 0,o3 (.bin .add (.tmp 40) (ci' 1)) 41 1,mv' 41 13 3]
def ycdl:LO:=[mv' 10 102 0,mv' 12 103 0,o3 (.bslice 22 1 1 [.a (.slice none 0 0)] [(0,1,(.tmp 103))]) 104 2,o3 (.app 22 1 24 (.tmp 102) (.tmp 104)) 105 7,mv' 105 10 15]
def ycyy:LO:=[mv' 11 34 0,o3 (.bin .add (.tmp 34) (ci' 1)) 35 1,mv' 35 11 3]
def ycon:LO:=[mv' 10 106 0,mv' 106 6 1]
def c18:SC:=(.seq (.reg false yddu) (.seq (.reg false yczk) (.seq (.seq (.reg false ydfn) (.block 0 (.loop (.seq (.seq (.reg false ycwv) (.cond (.tmp 21) .skip (.exit 0))) (.seq (.block 1 (.reg false yddm)) (.reg false ydba)))))) (.seq (.reg false ydaj) (.seq (.seq (.reg false ydgo) (.block 2 (.loop (.seq (.seq (.reg false ydfv) (.cond (.tmp 33) .skip (.exit 2))) (.seq (.block 3 (.seq (.reg false ycgc) (.seq (.seq (.reg false ycka) (.block 4 (.loop (.seq (.seq (.reg false ycld) (.cond (.tmp 39) .skip (.exit 4))) (.seq (.block 5 (.seq (.reg true yceo) (.seq (.seq (.reg false ychv) (.block 6 (.seq (.reg false ybez) (.cond (.tmp 73) (.reg false ybfe) (.seq (.reg false ybgh) (.cond (.tmp 75) (.reg true ybft) .skip)))))) (.reg false ybfg)))) (.reg false ybgn)))))) (.reg false ycdl)))) (.reg false ycyy)))))) (.seq (.reg false ycon) .ret))))))
theorem ydgw:Fn 18 c18 [.t 6]:=fn_0 Tryz.func18 (by kernel_rfl) (by kernel_rfl)
def yddh:LO:=[o3 (.mv (.const (.slice none 0 0))) 4 0]
def ydbt:LO:=[o3 (.mv (.const (.slice none 0 0))) 5 0]
def ydcp:LO:=[o3 (.mv (ci' 0)) 6 0]
def ydgx:LO:=[mv' 6 9 0,mv' 1 10 0,bn' .lss 9 10 11 3]
def ycxg:LO:=[mv' 0 14 0,ln' 14 15 1,o3 (.bin .eql (.tmp 15) (ci' 0)) 16 3]
def ydcq:LO:=[mv' 5 17 0,o3 (.bslice 44 1 1 [.i .u32 0] [(0,1,(.const (.int .u32 4294967295)))]) 18 0,o3 (.app 44 1 4 (.tmp 17) (.tmp 18)) 19 3,mv' 19 5 7]
def yddn:LO:=[mv' 0 20 0,mv' 6 21 0,mv' 0 22 0,ln' 22 23 4,bn' .rem 21 23 24 14,ix' 1 20 24 25 31,ld' false 1 25 26 63,mv' 6 27 0,mv' 0 28 0,ln' 28 29 256,bn' .quo 27 29 30 896,o3 (.bin .rem (.tmp 30) (ci' 24)) 31 1920,o3 (.conv .u64 (.tmp 31)) 32 3968,mv' 26 7 127,mv' 32 8 16383]
def yczi:LO:=[mv' 7 33 0,o3 (.bin .and (.tmp 33) (.const (.int .u32 16777215))) 34 1,mv' 34 7 3]
def yday:LO:=[mv' 5 35 0,mv' 7 36 0,mv' 8 37 0,bn' .shl 36 37 38 6,mv' 7 39 0,mv' 8 40 0,o3 (.bin .sub (.const (.int .u64 24)) (.tmp 40)) 41 32,bn' .shr 39 41 42 112,bn' .or 38 42 43 254,o3 (.bin .and (.tmp 43) (.const (.int .u32 16777215))) 44 510,o3 (.bslice 44 1 1 [.i .u32 0] [(0,1,(.tmp 44))]) 45 1022,o3 (.app 44 1 4 (.tmp 35) (.tmp 45)) 46 2047,mv' 46 5 4095]
def ycry:LO:=[mv' 6 12 0,o3 (.bin .add (.tmp 12) (ci' 1)) 13 1,mv' 13 6 3]
def ycfm:LO:=[mv' 5 47 0,mv' 47 4 1]
def c20:SC:=(.seq (.reg false yddh) (.seq (.reg false ydbt) (.seq (.seq (.reg false ydcp) (.block 0 (.loop (.seq (.seq (.reg false ydgx) (.cond (.tmp 11) .skip (.exit 0))) (.seq (.block 1 (.seq (.seq (.reg false ycxg) (.cond (.tmp 16) (.seq (.reg false ydcq) (.exit 1)) .skip)) (.seq (.reg true yddn) (.seq (.reg false yczi) (.reg false yday))))) (.reg false ycry)))))) (.seq (.reg false ycfm) .ret))))
theorem yczy:Fn 20 c20 [.t 4]:=fn_0 Tryz.func20 (by kernel_rfl) (by kernel_rfl)
def ydei:LO:=[o3 (.box 28 (.tmp 1)) 6 0,o3 (.mv (.const (.slice none 0 0))) 10 0,o3 (.mv (.const (.slice none 0 0))) 11 2,o3 (.mv (.const (.bool false))) 12 6]
def ycyv:LO:=[mv' 0 17 0,cl' 25 [17] 18 1,ld' true 2 6 19 0,mv' 2 20 0,mv' 3 21 0,mv' 4 22 0,cl' 49 [18,19,20,21,22] 23 63,mv' 23 16 127,xt' 16 0 24 255,xt' 16 1 25 255,xt' 16 2 26 255,mv' 24 13 511,mv' 25 14 3071,mv' 26 15 8191]
def ydgy:LO:=[mv' 13 27 0,mv' 14 28 0,mv' 15 29 0,o3 (.bin .eql (.tmp 29) (ci' 0)) 30 4,mv' 30 31 12,⟨.mv (.tmp 13),some 32,some (31,true),28⟩,⟨.len (.tmp 32),some 33,some (31,true),60⟩,⟨.mv (.tmp 14),some 34,some (31,true),28⟩,⟨.len (.tmp 34),some 35,some (31,true),156⟩,⟨.bin .eql (.tmp 33) (.tmp 35),some 36,some (31,true),508⟩,o3 (.pick (.tmp 31) (.tmp 36) (.const (.bool false))) 37 1020,mv' 37 38 2044,⟨.mv (.tmp 13),some 39,some (38,true),4092⟩,⟨.len (.tmp 39),some 40,some (38,true),8188⟩,⟨.bin .gtr (.tmp 40) (ci' 0),some 41,some (38,true),16380⟩,o3 (.pick (.tmp 38) (.tmp 41) (.const (.bool false))) 42 32764,mv' 27 10 4093,mv' 28 11 69631,mv' 42 12 262143]
def c16:SC:=(.seq (.reg false ydei) (.seq (.reg true ycyv) (.seq (.reg false ydgy) .ret)))
theorem ydai:Fn 16 c16 [.t 10,.t 11,.t 12]:=fn_0 Tryz.func16 (by kernel_rfl) (by kernel_rfl)
end Sh
end Go.Proofs.YtpngeppkgoaimaaGreatDoor

namespace Go.Proofs.YtpngeppkgoaimaaGreatDoor
open Go
namespace Sh
open Ev Go.RowKit
set_option maxRecDepth 8000
instance:Inhabited Cnt:=⟨⟨0,0,0,0,0⟩⟩
def seeO(cs:List Conf)(ks:List Cnt):Own:=[(1,.one (some ⟨30,true,1,1,fun _=>[.os (2,0) 0 cs.length true]⟩)),(2,.one (some ⟨35,false,1,cs.length,fun i=>[ybe (cs.getD i [])]⟩)),
 (3,.one (some ⟨31,true,1,1,fun _=>[.os (4,0) 0 ks.length true]⟩)),(4,.one (some ⟨46,false,5,ks.length,fun i=>cntV (ks.getD i default)⟩))]
def ycsw:Own:=[(1,.one (some ⟨30,true,1,1,fun _=>[.a (.slice none 0 0)]⟩)),(3,.one (some ⟨31,true,1,1,fun _=>[.a (.slice none 0 0)]⟩))]
theorem ybyq(cs:List Conf)(ks:List Cnt)(h1:0<cs.length/\cs.length<=5000)(h2:0<ks.length/\ks.length<=5000){c:Conf}(hc:∀ s ∈ c,0<s.length/\s.length<=1000)(hl:c.length<=1000)(e:Nat)(k:Cnt) :
  Cm Tryz.prog 91 [(1,0),(3,0)] (seeO cs ks) [ybe c,.i .u32 e,.ag (cntV k),.pt (1,0) 0 0,.pt (3,0) 0 0] fun r o=>r = .tp []/\o=seeO (cs ++ [c]) (ks ++ [k]):=by
 refine ybur [(1,0),(3,0)] [] _ _ _ ?_;obtain⟨n,hn⟩:∃ n,cs.length=n:=⟨_,rfl⟩;obtain⟨m,hm⟩:∃ m,ks.length=m:=⟨_,rfl⟩;have hC:=yvm c hc hl;obtain⟨O2,hO2⟩:∃ O,seeO (cs ++ [c]) (ks ++ [k])=O:=⟨_,rfl⟩;rw[hO2];simp only[c91,yctv,ycsb,ycqb,seeO,cntV,hn,hm,go_sem,Nat.reduceEqDiff,Nat.reduceAdd,Nat.reduceLT,↓reduceIte,reduceCtorEq];refine hC.use ?_;simp only[thenO,clash,yfj,go_sem,Nat.reduceEqDiff,Nat.reduceAdd,Nat.reduceLeDiff,Nat.reduceLT,↓reduceIte,reduceCtorEq]
 refine⟨by decide,⟨by omega,by omega⟩,by decide,by decide,⟨by omega,by omega⟩,.tp [],O2,?_,?_,rfl,rfl⟩
 ·subst hO2;refine ycm [(2,fun i=>(12,i)),(4,fun i=>(16,i))] [] [] ?_;simp only[seeO,cntV,List.length_append,hn,hm,allQ,live,yc,go_sem,Nat.reduceEqDiff,↓reduceIte,reduceCtorEq];have gl:∀ {α:Type} (l:List α) (x d:α) (i:Nat),i<l.length->(l ++ [x]).getD i d=l.getD i d:=fun l x d i h=>by simp[List.getD,List.getElem?_append_left h]
  have gr:∀ {α:Type} (l:List α) (x d:α),(l ++ [x]).getD l.length d=x:=fun l x d=>by simp[List.getD]
  refine⟨fun i hi=>?_,fun i hi=>?_⟩
  ·by_cases q:i<n
   ·simp only[if_pos q,gl cs c [] i (by omega)]
    simp only[go_sem,live,yc,go_sem]
   ·obtain rfl:i=n:=by omega
    simp only[if_neg q,Nat.sub_self,Nat.zero_mul];have e:=gr cs c [];rw[hn]at e;simp only[e,live,yc,go_sem]
  ·by_cases q:i<m
   ·simp only[if_pos q,gl ks k default i (by omega)]
    simp only[go_sem,live,yc,go_sem,reduceCtorEq]
   ·obtain rfl:i=m:=by omega
    simp only[if_neg q,Nat.sub_self,Nat.zero_mul];have e:=gr ks k default;rw[hm]at e;simp only[e,live,yc,go_sem,reduceCtorEq]
 ·subst hO2;simp only[seeO,cntV,famCln,yeo,allQ,live,go_sem,Nat.reduceEqDiff,↓reduceIte]
theorem ybnn{c:Conf}(hc:∀ s ∈ c,0<s.length/\s.length<=1000)(hl:c.length<=1000)(e:Nat)(k:Cnt) :
  Cm Tryz.prog 91 [(1,0),(3,0)] ycsw [ybe c,.i .u32 e,.ag (cntV k),.pt (1,0) 0 0,.pt (3,0) 0 0] fun r o=>r = .tp []/\o=seeO [c] [k]:=by
 refine ybur [(1,0),(3,0)] [] _ _ _ ?_;have hC:=yvm c hc hl;obtain⟨O2,hO2⟩:∃ O,seeO [c] [k]=O:=⟨_,rfl⟩;rw[hO2];simp only[c91,yctv,ycsb,ycqb,ycsw,cntV,go_sem,Nat.reduceEqDiff,Nat.reduceAdd,Nat.reduceLT,↓reduceIte,reduceCtorEq];refine hC.use ?_;simp only[thenO,clash,yfj,go_sem,Nat.reduceEqDiff,Nat.reduceAdd,Nat.reduceLeDiff,Nat.reduceLT,Nat.reduceMul,↓reduceIte,reduceCtorEq];refine⟨by decide,by decide,by decide,.tp [],O2,?_,?_,rfl,rfl⟩
 ·subst hO2;refine ycm [(2,fun i=>(12,i)),(4,fun i=>(16,i))] [] [] ?_;simp only[seeO,cntV,allQ,live,yc,go_sem,Nat.reduceEqDiff,↓reduceIte,reduceCtorEq];refine⟨fun i hi=>?_,fun i hi=>?_⟩
  ·obtain rfl:i=0:=by omega
   simp only[Nat.zero_mul];simp only[List.getD_cons_zero,live,yc,go_sem]
  ·obtain rfl:i=0:=by omega
   simp only[Nat.zero_mul];simp only[List.getD_cons_zero,live,yc,go_sem,reduceCtorEq]
 ·subst hO2;simp only[seeO,cntV,famCln,yeo,allQ,live,go_sem,Nat.reduceEqDiff,↓reduceIte]
structure DaemonOk(kind:Int)(net:List Nat)(res:Nat->Nat->Nat):Prop where
 resolve:∀ (e w:Nat),e<2 ^ 24->e ≠ 0->w<2 ^ 32->Returns Tryz.prog 123 [usV net,.i .i64 kind,.i .u32 e,.i .u32 w] (.i .u32 (res e w))
 permits:∀ (e w:Nat),e<2 ^ 24->e ≠ 0->w<2 ^ 32->Returns Tryz.prog 146 [usV net,.i .i64 kind,.i .u32 e,.i .u32 (res e w)] (.b true)
 zero:∀ (w:Nat),w<2 ^ 32 -> ∃ x:Nat,Returns Tryz.prog 123 [usV net,.i .i64 kind,.i .u32 0,.i .u32 w] (.i .u32 x)
 sub:∀ (e w:Nat),e ≠ 0->e<2 ^ 24->res e w ≠ 0/\subB (res e w) e
theorem ybei{kind:Int}{net:List Nat}{res:Nat->Nat->Nat}(hd:DaemonOk kind net res)(rest:SV)(liv:SV)(mv:SV){ws:List Nat}(hw:∀ k,ws.getD k 0<2 ^ 32){e:Nat}(he:e<2 ^ 24)(h0:e ≠ 0){k:Nat}(hk:k<ws.length) :
  Returns Tryz.prog 122 [.i .i64 k,.i .u32 e,.rf [mv,usV net,.i .i64 kind,liv,rest],.rf [usV ws]] (.tp [.i .u32 (res e (ws.getD k 0)),.b true]):=by
 refine Returns.of (yboa _ _ ?_);have hR:=hd.resolve e (ws.getD k 0) he h0 (hw k);have z0:((e:Int) != 0)=true:=by simp;omega
 simp only[usV]at hR;simp only[c122,ybok,ybtd,usV,clash,go_sem,Nat.reduceEqDiff,Nat.reduceAdd,Nat.reduceLeDiff,↓reduceIte,reduceCtorEq];refine⟨by omega,hR.use ?_⟩
 simp only[thenO,clash,z0,go_sem,Nat.reduceEqDiff,Nat.reduceAdd,↓reduceIte,reduceCtorEq];exact Sim.refl _
theorem ybck{kind:Int}{net:List Nat}{res:Nat->Nat->Nat}(hd:DaemonOk kind net res)(rest:SV)(liv:SV)(mv:SV){ws:List Nat}(hw:∀ k,ws.getD k 0<2 ^ 32){k:Nat}(hk:k<ws.length) :
  ∃ x:Nat,Returns Tryz.prog 122 [.i .i64 k,.i .u32 0,.rf [mv,usV net,.i .i64 kind,liv,rest],.rf [usV ws]] (.tp [.i .u32 x,.b false]):=by
 obtain⟨x,hR⟩:=hd.zero (ws.getD k 0) (hw k);refine⟨x,Returns.of (yboa _ _ ?_)⟩;simp only[usV]at hR;simp only[c122,ybok,ybtd,usV,clash,go_sem,Nat.reduceEqDiff,Nat.reduceAdd,Nat.reduceLeDiff,↓reduceIte,reduceCtorEq];refine⟨by omega,hR.use ?_⟩
 simp only[thenO,clash,Int.reduceBNe,go_sem,Nat.reduceEqDiff,Nat.reduceAdd,↓reduceIte,reduceCtorEq];exact Sim.refl _
theorem ybqj{s e n:Nat}(h:subB s e)(he:e<2 ^ n):s<2 ^ n:=by
 refine Nat.lt_pow_two_of_testBit _ fun i hi=>?_;cases hb:s.testBit i with
 | false=>rfl
 | true =>
  have:=h i hb;rw[Nat.testBit_lt_two_pow (Nat.lt_of_lt_of_le he (Nat.pow_le_pow_right (by omega) hi))]at this
  cases this
theorem ybwq{s e:Nat}(h:subB s e):difB s e=0:=by
 rw[ycl];intro i;rw[yjf];cases hb:s.testBit i with
 | false=>rfl
 | true=>rw[h i hb];rfl
theorem ybbz(e w:Nat)(h0:e ≠ 0)(he:e<2 ^ 24):resD e w ≠ 0/\subB (resD e w) e:=by
 unfold resD;split
 ·exact⟨ycql h0 (by omega),ybvz e⟩
 ·rename_i h
  refine⟨h,fun i hi=>?_⟩;rw[Nat.testBit_and,Bool.and_eq_true]at hi;exact hi.2
theorem ybbc(net:List Nat):DaemonOk 3 net resD where
 resolve:=fun e w he h0 hw=>yzg (usV net) (by simp[usV,yvx,ybel]) he h0 hw
 permits:=fun e w he h0 hw=>by
  obtain⟨h1,h2⟩:=ybbz e w h0 he;exact ywz (usV net) he h1 (ybqj h2 he) (ybwq h2)
 zero:=fun w hw=>⟨0,by
  refine Returns.of (yvb _ _ ?_);have a0:=u32_and (a:=w) (b:=0) (by omega) (by omega)
  rw[Nat.and_zero]at a0;have a1:IntKind.wrap .u32 (0 - 0)=0:=by decide
  have a2:=u32_and (a:=0) (b:=0) (by omega) (by omega)
  rw[Nat.and_zero]at a2;simp only[Int.natCast_zero,IntKind.bits]at a0 a2;simp only[usV,c123,yxq,yban,yzp,ybab,ypv,yql,yqp,yka,ywm,IntKind.signed,a0,a1,a2,Int.reduceBEq,yw,go_sem,Nat.reduceEqDiff,Nat.reduceAdd,Nat.reduceLT,↓reduceIte,reduceCtorEq];rfl⟩
 sub:=fun e w h0 he=>ybbz e w h0 he
theorem ybsr(net:List Nat):DaemonOk 4 net resS where
 resolve:=fun e w he h0 hw=>yxd (usV net) (by simp[usV,yvx,ybel]) he h0 hw
 permits:=fun e w he h0 hw=>ybar (usV net) he h0
 zero:=fun w hw=>⟨0,by
  refine Returns.of (yvb _ _ ?_);have a0:=u32_and (a:=w) (b:=0) (by omega) (by omega)
  rw[Nat.and_zero]at a0;have a1:IntKind.wrap .u32 (0 - 0)=0:=by decide
  have a2:=u32_and (a:=0) (b:=0) (by omega) (by omega)
  rw[Nat.and_zero]at a2;simp only[Int.natCast_zero,IntKind.bits]at a0 a2;simp only[usV,c123,yxq,yban,yzp,ybab,ypv,yql,yqp,yka,yvy,IntKind.signed,a0,a1,a2,Int.reduceBEq,yw,go_sem,Nat.reduceEqDiff,Nat.reduceAdd,Nat.reduceLT,↓reduceIte,reduceCtorEq];rfl⟩
 sub:=fun e w h0 _=>⟨h0,fun _ h=>h⟩
end Sh
end Go.Proofs.YtpngeppkgoaimaaGreatDoor

namespace Go.Proofs.YtpngeppkgoaimaaGreatDoor
open Go
def stAt(S:Sys)(res:Nat->Nat->Nat):List Nat->Conf->Cnt->Nat->Conf × Cnt
 | _,c,k,0=>(c,k)
 | ws,c,k,i+1=>stAt S res ws.tail (S.mv c (res (S.en c) (ws.getD 0 0))) (addP k (res (S.en c) (ws.getD 0 0)) (S.en (S.mv c (res (S.en c) (ws.getD 0 0))))) i
theorem ybal(S:Sys)(res:Nat->Nat->Nat):∀ (i:Nat) (ws:List Nat) (c:Conf) (k:Cnt),
  stAt S res ws c k (i+1)=(S.mv (stAt S res ws c k i).1 (res (S.en (stAt S res ws c k i).1) (ws.getD i 0)),addP (stAt S res ws c k i).2 (res (S.en (stAt S res ws c k i).1) (ws.getD i 0)) (S.en (S.mv (stAt S res ws c k i).1 (res (S.en (stAt S res ws c k i).1) (ws.getD i 0)))))
 | 0,ws,c,k=>rfl
 | i+1,ws,c,k=>by
  show stAt S res ws.tail _ _ (i+1)=_;rw[ybal S res i ws.tail];have e:ws.tail.getD i 0=ws.getD (i+1) 0:=by cases ws<;>rfl
  rw[e];rfl
theorem yyk(S:Sys)(res:Nat->Nat->Nat):∀ (ws:List Nat) (c:Conf) (k:Cnt) (i:Nat),(∀ j,j<i->S.en (stAt S res ws c k j).1 ≠ 0)->i<=ws.length->(i=ws.length\/S.en (stAt S res ws c k i).1=0) ->
  S.run res ws c k=(List.range i).map fun j=>stAt S res ws c k (j+1)
 | [],c,k,i,_,hi,_=>by
  have:i=0:=by simpa using hi
  subst this;rfl
 | w :: ws,c,k,0,_,_,h=>by
  have h0:S.en c=0:=by
   rcases h with h | h
   ·simp at h
   ·exact h
  unfold Sys.run;rw[if_pos h0];rfl
 | w :: ws,c,k,i+1,hj,hi,h=>by
  have h0:S.en c ≠ 0:=hj 0 (by omega)
  unfold Sys.run;rw[if_neg h0];simp only
  have e:=yyk S res ws (S.mv c (res (S.en c) w)) (addP k (res (S.en c) w) (S.en (S.mv c (res (S.en c) w)))) i (fun j hj'=>hj (j+1) (by omega)) (by simpa using hi) (by
   rcases h with h | h
   ·exact .inl (by simpa using h)
   ·exact .inr h)
  rw[e,List.range_succ_eq_map,List.map_cons,List.map_map];rfl
theorem ybie(S:Sys)(res:Nat->Nat->Nat)(ws:List Nat)(c:Conf)(i:Nat)(hj:∀ j,j<i->S.en (stAt S res ws c (ycz (S.en c)) j).1 ≠ 0)(hi:i<=ws.length)(h:i=ws.length\/S.en (stAt S res ws c (ycz (S.en c)) i).1=0) :
  S.runs res ws c=(List.range (i+1)).map fun j=>stAt S res ws c (ycz (S.en c)) j:=by
 unfold Sys.runs;rw[yyk S res ws c _ i hj hi h,List.range_succ_eq_map,List.map_cons,List.map_map];rfl
theorem ybzb{kind:Int}{b:Int × Int}(hb:b.1<=b.2)(h3:kind=3->b.1 <= -1 /\ -1<=b.2)(x:Int):b.1<=ygc kind b x/\ygc kind b x<=b.2:=by
 unfold ygc;split
 ·assumption
 ·split
  ·exact h3 (by assumption)
  ·split<;>omega
namespace Sh
theorem ybgg{p:ProgT}{g:Gr}(hg:yx g)(hp:p.ok=true)(hf:yuj p g=true){x:VarR}(hx:x ∈ p.vars)(v:Nat):(ybg g v x).1<=(ybg g v x).2/\(x.kind=3->(ybg g v x).1 <= -1 /\ -1<=(ybg g v x).2):=by
 have h1:=List.all_eq_true.1 hf x hx;have hp':=hp;unfold ProgT.ok at hp';simp only[Bool.and_eq_true,decide_eq_true_eq]at hp';have hxo:=ybdv (List.all_eq_true.1 hp'.1.1.2 _ hx);rcases hxo.1 with h | h | h
 ·have e:ybg g v x=ybg g 0 x:=by unfold ybg;rw[if_pos h,if_pos h]
  rw[e];simp[h]at h1;exact⟨h1.1,fun q=>by omega⟩
 ·unfold ybg;rw[if_neg (by omega),if_pos h]
  exact⟨by decide,fun q=>by omega⟩
 ·unfold ybg;rw[if_neg (by omega),if_neg (by omega),if_pos h]
  exact⟨by simp only[];omega,fun _=>⟨by simp only[];omega,by simp only[];omega⟩⟩
theorem ybqn{p:ProgT}{g:Gr}(hg:yx g)(hp:p.ok=true)(hf:yuj p g=true){v:Nat}{s:List Int}(hs:ydy (p.vars.map (ybg g v)) s){a:Int}(ha:0<=a/\a<p.vars.length)(y:Int) :
  ydy (p.vars.map (ybg g v)) (s.set a.toNat (ygc (p.vars.getD a.toNat default).kind (ybg g v (p.vars.getD a.toNat default)) y)):=by
 refine⟨by rw[List.length_set];exact hs.1,fun i b x hb hx=>?_⟩
 by_cases q:a.toNat=i
 ·subst q;have hlt:a.toNat<p.vars.length:=by omega
  rw[List.getElem?_map,List.getElem?_eq_getElem hlt]at hb;cases hb
  have hl:a.toNat<s.length:=by rw[hs.1,List.length_map];exact hlt
  rw[List.getElem?_set_self hl]at hx;cases hx
  rw[getD_at hlt];obtain⟨h1,h2⟩:=ybgg hg hp hf (List.getElem_mem hlt) v;exact ybzb h1 h2 y
 ·rw[List.getElem?_set_ne q]at hx;exact hs.2 i b x hb hx
theorem ysx{p:ProgT}{g:Gr}(hg:yx g)(hp:p.ok=true)(hf:yuj p g=true)(c:Conf)(v:Nat):∀ (sets:List (Int × Ex)) (s:List Int),(∀ a ∈ sets,0<=a.1/\a.1<p.vars.length)->ydy (p.vars.map (ybg g v)) s->ydy (p.vars.map (ybg g v)) (ynb p g c v s sets)
 | [],s,_,hs=>hs
 | a :: sets,s,ha,hs=>by
  show ydy _ (ynb p g c v (s.set _ _) sets);exact ysx hg hp hf c v sets _ (fun x hx=>ha x (List.mem_cons_of_mem _ hx)) (ybqn hg hp hf hs (ha a List.mem_cons_self) _)
theorem ytx{p:ProgT}{g:Gr}(hg:yx g)(hp:p.ok=true)(hf:yuj p g=true){c:Conf}(hc:ydk p g c=true)(s:Nat):ydk p g (ykp p g c s)=true:=by
 have h:=(yft _ _ _).1 hc;refine(yft _ _ _).2 ⟨by rw[yif];exact h.1,fun v st hst=>?_⟩
 have hv:v<c.length:=by
  have:=(List.getElem?_eq_some_iff.1 hst).1
  rwa [yif]at this
 have e:st=(ykp p g c s).getD v []:=by simp[List.getD,hst]
 rw[yls p g c s hv]at e;have hold:=h.2 v (c.getD v []) (by rw[getD_at hv];exact List.getElem?_eq_getElem hv)
 rw[e];split
 ·unfold yzt;refine ysx hg hp hf c v _ _ (fun a ha=>?_) hold;have hp':=hp;unfold ProgT.ok at hp';simp only[Bool.and_eq_true,decide_eq_true_eq]at hp'
  by_cases hr:(yfv p g c v).toNat<p.rules.length
  ·rw[getD_at hr]at ha;have hok:=List.all_eq_true.1 hp'.2 _ (List.getElem_mem hr);unfold RuleT.ok at hok;simp only[Bool.and_eq_true,decide_eq_true_eq]at hok;have:=List.all_eq_true.1 hok.2 a ha;simp only[Bool.and_eq_true,decide_eq_true_eq]at this;exact this.1.1
  ·have:p.rules.getD (yfv p g c v).toNat default=default:=by simp[List.getD,List.getElem?_eq_none (Nat.le_of_not_lt hr)]
   rw[this]at ha;cases ha
 ·exact hold
theorem ymm{p:ProgT}{g:Gr}(hg:yx g)(hp:p.ok=true){c:Conf}(hc:ydk p g c=true):(∀ s ∈ c,0<s.length/\s.length<=1000)/\c.length<=1000:=by
 have h:=yja hg hp hc;have hp':=hp;unfold ProgT.ok at hp';simp only[Bool.and_eq_true,decide_eq_true_eq]at hp';have:=hg.2.1;exact⟨fun s hs=>by have:=(h.row s hs).1;omega,by rw[h.len];omega⟩
theorem ybvs(p:ProgT)(g:Gr)(c:Conf):ybm p g c<2 ^ g.ids.length:=ybff _ _
end Sh
end Go.Proofs.YtpngeppkgoaimaaGreatDoor

