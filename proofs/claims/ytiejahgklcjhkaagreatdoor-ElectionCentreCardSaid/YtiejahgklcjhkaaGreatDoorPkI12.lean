/- Joined. -/
import Derived.Test.YtiejahgklcjhkaaGreatDoorPkI11
set_option linter.unusedSimpArgs false
set_option linter.unusedVariables false
open List renaming getElem?_eq_getElem→zA,mem_of_getElem?→zC,replicate→zD,getD→zG,getD_eq_getElem?_getD→zJ,getElem_append_left→zK,take_length→zM,getElem_mem→zN,mem_cons_self→zO,foldl_append→zS,getElem_append_right→zT,mem_cons_of_mem→zU,getElem?_set→zW,all_eq_true→zX,range→zY,range_succ→zZ
open Nat renaming le_refl→zB,reduceEqDiff→zF,reduceAdd→zL,add_sub_cancel→zV,zero_le→zAA
open Int renaming eq_ofNat_of_zero_le→zH,toNat_natCast→zQ
open Bool renaming and_eq_true→zI
namespace Go.Proofs.YtiejahgklcjhkaaGreatDoor
section
namespace Sh
open Go Ev
def yw(l:List Int):SV:=.sl 1 l.length (fun k=>[.i .i64 (l.getD k 0)])
def ybc(ls:List (Int×Int)):SV:=.sl 2 ls.length (fun j=>[.i .i64 (ls.getD j (0,0)).1,.i .i64 (ls.getD j (0,0)).2])
def yx(ps:List (List (Int×Int))):SV:=.sl 1 ps.length (fun v=>[ybc (ps.getD v [])])
def ybk(c:List (List Int)):SV:=.sl 1 c.length (fun v=>[yw (c.getD v [])])
def grV(g:Gr):SV:=.ag [yw g.ids,yx g.ports]
theorem ik{n:Int}(h1:-1000000000000<=n)(h2:n<=1000000000000):inK .i64 n:=by
 unfold inK;simp[IntKind.min,IntKind.max,IntKind.bits,IntKind.signed];omega
theorem ikw{n:Int}(h1:-4611686018427387904<=n)(h2:n<=4611686018427387904):inK .i64 n:=by
 unfold inK;simp[IntKind.min,IntKind.max,IntKind.bits,IntKind.signed];omega
theorem getD_at{α:Type}{l:List α}{k:Nat}{d:α}(h:k<l.length):l.getD k d=l[k]:=by simp[zG,h]
theorem ycdh{l:List Int}{i k:Nat}{x:Int}(h:i<l.length):(l.set i x).getD k 0=if k=i then x else l.getD k 0:=by
 simp only[zG,zW]
 by_cases q:i=k
 ·subst q;simp[h]
 ·rw[if_neg q,if_neg (Ne.symm q)]
set_option maxRecDepth 8000
theorem ybxt(l:List Int)(x:Int)(hl:l.length<=100000):Returns Tryz.prog 165 [yw l,.i .i64 x] (.i .i64 (idxP l x)):=by
 refine Returns.of (yddu _ _ ?_);simp only[c165,ycij,ycrt,yw,go_sem,zL,↓reduceIte,reduceCtorEq];refine ybm (σ:=Nat) (fun k=>⟨[(8,.i .i64 k),(0,yw l),(1,.i .i64 x),(7,.i .i64 l.length)],[]⟩) (fun k=>k<=l.length/\(l.take k).findIdx? (fun y=>x==y)=none) (fun k=>l.length-k) 0 ⟨zAA _,by simp⟩ ?_ ?_
 ·refine yh [] [] [] ?_;simp only[yw,allQ,live,yc,Int.natCast_zero,go_sem,zF,↓reduceIte,reduceCtorEq]
 ·intro k ⟨hk,hno⟩;simp only[yciz,ycrw,ycrq,ycis,ycsf,ychs,yw,ybb,go_sem,zF,zL,↓reduceIte,reduceCtorEq];refine⟨fun h=>⟨by omega,fun he=>?_,fun he=>⟨ik (by omega) (by omega),?_⟩⟩,fun h=>?_⟩
  ·have hlt:k<l.length:=by omega
   rw[ycaw hlt (by rw[he,getD_at hlt]) hno]
  ·have hlt:k<l.length:=by omega
   refine yj (k+1) ⟨by omega,ychb hlt (by rw[<-getD_at (d:=0) hlt];exact he) hno⟩ (by omega) ?_
   refine yh [] [] [] ?_;simp only[allQ,live,yc,ybb,go_sem,zF,↓reduceIte,reduceCtorEq];simp
  ·obtain rfl:k=l.length:=by omega
   rw[ybvu hno]
theorem ydes(l:List Int)(h0:0<l.length)(hl:l.length<=100000):Returns Tryz.prog 160 [yw l] (.i .i64 (maxI l)):=by
 refine Returns.of (yddx _ _ ?_);simp only[c160,ycml,ycox,yctz,ycqh,ycrd,yw,go_sem,Int.reduceToNat,zF,zL,↓reduceIte,reduceCtorEq];refine⟨fun h=>by omega,fun _=>⟨by omega,?_⟩⟩
 refine ybm (σ:=Nat) (fun k=>⟨[(4,.i .i64 k),(3,.i .i64 (ybbm l k)),(0,yw l)],[]⟩) (fun k=>1<=k/\k<=l.length) (fun k=>l.length-k) 1 ⟨by omega,by omega⟩ ?_ ?_
 ·refine yh [] [] [] ?_;simp only[yw,ybxl,allQ,live,yc,ybb,go_sem,zF,↓reduceIte,reduceCtorEq];cases l<;>simp at h0 ⊢
 ·intro k ⟨hk1,hk⟩;simp only[ychp,ycky,ychm,ycur,yw,ybb,go_sem,zF,zL,↓reduceIte,reduceCtorEq];refine⟨fun h=>⟨by omega,ik (by omega) (by omega),?_⟩,fun h=>?_⟩
  ·refine yj (k+1) ⟨by omega,by omega⟩ (by omega) ?_
   refine yh [] [] [] ?_;have hlt:k<l.length:=by omega
   simp only[ybng hk1 hlt,getD_at hlt,allQ,live,yc,ybb,go_sem,zF,↓reduceIte,reduceCtorEq];simp
  ·obtain rfl:k=l.length:=by omega
   rfl
end Sh
end
section
namespace Sh
open Go Ev Go.RowKit
def GrI(g:Gr):Prop:=(∀x∈g.ids,I64 x)/\∀ls∈g.ports,∀l∈ls,I64 l.1/\I64 l.2
def ybws(c:List (List Int)):Prop:=∀s∈c,∀x∈s,I64 x
section
variable {G:AM}{m:Mem}{φ:Phi}{M:AM}{w:World}{u u':Value}
theorem yceu {α:Type}{z n:Nat}{gg:Nat->List SV}{xs:List α}{E:Elem α}(hG:Le G m.b.get) (hr:RV G om0 (.sl z n gg) u) (hv:VR φ u u') (hR:Rel φ M w) (hs:Sub m M) (hn:xs.length=n)
 (hE:∀k x b o L L',xs[k]?=some x->RVL G om0 (gg k) L->VRL φ L L'->(∀j v,L'[j]?=some v->w.cell? ⟨b,o+j,none⟩=some v)->E w b o x):SlAt z E w u' xs:=by
 rcases hr.sl_inv with⟨rfl,h0⟩|⟨bk,p,cp,T,N,e,zz,L,rfl,g1,g2,g3,g4,g5,g6,g7⟩
 ·have:xs=[]:=List.eq_nil_of_length_eq_zero hn;subst this;rcases h0 with rfl|⟨b,o,c,rfl⟩
  ·have e:=hv.eq_simple rfl;subst e;exact SlAt.nil w
  ·obtain⟨lc,A,c',k1,k2,k3,k4,k5,k6,k7⟩:=hv.slice_inv;subst k3;exact⟨some A,c',rfl,zAA _,k6,fun q=>absurd q (by simp)⟩
 ·obtain⟨lc,A,c',k1,k2,k3,k4,k5,k6,k7⟩:=hv.slice_inv;subst k3;subst hn;refine⟨some A,c',rfl,k4,k6,fun hpos=>?_⟩;rcases k7 with⟨rfl,_⟩|k7
  ·obtain⟨lc',h1,h2⟩:=hR.blk _ _ (hs _ _ (hG _ _ g1));have k1':φ bk=some lc:=k1;rw[k1']at h1;cases h1
   obtain⟨h3,h4,cs,e2,fz2,h0,h5,h6,h7⟩:=h2;refine⟨lc.blk,lc.base+p,rfl,(Array.getElem?_eq_some_iff.1 h5).1,fun k x hx=>?_⟩;have hk:k<xs.length:=(List.getElem?_eq_some_iff.1 hx).1;have hin:=yjj (z:=z) hk;have hcells:∀j v,j<z->(L k)[j]?=some v->∃v',cs[lc.base+(p+k*z+j)]?=some v'/\VR φ v v':=fun j v hj hv=>h7 _ v (by omega) (by rw[g5 k hk j hj];exact hv)
   have hex:∀(l:List Value) (q:Nat),(∀j v,l[j]?=some v->∃v',cs[q+j]?=some v'/\VR φ v v')->∃l',VRL φ l l'/\∀j v,l'[j]?=some v->cs[q+j]?=some v:=by
    intro l
    induction l with
    |nil=>intro q _;exact⟨[],.nil,fun j v h=>by simp at h⟩
    | cons a l ih =>
      intro q h;obtain⟨v',e1,e2⟩:=h 0 a rfl;obtain⟨l',e3,e4⟩:=ih (q+1) (fun j v hv=>by have:=h (j+1) v (by simpa using hv);rw[show q+1+j=q+(j+1)by omega];exact this)
      refine⟨v'::l',.cons e2 e3,fun j v hv=>?_⟩;cases j with
      |zero=>simp at hv;subst hv;exact e1
      |succ j=>have:=e4 j v (by simpa using hv);rw[show q+(j+1)=q+1+j by omega];exact this
   obtain⟨L',r1,r2⟩:=hex (L k) (lc.base+p+k*z) (fun j v hv=>by
    have hj:j<z:=by rw[<-g4 k hk];exact(List.getElem?_eq_some_iff.1 hv).1
    have:=hcells j v hj hv;rw[show lc.base+p+k*z+j=lc.base+(p+k*z+j)by omega]
    exact this)
   exact hE k x _ _ (L k) L' hx (g6 k hk) r1 fun j v hv=>cell_of h5 (by have:=r2 j v hv;exact this)
  ·omega
theorem ints_at{l:List Int}(hG:Le G m.b.get)(hr:RV G om0 (yw l) u)(hv:VR φ u u')(hR:Rel φ M w)(hs:Sub m M)(hI:∀x∈l,I64 x):yjz w u' l:=by
 refine yceu hG hr hv hR hs rfl fun k x b o L L' hx hL hL' hc=>?_;have hk:k<l.length:=(List.getElem?_eq_some_iff.1 hx).1;have hxe:l.getD k 0=x:=by simp[zG,hx]
 rw[hxe]at hL;cases hL with
 | cons a b =>
   cases b
   cases a.int_inv
   obtain⟨v',rfl,hvv⟩:=yfz hL';have:=hvv.eq_simple rfl;subst this;exact⟨hc 0 _ rfl,hI x (zC hx)⟩
theorem ycaz{ls:List (Int×Int)}(hG:Le G m.b.get)(hr:RV G om0 (ybc ls) u)(hv:VR φ u u')(hR:Rel φ M w)(hs:Sub m M)(hI:∀l∈ls,I64 l.1/\I64 l.2):ybir w u' ls:=by
 refine yceu hG hr hv hR hs rfl fun k x b o L L' hx hL hL' hc=>?_;have hxe:ls.getD k (0,0)=x:=by simp[zG,hx]
 rw[hxe]at hL;cases hL with
 | cons a b =>
   cases b with
   | cons a2 b2 =>
     cases b2
     cases a.int_inv
     cases a2.int_inv
     obtain⟨v1,v2,rfl,h1,h2⟩:=ytw hL';have:=h1.eq_simple rfl;subst this;have:=h2.eq_simple rfl;subst this;exact⟨hc 0 _ rfl,hc 1 _ rfl,hI x (zC hx)⟩
theorem yccc{ps:List (List (Int×Int))}(hG:Le G m.b.get)(hr:RV G om0 (yx ps) u)(hv:VR φ u u')(hR:Rel φ M w)(hs:Sub m M)(hI:∀ls∈ps,∀l∈ls,I64 l.1/\I64 l.2):yye w u' ps:=by
 refine yceu hG hr hv hR hs rfl fun k x b o L L' hx hL hL' hc=>?_;have hxe:ps.getD k []=x:=by simp[zG,hx]
 rw[hxe]at hL;cases hL with
 | cons a b =>
   cases b
   obtain⟨v',rfl,hvv⟩:=yfz hL';exact⟨v',hc 0 _ rfl,ycaz hG a hvv hR hs (hI x (zC hx))⟩
theorem ydec{c:List (List Int)}(hG:Le G m.b.get)(hr:RV G om0 (ybk c) u)(hv:VR φ u u')(hR:Rel φ M w)(hs:Sub m M)(hI:ybws c):ycuv w u' c:=by
 refine yceu hG hr hv hR hs rfl fun k x b o L L' hx hL hL' hc=>?_;have hxe:c.getD k []=x:=by simp[zG,hx]
 rw[hxe]at hL;cases hL with
 | cons a b =>
   cases b
   obtain⟨v',rfl,hvv⟩:=yfz hL';exact⟨v',hc 0 _ rfl,ints_at hG a hvv hR hs (hI x (zC hx))⟩
theorem ychc{g:Gr}(hG:Le G m.b.get)(hr:RV G om0 (grV g) u)(hv:VR φ u u')(hR:Rel φ M w)(hs:Sub m M)(hI:GrI g):GrAt w u' g:=by
 obtain⟨L,rfl,hL⟩:=hr.ag_inv;cases hL with
 | cons a b =>
   cases b with
   | cons a2 b2 =>
     cases b2
     obtain⟨L',rfl,hL'⟩:=hv.agg_inv;obtain⟨v1,v2,rfl,h1,h2⟩:=ytw hL';exact⟨v1,v2,rfl,ints_at hG a h1 hR hs hI.1,yccc hG a2 h2 hR hs hI.2⟩
end
theorem ybdz {g:FuncId}{args:List SV}{r:SV}{v:Value}(hg:∃fn c,Tryz.prog.funcs[g]?=some fn/\fn.body=some c) (hrv:∀F,RV F om0 r v) (hvr:∀φ,VR φ v v)
 (h:∀(G:AM) (m:Mem) (us:List Value),Le G m.b.get->RVL G om0 args us->∀φ M w us',Rel φ M w->Sub m M->VRL φ us us'->Calls Tryz.prog g us'.toArray w fun e w'=>e = .returned v/\Below w.heap.size w w'):Returns Tryz.prog g args r:=by
 intro G m us hw hle hr;refine⟨v,enterM m,r,yku yrj hg fun φ M w us' hR hs hv=>(h G m us hle hr φ M w us' hR hs hv).mono ?_,zB _,Le.refl _,rfl,hrv _⟩;rintro e w' ⟨rfl,hb⟩;exact⟨v,rfl,hvr φ,hb⟩
theorem rvl1{F:AM}{ω:Om}{a:SV}{us:List Value}(h:RVL F ω [a] us):∃u,us=[u]/\RV F ω a u:=by
 cases h with|cons x y=>cases y;exact⟨_,rfl,x⟩
theorem rvl2{F:AM}{ω:Om}{a b:SV}{us:List Value}(h:RVL F ω [a,b] us):∃u v,us=[u,v]/\RV F ω a u/\RV F ω b v:=by
 cases h with|cons x y=>obtain⟨v,rfl,q⟩:=rvl1 y;exact⟨_,v,rfl,x,q⟩
end Sh
end
section
open Go.RowKit
theorem ybxq(n k:Nat)(hk:k<n):(zD k (-1:Int)++zD (n-k) 0).set k (-1)=zD (k+1) (-1)++zD (n-(k+1)) 0:=by
 apply List.ext_getElem
 ·simp;omega
 ·intro i h1 h2;rw[List.getElem_set];split
  ·subst_vars
   rw[zK (by simp)]
   simp
  ·by_cases hi:i<k
   ·rw[zK (by simpa using hi),zK (by simp;omega)];simp
   ·rw[zT (by simp;omega),zT (by simp;omega)];simp
theorem yzb(g:Gr)(a:Nat)(h:g.ports.length<=24):1+yio (start g a)<=30:=by
 have h1:=List.countP_le_length (p:=fun x:Int=>decide (x<0)) (l:=start g a);have h2:(start g a).length=g.ports.length:=by simp[start]
 unfold yio;omega
set_option maxHeartbeats 2000000 in
theorem ybnf(gv:Value)(g:Gr)(a:Nat)(w:World)(hg:GrAt w gv g)(hgood:ybe g)(ha:a<g.ports.length) :
 Calls Tryz.prog 139 #[gv,.int .i64 a] w (ycad (ybu g a) w):=by
 have hn24:=hgood.2.1;have Hgood:=Lib.hid hgood
 clear hgood
 obtain⟨i,p,rfl,hi,hp⟩:=hg;obtain⟨A2,c2,rfl,hB1,hB2⟩:=ybo hp;have Hp:=Lib.hid hp
 clear hi hp
 have hmk:=ybaq g.ports.length (by omega)
 go_enter Tryz.func139,Tryz.ntmps139
 go_wp2
 go_loopg [17] g.ports.length (fun q t wr=>∃k:Nat,q+k=g.ports.length/\t = .int .i64 k/\Hid (Below (w.heap.size+1) (w.alloc (.cells #[i,.slice A2 g.ports.length c2] 27)) wr)/\Hid (IBlk wr (w.heap.size+1) (zD k (-1)++zD (g.ports.length-k) 0)))
 case atStart =>
  refine⟨0,by omega,rfl,Lib.hid ((Below.refl _ _).alloc (by simp) _),Lib.hid ?_⟩
  have:=IBlk.new (w.alloc (.cells #[i,.slice A2 g.ports.length c2] 27)) (zD g.ports.length (0:Int))
  simpa using this
 case round =>
  obtain⟨k,hq,rfl,hbel,hblk⟩:=hrel
  by_cases hlt:k<g.ports.length
  ·obtain⟨x,hx⟩:∃x,wr.cell? ⟨w.heap.size+1,k,none⟩=some (.int .i64 x):=⟨_,hblk.out.cell (by simp;omega)⟩
   have hf:=hblk.out.frozen k
   go_wp2
   go_roundg (gk-1)
   case measure=>omega
   case rel =>
    refine⟨k+1,by omega,by go_num,Lib.hid (hbel.out.setCell (by simp) _),Lib.hid ?_⟩
    have:=hblk.out.set_ k (-1)
    rwa [ybxq _ _ hlt]at this
  ·obtain rfl:k=g.ports.length:=by omega
   have hblk0:IBlk wr (w.heap.size+1) (zD g.ports.length (-1)):=by simpa using hblk.out
   obtain⟨x,hx⟩:∃x,wr.cell? ⟨w.heap.size+1,a,none⟩=some (.int .i64 x):=⟨_,hblk0.cell (by simpa using ha)⟩
   have hf:=hblk0.frozen a;have Hb0:=Lib.hid hblk0
   clear hblk0 hblk hmk
   go_wp2
   go_loopg [7] (1+yio (start g a)) (fun q t wr=>∃R Q,q=Q.length+yio R/\q<=30/\Hid (Below (w.heap.size+1) (w.alloc (.cells #[i,.slice A2 g.ports.length c2] 27)) wr)/\Hid (IBlk wr (w.heap.size+1) R)/\Hid (BfsInv g a R Q)/\Hid (Owns wr (w.heap.size+2) 3 1 t Q.length (Q.map (fun q:Nat=>Value.int .i64 (q:Int)))))
   case atStart =>
    refine⟨start g a,[a],rfl,yzb g a hn24,Lib.hid ((hbel.out.setCell (by simp) _).alloc (by have:=hbel.out.size;simp at this ⊢;omega) _),Lib.hid ((Hb0.out.set_ a 0).alloc _),Lib.hid (BfsInv.start ha),Lib.hid ?_⟩
    refine⟨rfl,.inr ⟨_,0,1,#[.int .i64 (a:Int)],rfl,?_,?_,zB _,by simp[maxLen],by simp,?_⟩⟩
    ·have:=Hb0.out.lt;simp;omega
    ·have:=heap_alloc_new (wr.setCell ⟨w.heap.size+1,a,none⟩ (.int .i64 0)) (.cells #[.int .i64 (a:Int)] 3);simpa using this
    ·intro j u hu
     simpa using hu
   case round =>
    clear hbel Hb0 hx hf
    obtain⟨R,Q,hq,hq30,hbel,hblk,hinv,hown⟩:=hrel;obtain⟨AQ,cQ,rfl⟩:=hown.out.val;cases Q with
    | nil =>
      have Hd:=Lib.hid (hinv.out.isDist.unique (yft Hgood.out ha))
      go_wp2
      go_ret
      have h:=hblk.out.ints (fun x hx=>by have:=hinv.out.isDist.bound Hgood.out ha x hx;unfold I64;omega) (by rw[hinv.out.len];omega)
      rw[hinv.out.len,Hd.out]at h;exact⟨_,rfl,h,(box2 hbel.out).2.2.1⟩
    | cons v Q =>
      obtain⟨gQ,oQ,cap,hv,hg1,hg2,hg3,hg4,hcell⟩:=hown.out.form (by simp)
      cases hv
      have hc0:=hcell 0 (.int .i64 (v:Int)) rfl;simp only[Nat.add_zero]at hc0;have Hcell:=Lib.hid hcell;obtain⟨d,hd⟩:=hinv.out.qin v (by simp)
      have hvl:v<g.ports.length:=by rw[<-hinv.out.len];exact(List.getElem?_eq_some_iff.1 hd).1
      obtain⟨q0,q1,hbw,hsz⟩:=box2 hbel.out;obtain⟨b2,off2,lv,rfl,hb2,hclw,hls⟩:=yfx Hp.out (zA hvl);have hcl:=ygp hbw _ _ hclw
      clear hclw
      obtain⟨A3,c3,rfl,hl1,hl2⟩:=ybo hls;obtain⟨ls,hle⟩:∃ls,g.ports[v]=ls:=⟨_,rfl⟩;have Hlp:=Lib.hid (show g.ports[v]?=some ls by rw[zA hvl,hle])
      rw[hle]at hls hcl hl1;have Hls:=Lib.hid hls;have Hin:=Lib.hid (hinv.out.pop hd ls);have Hbw:=Lib.hid hbw
      clear hle hls hbw hcell hinv hd
      simp only[List.length_cons]at hq hg3 hown hc0;obtain⟨i0,hi0,hz0,hz1,hz2⟩:=info_parts yza;obtain⟨vQ,hsl,hoQ,hobQ⟩:=ycds (P:=Tryz.prog) Tryz.underlying22 hi0 hz1 hown.out (k:=1) (by simp) (by simp)
      simp only[zV,Nat.mul_one,List.map_cons,List.drop_succ_cons,List.drop_zero]at hoQ;have hsl':∀W,(Instr.slice 22 (.slice (some ⟨gQ,oQ,none⟩) (Q.length+1) cQ) (some (.int .i64 1)) none none).run Tryz.prog W = .ok vQ W:=fun W=>by simpa using hsl W
      have HoQ:=Lib.hid hoQ;have Hi0:=Lib.hid (show _/\_/\_/\_ from⟨hi0,hz0,hz1,hz2⟩)
      clear hoQ hown hsl hobQ hi0 hz0 hz1 hz2
      unfold maxLen at hg4
      go_wp2
      clear hsl'
      obtain⟨go,rfl⟩:∃go,go=gk:=⟨_,rfl⟩
      go_loopg [43,7] ls.length (fun q t tq wr=>∃(k:Nat) (R:List Int) (Q:List Nat),q+k=ls.length/\t = .int .i64 k/\Hid (go=Q.length+1+yio R)/\Hid (Below (w.heap.size+1) (w.alloc (.cells #[i,.slice (some ⟨b2,off2,none⟩) g.ports.length c2] 27)) wr)/\Hid (IBlk wr (w.heap.size+1) R)/\Hid (BfsIn g a v d ls k R Q)/\Hid (Owns wr (w.heap.size+2) 3 1 tq Q.length (Q.map (fun q:Nat=>Value.int .i64 (q:Int)))))
      case atStart=>exact⟨0,R,Q,by omega,rfl,Lib.hid (by omega),hbel,hblk,Hin,HoQ⟩
      case round =>
       clear hbel hblk Hin HoQ hq hcl q0 q1 Hbw hsz
       obtain⟨k,R,Q,hq,rfl,Hgk,hbel,hblk,Hin,HoQ⟩:=hrel
       by_cases hlt:k<ls.length
       ·obtain⟨q0,q1,hbw,hsz⟩:=box2 hbel.out;have Hbw:=Lib.hid hbw;obtain⟨A4,c4,e4,_,_,hE⟩:=Hls.out.below Stable.link hbw;cases e4
        obtain⟨b3,off3,rfl,hb3,hE⟩:=hE (by omega)
        obtain⟨⟨l1,wt⟩,hle⟩:∃l,ls[k]=l:=⟨_,rfl⟩;have hl?:ls[k]?=some (l1,wt):=by rw[zA hlt,hle]
        obtain⟨hx1,hx2,⟨hr1,hr2⟩,⟨hr3,hr4⟩⟩:=hE k _ hl?;obtain⟨k1,k2,k3,k4,k5⟩:=Hgood.out.link Hlp.out (zC hl?);simp only at k1 k2 k3 k4 k5 hx1 hx2 hr1 hr2 hr3 hr4;obtain⟨u,rfl⟩:=zH k1;have hul:u<R.length:=by rw[Hin.out.len];omega
        have hvR:v<R.length:=by rw[Hin.out.len];omega
        have hRv:R[v]?=some (d:Int):=Hin.out.rv;have hcv:=hblk.out.cell hvR;rw[show R[v]=(d:Int)by have:=zA hvR;rw[hRv]at this;exact(Option.some.inj this).symm]at hcv
        have hcu:=hblk.out.cell hul;have hfu:=hblk.out.frozen u
        have hd24:d<g.ports.length:=by
         rcases Hin.out.val v _ hRv with e|⟨k',e,h1,h2⟩
         ·omega
         ·obtain rfl:d=k':=by omega
          exact ybad Hgood.out ha h1 h2
        have hle1:ls[k].1=(u:Int):=by rw[hle]
        have hRu:R[u]?=some R[u]:=zA hul;have hB:w.heap.size+1<wr.heap.size:=hblk.out.lt
        clear hE hl? hle hbw k1 k3 hRv
        by_cases hneg:R[u]<0
        ·have hRm:R[u]?=some (-1):=by
          rcases Hin.out.val u _ hRu with e|⟨k',e,_⟩
          ·exact hRu.trans (congrArg some e)
          ·exact absurd e (by omega)
         have Hd:=Lib.hid (Hin.out.discover Hlp.out hlt hle1 hRm);have Hun:=Lib.hid (ybge (R:=R) (u:=u) (x:=(d:Int)+1) hRm (by omega))
         clear hRu hRm hle1
         go_wp2
         go_region
         go_wp2_with (at_builtin;refine yhm _ rfl _ _ 22 rfl (w.heap.size+2) 3 i0 (.int .i64 0) 1 8 Tryz.underlying22 Hi0.out.1 Hi0.out.2.1 Hi0.out.2.2.1 Hi0.out.2.2.2 rfl (by decide) u7 Q.length (Q.map (fun q:Nat=>Value.int .i64 (q:Int))) (by rfl) ?hown _ 1 1 [.int .i64 (u:Int)] (by rfl) rfl ?c1 ?c2 ?c3 ?c4 ?c5 ?_)
         case hown=>exact(((HoQ.out.low (p:=⟨w.heap.size+1,u,none⟩) (by simp) _).alloc _).alloc _).drew
         case c1=>exact ybiv (by simp)
         case c2=>simp[Value.oneCell']
         case c3=>have:=Hgk.out;simp only[maxLen];omega
         case c4=>have:=Hgk.out;omega
         case c5=>simp;omega
         intro vQ' w' hown' hgr hob;have hgo:=Hgk.out;have Hown:=Lib.hid hown';have Hgr:=Lib.hid hgr
         clear hown' hgr hob
         go_wp2
         go_roundg (gk-1)
         case measure=>omega
         case rel =>
          have hb1:=(((hbel.out.setCell (p:=⟨w.heap.size+1,u,none⟩) (by simp) (.int .i64 ((d:Int)+1))).alloc (by simp;omega) (.cells #[.int .i64 (u:Int),.int .i64 wt] 95)).alloc (by simp;omega) (.cells #[.int .i64 (u:Int)] 3)).drew
          have hk1:=((((hblk.out.set_ u ((d:Int)+1)).alloc (.cells #[.int .i64 (u:Int),.int .i64 wt] 95)).alloc (.cells #[.int .i64 (u:Int)] 3)).drew);refine⟨k+1,R.set u ((d:Int)+1),Q++[u],by omega,by go_num,Lib.hid ?_,Lib.hid (hb1.grown Hgr.out (by simp;omega) (fun x hx=>?_)),Lib.hid (hk1.grown Hgr.out (fun e=>?_)),Hd,Lib.hid ?_⟩
          ·have:=Hun.out;simp;omega
          ·have:=(HoQ.out.lt hx).1;omega
          ·have:=(HoQ.out.lt e.symm).1;omega
          ·have:=Hown.out
           simpa using this
        ·have hpos:0<=R[u]:=by omega
         obtain⟨j,hj⟩:=zH hpos;have Hsk:=Lib.hid (Hin.out.skip hlt (j:=j) (by rw[hle1,zQ,hRu,hj]))
         clear hRu hle1 hj
         go_wp2
         have hgo:=Hgk.out
         go_roundg (gk-1)
         case measure=>omega
         case rel=>exact⟨k+1,R,Q,by omega,by go_num,Hgk,Lib.hid (hbel.out.alloc (by omega) _),Lib.hid (hblk.out.alloc _),Hsk,Lib.hid (HoQ.out.alloc _)⟩
       ·obtain rfl:k=ls.length:=by omega
        go_wp2
        have hgo:=Hgk.out
        go_roundg (Q.length+yio R)
        case measure=>omega
        case rel=>exact⟨R,Q,rfl,by omega,hbel,hblk,Lib.hid (Hin.out.finish Hlp.out),HoQ⟩
end
section
open Go.RowKit
theorem ybcc:Tryz.zeroCells195=Array.replicate 256 (.bool false):=by kernel_rfl
def Seen(w:World)(g:Nat)(S:List Int):Prop:=∃cur,w.heap[g]?=some (.cells cur 195 (0,0))/\cur.size=256/\∀i:Nat,i<256->cur[i]?=some (.bool (decide ((i:Int)∈S)))
theorem Seen.cell{w:World}{g:Nat}{S:List Int}(h:Seen w g S){i:Nat}(hi:i<256):w.cell? ⟨g,i,none⟩=some (.bool (decide ((i:Int)∈S))):=by
 obtain⟨cur,h1,h2,h3⟩:=h;simp[World.cell?,h1,h3 i hi]
theorem Seen.frozen{w:World}{g:Nat}{S:List Int}(h:Seen w g S)(i:Nat):w.frozen? ⟨g,i,none⟩=false:=by
 obtain⟨cur,h1,h2,h3⟩:=h;simp[World.frozen?,h1]
theorem Seen.set_{w:World}{g:Nat}{S:List Int}(h:Seen w g S){i:Nat}:Seen (w.setCell ⟨g,i,none⟩ (.bool true)) g (S++[(i:Int)]):=by
 obtain⟨cur,h1,h2,h3⟩:=h;refine⟨cur.setIfInBounds i (.bool true),by simp[World.setCell,Array.getElem?_modify,h1],by simp[h2],fun j hj=>?_⟩
 rw[Array.getElem?_setIfInBounds];split
 ·subst_vars
  rw[if_pos (by omega)]
  simp
 ·rw[h3 j hj];congr 3;simp;omega
theorem Seen.start(w:World):Seen (w.alloc (.cells Tryz.zeroCells195 195)) w.heap.size []:=by
 refine⟨_,heap_alloc_new w _,by rw[ybcc];simp,fun i hi=>?_⟩
 rw[ybcc];simp[hi]
def ybis(ids:List Int):Bool:=decide ((∀x∈ids,0<=x/\x<=255)/\ids.Nodup)
def yua(ids:List Int)(k:Nat):Prop:=(∀x∈ids.take k,0<=x/\x<=255)/\(ids.take k).Nodup
theorem ybzl{ids:List Int}{k:Nat}(hk:k<ids.length):yua ids (k+1)↔yua ids k/\(0<=ids[k]/\ids[k]<=255)/\ids[k]∉ids.take k:=by
 unfold yua;rw[take_snoc ids k hk,List.nodup_append];constructor
 ·rintro⟨h1,h2,_,h3⟩;exact⟨⟨fun x hx=>h1 x (List.mem_append_left _ hx),h2⟩,h1 _ (List.mem_append_right _ (by simp)),fun hm=>h3 _ hm _ (by simp) rfl⟩
 ·rintro⟨⟨h1,h2⟩,h3,h4⟩;refine⟨fun x hx=>?_,h2,by simp,fun a ha b hb e=>?_⟩
  ·rcases List.mem_append.1 hx with hx|hx
   ·exact h1 x hx
   ·simp at hx;subst hx;exact h3
  ·simp at hb;subst hb e;exact h4 ha
theorem ybfc{ids:List Int}{k:Nat}(h:¬yua ids k):ybis ids=false:=by
 unfold ybis;rw[decide_eq_false_iff_not];exact fun hd=>h ⟨fun x hx=>hd.1 x (List.mem_of_mem_take hx),hd.2.sublist (List.take_sublist _ _)⟩
theorem ybnw{ids:List Int}(h:yua ids ids.length):ybis ids=true:=by
 unfold yua at h;rw[zM]at h;exact decide_eq_true h
set_option maxRecDepth 100000 in
set_option maxHeartbeats 1000000 in
theorem yrn(iv:Value)(ids:List Int)(w:World)(hi:yjz w iv ids) :
 Calls Tryz.prog 152 #[iv] w fun e w'=>e = .returned (.bool (ybis ids))/\Below w.heap.size w w':=by
 obtain⟨A,c,rfl,hA1,hA2⟩:=ybo hi;have Hi:=Lib.hid hi
 clear hi
 go_enter Tryz.func152,Tryz.ntmps152
 go_wp2
 go_loopg [8] ids.length (fun q t wr=>∃k:Nat,q+k=ids.length/\t = .int .i64 k/\Hid (Below w.heap.size w wr)/\Hid (Seen wr w.heap.size (ids.take k))/\Hid (yua ids k))
 case atStart=>exact⟨0,by omega,rfl,Lib.hid ((Below.refl _ _).alloc (zB _) _),Lib.hid (Seen.start w),Lib.hid ⟨by simp,by simp⟩⟩
 case round =>
  obtain⟨k,hq,rfl,hbel,hseen,hok⟩:=hrel
  by_cases hlt:k<ids.length
  ·obtain⟨b,off,rfl,hb,hcid,hr⟩:=yfn (Hi.out.below Stable.int hbel.out) hlt;obtain⟨x,hx⟩:∃x,ids[k]=x:=⟨_,rfl⟩;have Hsn:=Lib.hid (ybzl hlt);rw[hx]at hcid hr Hsn;obtain⟨hr1,hr2⟩:=hr;have Hbad:=Lib.hid (fun h=>ybfc (ids:=ids) (k:=k+1) h);have Hts:=Lib.hid (take_snoc ids k hlt);rw[hx]at Hts
   clear hx
   by_cases c1:0<=x/\x<=255
   ·obtain⟨c1a,c1b⟩:=c1;obtain⟨n,rfl⟩:=zH c1a;have hcs:=hseen.out.cell (i:=n) (by omega)
    have hfs:=hseen.out.frozen n
    by_cases c2:(n:Int)∈ids.take k
    ·rw[decide_eq_true c2]at hcs;have Hf:=Lib.hid (Hbad.out (fun h=>(Hsn.out.1 h).2.2 c2))
     clear c2
     go_wp2
     go_ret
     exact⟨ybi Hf.out.symm,hbel.out⟩
    ·rw[decide_eq_false c2]at hcs;have Hn:=Lib.hid (Hsn.out.2 ⟨hok.out,⟨by omega,by omega⟩,c2⟩)
     clear c2
     go_wp2
     go_roundg (gk-1)
     case measure=>omega
     case rel =>
      refine⟨k+1,by omega,by go_num,Lib.hid (hbel.out.setCell (zB _) _),Lib.hid ?_,Hn⟩
      rw[Hts.out];exact hseen.out.set_
   ·have Hf:=Lib.hid (Hbad.out (fun h=>c1 (Hsn.out.1 h).2.1))
    by_cases c3:x<0
    ·clear c1
     go_wp2
     go_ret
     exact⟨ybi Hf.out.symm,hbel.out⟩
    ·have c4:255<x:=by omega
     clear c1
     go_wp2
     go_ret
     exact⟨ybi Hf.out.symm,hbel.out⟩
  ·obtain rfl:k=ids.length:=by omega
   have Ht:=Lib.hid (ybnw hok.out)
   go_wp2
   go_ret
   exact⟨ybi Ht.out.symm,hbel.out⟩
theorem ybrm(g:Gr)(h1:1<=g.ids.length)(h2:g.ids.length<=24)(h3:g.ports.length=g.ids.length):yda g=(ybis g.ids&&symB g.ports):=by
 unfold yda ybis symB;rw[<-Bool.decide_and];congr 1;apply propext;unfold ybe yced;constructor
 ·rintro⟨_,_,_,h4,h5,h6,h7⟩;exact⟨⟨h4,h5⟩,h6,h7⟩
 ·rintro⟨⟨h4,h5⟩,h6,h7⟩;exact⟨by omega,by omega,by omega,h4,h5,h6,h7⟩
set_option maxHeartbeats 1000000 in
theorem yuj(gv:Value)(g:Gr)(w:World)(hg:GrAt w gv g) :
 Calls Tryz.prog 96 #[gv] w fun e w'=>e = .returned (.bool (yda g))/\Below w.heap.size w w':=by
 obtain⟨i,p,rfl,hi,hp⟩:=hg;obtain⟨A,c,rfl,hA1,hA2⟩:=ybo hi;obtain⟨A2,c2,rfl,hB1,hB2⟩:=ybo hp;have Hi:=Lib.hid hi;have Hp:=Lib.hid hp
 clear hi hp
 by_cases n1:1<=g.ids.length
 ·by_cases n2:g.ids.length<=24
  ·by_cases n3:g.ports.length=g.ids.length
   ·have n3':((g.ports.length:Int)!=(g.ids.length:Int))=false:=by simp[n3]
    have He:=Lib.hid (ybrm g n1 n2 n3);have n3a:g.ports.length<=24:=by omega
    clear n3
    go_enter Tryz.func96,Tryz.ntmps96
    go_wp2_with fail
    refine(yrn _ g.ids _ (Hi.out.below Stable.int ((Below.refl _ _).alloc (zB _) _))).mono ?_;rintro e w1 ⟨rfl,hb1⟩;have Hb1:=Lib.hid (ymy hb1);obtain⟨q0,q1⟩:=ybgh hb1
    clear hb1
    cases hd:ybis g.ids with
    | false =>
      have Hv:=Lib.hid (show yda g=false by rw[He.out,hd];rfl)
      go_wp2_with fail
      go_ret
      exact⟨ybi Hv.out.symm,Hb1.out⟩
    | true =>
      have Hv:=Lib.hid (show yda g=symB g.ports by rw[He.out,hd];rfl)
      go_wp2_with fail
      refine(ynb _ g.ports _ (Hp.out.below (Stable.sl Stable.link) Hb1.out) (by omega)).mono ?_
      rintro e w2 ⟨rfl,hb2⟩
      go_wp2_with fail
      go_ret
      exact⟨ybi Hv.out.symm,Hb1.out.trans (hb2.mono Hb1.out.size)⟩
   ·have n3':((g.ports.length:Int)!=(g.ids.length:Int))=true:=by simp;omega
    have Hf:=Lib.hid (yee (g:=g) (fun h=>n3 h.2.2.symm))
    clear n3
    go_enter Tryz.func96,Tryz.ntmps96
    go_wp2
    go_ret
    exact⟨ybi Hf.out.symm,(Below.refl _ _).alloc (zB _) _⟩
  ·have Hf:=Lib.hid (yee (g:=g) (fun h=>n2 (by omega)))
   go_enter Tryz.func96,Tryz.ntmps96
   go_wp2
   go_ret
   exact⟨ybi Hf.out.symm,(Below.refl _ _).alloc (zB _) _⟩
 ·have Hf:=Lib.hid (yee (g:=g) (fun h=>n1 (by omega)))
  go_enter Tryz.func96,Tryz.ntmps96
  go_wp2
  go_ret
  exact⟨ybi Hf.out.symm,(Below.refl _ _).alloc (zB _) _⟩
end
section
namespace Sh
open Go Ev Go.RowKit
set_option maxRecDepth 8000
theorem yez{x:Int}(h:-4611686018427387904<=x/\x<=4611686018427387904):I64 x:=by
 unfold I64;omega
theorem ydff{g:Gr}(hg:ybe g):GrI g:=by
 obtain⟨h1,h2,h3,h4,h5,h6,h7⟩:=hg;refine⟨fun x hx=>yez (by have:=h4 x hx;omega),fun ls hls l hl=>?_⟩
 obtain⟨v,hv,rfl⟩:=List.getElem_of_mem hls;obtain⟨a1,a2,a3,a4,a5⟩:=(h6 ⟨v,hv⟩).1 l hl;exact⟨yez (by omega),yez (by omega)⟩
theorem ywa{g:Gr}(hI:GrI g):Returns Tryz.prog 96 [grV g] (.b (yda g)):=by
 refine ybdz ⟨_,_,Tryz.func96,rfl⟩ (fun _=>.b) (fun _=>.simple rfl) fun G m us hG hr φ M w us' hR hs hv=>?_;obtain⟨u,rfl,h1⟩:=rvl1 hr;obtain⟨u',rfl,h2⟩:=yfz hv;exact yuj u' g w (ychc hG h1 h2 hR hs hI)
end Sh
end
section
namespace Sh
open Go Ev
def ydkp:LO:=[o3 (.alloc 87 1 [.a (.string (ByteArray.mk #[])),.i .i64 0,.i .i64 0,.i .i64 0,.i .i64 0,.i .i64 0]) 8 0]
def ydgj:LO:=[mv' 0 9 0,mv' 1 10 0,mv' 2 11 0,mv' 3 12 0,o3 (.build [.a (.string (ByteArray.mk #[])),.i .i64 0,.i .i64 0,.i .i64 0,.i .i64 0,.i .i64 0] [(0,1,(.tmp 9)),(1,1,(ci' 1)),(3,1,(.tmp 10)),(4,1,(.tmp 11)),(5,1,(.tmp 12))]) 13 15,o0 (.store 6 (.tmp 8) (.tmp 13)) 31]
def c79:SC:=(.seq (.reg false ydkp) (.seq (.reg false ydgj) .ret))
theorem ydla:Fn 79 c79 [.c 8 true 6]:=fn_0 Tryz.func79 (by kernel_rfl) (by kernel_rfl)
end Sh
end
section
structure VarR where
 name:ByteArray
 kind:Int
 lo:Int
 hi:Int
 perNode:Int
 perID:Int
def varE:Elem VarR:=fun w b o x=>w.cell? ⟨b,o,none⟩=some (.string x.name)/\w.cell? ⟨b,o+1,none⟩=some (.int .i64 x.kind)/\w.cell? ⟨b,o+2,none⟩=some (.int .i64 x.lo)/\w.cell? ⟨b,o+3,none⟩=some (.int .i64 x.hi) /\
 w.cell? ⟨b,o+4,none⟩=some (.int .i64 x.perNode)/\w.cell? ⟨b,o+5,none⟩=some (.int .i64 x.perID)
theorem Stable.var:Stable varE:=fun _ _ _ _ _ h _ hx=>⟨h _ _ hx.1,h _ _ hx.2.1,h _ _ hx.2.2.1,h _ _ hx.2.2.2.1,h _ _ hx.2.2.2.2.1,h _ _ hx.2.2.2.2.2⟩
theorem ybmt(ids:List Int)(k:Nat)(hk:k<ids.length):(ids.take (k+1)).foldl max 0=max ((ids.take k).foldl max 0) ids[k]:=by
 rw[take_snoc ids k hk,zS];rfl
theorem ybeg(D:List Int)(m:Int)(h:∀x∈D,x<=m):∀a:Int,a<=m->D.foldl max a<=m:=by
 induction D with
 |nil=>intro a ha;exact ha
 |cons x D ih=>intro a ha;exact ih (fun y hy=>h y (by simp[hy])) _ (Int.max_le.2 ⟨ha,h x (by simp)⟩)
theorem yuc{g:Gr}(hg:ybe g):0<=yber g/\yber g<=255:=⟨yqe _ _,ybeg _ _ (fun x hx=>(hg.2.2.2.1 x hx).2) _ (by omega)⟩
end
section
abbrev Tm:=Int×Int
structure SetR where
 var:Int
 val:List Tm
structure RuleR where
 name:ByteArray
 guard:List Tm
 sets:List SetR
structure ProgR where
 name:ByteArray
 vars:List VarR
 rules:List RuleR
instance:Inhabited VarR:=⟨⟨.empty,0,0,0,0,0⟩⟩
instance:Inhabited SetR:=⟨⟨0,[]⟩⟩
instance:Inhabited RuleR:=⟨⟨.empty,[],[]⟩⟩
inductive Ex where
 |leaf (op arg:Int)
 |un (op:Int) (a:Ex)
 |agg (op:Int) (a:Ex)
 |bin (op:Int) (a b:Ex)
 |ite (c a b:Ex)
def Ex.ser:Ex->List Tm
 |.leaf op arg=>[(op,arg)]
 |.un op a=>(op,0)::a.ser
 |.agg op a=>(op,0)::a.ser
 |.bin op a b=>(op,0)::(a.ser++b.ser)
 |.ite c a b=>(43,0)::(c.ser++(a.ser++b.ser))
def satP(a:Int):Int:=max (-1073741824) (min a 1073741824)
def ybq(b:Bool):Int:=if b then 1 else 0
def yvf(a b:Int):Int:=if b=0 then 0 else if a.tmod b≠0/\(decide (a<0)≠decide (b<0))then a.tdiv b-1 else a.tdiv b
def unP(op a:Int):Int:=if op=18 then -a else ybq (a==0)
def cmpP(op a b:Int):Bool:=if op=35 then a==b else if op=36 then a != b else if op=37 then decide (a<b)else if op=38 then decide (a<=b)else if op=39 then decide (a>b)else decide (a>=b)
def binP(op a b:Int):Int :=
 if op=30 then satP (a*b)else if op=31 then satP (yvf a b)else if op=32 then(if b=0 then 0 else satP (a-b*yvf a b))else if op=33 then satP (a+b)else if op=34 then satP (a-b)
 else if op=41 then ybq (a != 0&&b != 0)else if op=42 then ybq (a != 0||b != 0)else ybq (cmpP op a b)
def countP(l:List Int):Int:=((l.filter (· != 0)).length:Int)
def yre(l:List Int):Int:=l.foldl min 1073741824
def ydk(l:List Int):Int×Int:=l.foldl (fun p a=>if a>p.1 then(a,p.1)else(p.1,max p.2 a)) (-1073741824,-1073741824)
def yvs(l:List Int):Nat->Int->Int
 |0,r=>r
 |n+1,r=>if l.elem r then yvs l n (r+1)else r
def mexP(l:List Int):Int:=yvs l (l.length+1) 0
def yfq(l:List Int):Int:=match l.findIdx? (· != 0)with|some i=>i|none=>-1
def ygv(op:Int)(l:List Int):Int :=
 if op=20 then ybq (countP l==l.length)else if op=21 then ybq (decide (countP l>0))else if op=22 then countP l else if op=23 then yfq l else if op=24 then yre l else if op=25 then(ydk l).1
 else if op=26 then satP l.sum else if op=27 then mexP l else if op=28 then(ydk l).2 else l.headD 0
structure Sc where
 g:Gr
 c:Conf
def yck(g:Gr)(v port:Nat):Int×Int:=(g.ports.getD v []).getD port (0,0)
def yjv(g:Gr)(v:Nat):List Int:=(g.ports.getD v []).map fun l=>yhb (g.ports.getD l.1.toNat []) v
def ylx(g:Gr)(op:Int)(v:Nat)(port:Int):Int :=
 if op=6 then g.ids.length else if op=7 then yber g else if op=8 then g.ids.getD v 0 else if op=9 then((g.ports.getD v []).length:Int)else if op=10 then ybq ((v:Int)==0)else if op=11 then port
 else(let l:=yck g v port.toNat
  if op=13 then g.ids.getD l.1.toNat 0 else if op=14 then((g.ports.getD l.1.toNat []).length:Int)else if op=15 then ybq (l.1==0)else if op=16 then l.2 else(yjv g v).getD port.toNat 0)
def yti(g:Gr)(c:Conf)(op arg:Int)(v:Nat)(port:Int):Int :=
 if op=1 then arg else if op=2 then 1 else if op=3 then 0 else if op=4 then -1 else if op=5 then(c.getD v []).getD arg.toNat 0 else if op=12 then(c.getD (yck g v port.toNat).1.toNat []).getD arg.toNat 0
 else ylx g op v port
def ycs(g:Gr)(c:Conf)(v:Nat):Ex->Int->Int
 |.leaf op arg,p=>yti g c op arg v p
 |.un op a,p=>unP op (ycs g c v a p)
 |.agg op a,_=>ygv op ((zY (g.ports.getD v []).length).map fun(q:Nat)=>ycs g c v a (q:Int))
 |.bin op a b,p=>binP op (ycs g c v a p) (ycs g c v b p)
 |.ite x a b,p=>if ycs g c v x p≠0 then ycs g c v a p else ycs g c v b p
def Ex.ok(nv:Int)(bnd:Bool):Ex->Bool
 |.leaf op arg=>decide (1<=op/\op<=17)&&(if op=1 then decide (0<=arg/\arg<=1073741824)else if op=5\/op=12 then decide (0<=arg/\arg<nv)else true)&&(if 11<=op then bnd else true)
 |.un op a=>decide (op=18\/op=19)&&a.ok nv bnd
 |.agg op a=>decide (20<=op/\op<=29)&&a.ok nv true
 |.bin op a b=>decide (30<=op/\op<=42)&&a.ok nv bnd&&b.ok nv bnd
 |.ite x a b=>x.ok nv bnd&&a.ok nv bnd&&b.ok nv bnd
def InB(x:Int):Prop:=-1073741824<=x/\x<=1073741824
theorem ypw(a:Int):InB (satP a):=by unfold InB satP;omega
theorem yfo(b:Bool):InB (ybq b):=by unfold InB ybq;cases b<;>simp
theorem ydfw{op a:Int}(h:InB a):InB (unP op a):=by
 unfold unP;split
 ·unfold InB at *;omega
 ·exact yfo _
theorem ydbh(op a b:Int):InB (binP op a b):=by
 unfold binP;split;· exact ypw _
 split;· exact ypw _
 split
 ·split
  ·unfold InB;omega
  ·exact ypw _
 split;· exact ypw _
 split;· exact ypw _
 split;· exact yfo _
 split;· exact yfo _
 exact yfo _
theorem countP_le(l:List Int):0<=countP l/\countP l<=l.length:=by
 unfold countP;have:=List.length_filter_le (· != 0) l;omega
theorem ybuu(l:List Int)(h:∀x∈l,InB x):InB (yre l):=by
 unfold yre
 have:∀(l:List Int) (a:Int),InB a->(∀x∈l,InB x)->InB (l.foldl min a):=by
  intro l
  induction l with
  |nil=>intro a ha _;exact ha
  | cons x l ih =>
    intro a ha hl;refine ih _ ?_ fun y hy=>hl y (zU _ hy);have:=hl x zO;unfold InB at *;omega
 exact this l _ (by unfold InB;omega) h
theorem yxc(l:List Int)(h:∀x∈l,InB x):InB (ydk l).1/\InB (ydk l).2:=by
 unfold ydk
 have:∀(l:List Int) (p:Int×Int),InB p.1/\InB p.2->(∀x∈l,InB x)->InB (l.foldl (fun p a=>if a>p.1 then(a,p.1)else(p.1,max p.2 a)) p).1/\InB (l.foldl (fun p a=>if a>p.1 then(a,p.1)else(p.1,max p.2 a)) p).2:=by
  intro l
  induction l with
  |nil=>intro p hp _;exact hp
  | cons x l ih =>
    intro p hp hl;refine ih _ ?_ fun y hy=>hl y (zU _ hy);have:=hl x zO;unfold InB at *
    dsimp only
    split<;>dsimp only<;>omega
 exact this l _ (by unfold InB;simp) h
theorem yblg(l:List Int):∀(n:Nat) (r:Int),r<=yvs l n r/\yvs l n r<=r+n
 |0,r=>by unfold yvs;omega
 | n+1,r=>by
   unfold yvs;have:=yblg l n (r+1);split<;>omega
theorem ybdf(l:List Int):-1<=yfq l/\yfq l<l.length\/yfq l = -1:=by
 unfold yfq;split
 ·rename_i i hi
  obtain⟨h,_⟩:=List.findIdx?_eq_some_iff_getElem.1 hi;left;omega
 ·exact .inr rfl
theorem ycex{op:Int}{l:List Int}(hl:l.length<=1000)(h:∀x∈l,InB x):InB (ygv op l):=by
 have hc:=countP_le l;unfold ygv;split;· exact yfo _
 split;· exact yfo _
 split;· unfold InB;omega
 split;· have:=ybdf l;unfold InB;omega
 split;· exact ybuu l h
 split;· exact(yxc l h).1
 split;· exact ypw _
 split;· have:=yblg l (l.length+1) 0;unfold mexP InB;omega
 split;· exact(yxc l h).2
 cases l with
 |nil=>unfold InB;simp
 |cons x l=>exact h x zO
structure ConfIn(n nv:Nat)(c:Conf):Prop where
 len:c.length=n
 row:∀s∈c,s.length=nv/\∀x∈s,InB x
theorem ConfIn.at_{n nv:Nat}{c:Conf}(h:ConfIn n nv c){v:Nat}(hv:v<n):(c.getD v []).length=nv/\∀k,InB ((c.getD v []).getD k 0):=by
 have hlt:v<c.length:=by rw[h.len];exact hv
 have e:c.getD v []=c[v]:=by simp[zG,hlt]
 obtain⟨h1,h2⟩:=h.row c[v] (zN hlt);rw[e];refine⟨h1,fun k=>?_⟩;rw[zJ];cases hk:c[v][k]? with
 |none=>simp;unfold InB;omega
 |some x=>simp;exact h2 x (zC hk)
theorem ybe.yck{g:Gr}(hg:ybe g){v p:Nat}(hv:v<g.ports.length)(hp:p<(g.ports.getD v []).length):0<=(yck g v p).1/\(yck g v p).1<g.ports.length/\1<=(yck g v p).2/\(yck g v p).2<=15:=by
 have e:g.ports.getD v []=g.ports[v]:=by simp[zG,hv]
 have h1:=hg.2.2.2.2.2.1 ⟨v,hv⟩;rw[e]at hp;have hm:(g.ports[v])[p]∈g.ports[v]:=zN hp;have h2:=h1.1 _ hm;unfold yii at h2;have e2:Go.Proofs.YtiejahgklcjhkaaGreatDoor.yck g v p=(g.ports[v])[p]:=by unfold Go.Proofs.YtiejahgklcjhkaaGreatDoor.yck;rw[e];simp[zG,hp]
 rw[e2];omega
theorem ybe.deg_lt{g:Gr}(hg:ybe g){v:Nat}:(g.ports.getD v []).length<24:=by
 by_cases hv:v<g.ports.length
 ·have h1:=hg.2.2.2.2.2.1 ⟨v,hv⟩;have:=ytq hv h1;have e:g.ports.getD v []=g.ports[v]:=by simp[zG,hv]
  rw[e];have:=hg.2.1;have h3:g.ports[(⟨v,hv⟩:Fin g.ports.length)].length=g.ports[v].length:=rfl;omega
 ·rw[zJ,List.getElem?_eq_none (by omega)]
  simp
theorem ybe.id_in{g:Gr}(hg:ybe g)(v:Nat):0<=g.ids.getD v 0/\g.ids.getD v 0<=255:=by
 rw[zJ];cases h:g.ids[v]? with
 |none=>simp
 |some x=>exact hg.2.2.2.1 x (zC h)
theorem ycfq{g:Gr}{c:Conf}{n nv:Nat}(hg:ybe g)(hn:g.ports.length=n)(hc:ConfIn n nv c){op arg:Int}{bnd:Bool}(ho:(Ex.leaf op arg).ok nv bnd=true){v:Nat}(hv:v<n){p:Int}(hp:bnd=true->0<=p/\p<(g.ports.getD v []).length)(hpi:InB p):InB (yti g c op arg v p):=by
 subst hn;have h24:=hg.2.1;have hd:=hg.deg_lt (v:=v);unfold yti;simp only[Ex.ok,zI,decide_eq_true_eq]at ho;obtain⟨⟨ho1,ho2⟩,ho3⟩:=ho;split
 ·rename_i h;rw[if_pos h]at ho2;simp at ho2;unfold InB;omega
 split;· unfold InB;omega
 split;· unfold InB;omega
 split;· unfold InB;omega
 split;· exact(hc.at_ hv).2 _
 split
 ·rename_i h
  rw[if_pos (by omega)]at ho3
  obtain⟨q1,q2⟩:=hp ho3;have hl:=hg.yck hv (p:=p.toNat) (by omega)
  exact(hc.at_ (v:=(yck g v p.toNat).1.toNat) (by omega)).2 _
 ·unfold ylx;split;· rw[hg.2.2.1];unfold InB;omega
  split;· have:=yuc hg;unfold InB;omega
  split;· have:=hg.id_in v;unfold InB;omega
  split;· unfold InB;omega
  split;· exact yfo _
  split;· exact hpi
  rename_i h6 h7 h8 h9 h10 h11
  rw[if_pos (by omega)]at ho3
  obtain⟨q1,q2⟩:=hp ho3;have hl:=hg.yck hv (p:=p.toNat) (by omega)
  simp only;split;· have:=hg.id_in (yck g v p.toNat).1.toNat;unfold InB;omega
  split;· have:=hg.deg_lt (v:=(yck g v p.toNat).1.toNat);unfold InB;omega
  split;· exact yfo _
  split;· unfold InB;omega
  ·unfold yjv;rw[zJ,List.getElem?_map];cases hk:(g.ports.getD v [])[p.toNat]? with
   |none=>simp;unfold InB;omega
   | some l =>
     simp;have hd2:=hg.deg_lt (v:=l.1.toNat);rcases ynw (ls:=g.ports.getD l.1.toNat []) (u:=(v:Int))with e|⟨k,e,hk⟩
     ·simp at e;rw[e];unfold InB;omega
     ·simp at e hk hd2;rw[e];unfold InB;omega
theorem yhk{g:Gr}{c:Conf}{n nv:Nat}(hg:ybe g)(hn:g.ports.length=n)(hc:ConfIn n nv c){v:Nat}(hv:v<n):∀(x:Ex) {bnd:Bool}{p:Int},x.ok nv bnd=true->(bnd=true->0<=p/\p<(g.ports.getD v []).length)->InB p->InB (ycs g c v x p)
 |.leaf op arg,bnd,p,h,hp,hpi=>ycfq hg hn hc h hv hp hpi
 | .un op a,bnd,p,h,hp,hpi=>by
   simp only[Ex.ok,zI]at h;exact ydfw (yhk hg hn hc hv a h.2 hp hpi)
 | .agg op a,bnd,p,h,hp,hpi=>by
   simp only[Ex.ok,zI]at h;have:=hg.deg_lt (v:=v);refine ycex (by simp;simp at this;omega) fun x hx=>?_
   obtain⟨q,hq,rfl⟩:=List.mem_map.1 hx;have hq:=List.mem_range.1 hq;exact yhk hg hn hc hv a h.2 (fun _=>by omega) (by unfold InB;omega)
 |.bin op a b,bnd,p,h,hp,hpi=>ydbh _ _ _
 | .ite x a b,bnd,p,h,hp,hpi=>by
   simp only[Ex.ok,zI]at h;unfold ycs;split
   ·exact yhk hg hn hc hv a h.1.2 hp hpi
   ·exact yhk hg hn hc hv b h.2 hp hpi
end
section
namespace Sh
open Go Ev
def varC(x:VarR):List SV:=[.a (.string x.name),.i .i64 x.kind,.i .i64 x.lo,.i .i64 x.hi,.i .i64 x.perNode,.i .i64 x.perID]
def ydi(l:List VarR):SV:=.sl 6 l.length (fun k=>varC (l.getD k default))
def yij(l:List SetR):SV:=.sl 2 l.length (fun k=>[.i .i64 (l.getD k default).var,ybc (l.getD k default).val])
def ycz(l:List RuleR):SV:=.sl 3 l.length (fun k=>[.a (.string (l.getD k default).name),ybc (l.getD k default).guard,yij (l.getD k default).sets])
def ynm(p:ProgR):List SV:=[.a (.string p.name),ydi p.vars,ycz p.rules]
def ydp(g:Gr):SV:=.sl 1 g.ports.length (fun v=>[yw (yjv g v)])
def yfu(p:ProgR)(g:Gr):List SV:=[.a (.string p.name),ydi p.vars,ycz p.rules,yw g.ids,yx g.ports,.i .i64 (yber g),ydp g]
def yit(p:ProgR)(g:Gr)(c:Conf)(v:Nat)(e:List Tm):List SV:=[.rf (yfu p g),ybk c,.i .i64 v,ybc e]
theorem ybny(l:List Int):one1 (yw l)=true:=rfl
theorem ybif{n:Nat}(l:List Int):owned (n+1) (yw l)=false:=rfl
theorem ybdp{n:Nat}(l:List Int):scalar (n+1) (yw l)=false:=rfl
theorem ybln{n:Nat}(o:Own)(l:List Int):view o (n+1) (yw l)=yw l:=rfl
theorem ybpo{n:Nat}(o:Own)(l:List Int):vok o (n+1) (yw l)=True:=rfl
theorem ycaj{n:Nat}(h:Nm->Nm)(l:List Int):ren h (n+1) (yw l)=yw l:=rfl
theorem ycas{n:Nat}(L:Nm->Bool)(l:List Int):cln L (n+1) (yw l)=true:=rfl
theorem ybeu(l:List (Int×Int)):one1 (ybc l)=true:=rfl
theorem ybbo{n:Nat}(l:List (Int×Int)):owned (n+1) (ybc l)=false:=rfl
theorem yze{n:Nat}(l:List (Int×Int)):scalar (n+1) (ybc l)=false:=rfl
theorem ybfi{n:Nat}(o:Own)(l:List (Int×Int)):view o (n+1) (ybc l)=ybc l:=rfl
theorem yblr{n:Nat}(o:Own)(l:List (Int×Int)):vok o (n+1) (ybc l)=True:=rfl
theorem ybmb{n:Nat}(h:Nm->Nm)(l:List (Int×Int)):ren h (n+1) (ybc l)=ybc l:=rfl
theorem yblo{n:Nat}(L:Nm->Bool)(l:List (Int×Int)):cln L (n+1) (ybc l)=true:=rfl
theorem ybex(l:List (List (Int×Int))):one1 (yx l)=true:=rfl
theorem ybbf{n:Nat}(l:List (List (Int×Int))):owned (n+1) (yx l)=false:=rfl
theorem yzf{n:Nat}(l:List (List (Int×Int))):scalar (n+1) (yx l)=false:=rfl
theorem ybgj{n:Nat}(o:Own)(l:List (List (Int×Int))):view o (n+1) (yx l)=yx l:=rfl
theorem ybmk{n:Nat}(o:Own)(l:List (List (Int×Int))):vok o (n+1) (yx l)=True:=rfl
theorem ybpb{n:Nat}(h:Nm->Nm)(l:List (List (Int×Int))):ren h (n+1) (yx l)=yx l:=rfl
theorem ybml{n:Nat}(L:Nm->Bool)(l:List (List (Int×Int))):cln L (n+1) (yx l)=true:=rfl
theorem ybmx(l:List (List Int)):one1 (ybk l)=true:=rfl
theorem ybhe{n:Nat}(l:List (List Int)):owned (n+1) (ybk l)=false:=rfl
theorem ybah{n:Nat}(l:List (List Int)):scalar (n+1) (ybk l)=false:=rfl
theorem ybmc{n:Nat}(o:Own)(l:List (List Int)):view o (n+1) (ybk l)=ybk l:=rfl
theorem ycao{n:Nat}(o:Own)(l:List (List Int)):vok o (n+1) (ybk l)=True:=rfl
theorem ybxx{n:Nat}(h:Nm->Nm)(l:List (List Int)):ren h (n+1) (ybk l)=ybk l:=rfl
theorem ybtz{n:Nat}(L:Nm->Bool)(l:List (List Int)):cln L (n+1) (ybk l)=true:=rfl
theorem ybly(l:List VarR):one1 (ydi l)=true:=rfl
theorem ybid{n:Nat}(l:List VarR):owned (n+1) (ydi l)=false:=rfl
theorem ybcb{n:Nat}(l:List VarR):scalar (n+1) (ydi l)=false:=rfl
theorem ybnx{n:Nat}(o:Own)(l:List VarR):view o (n+1) (ydi l)=ydi l:=rfl
theorem ybxk{n:Nat}(o:Own)(l:List VarR):vok o (n+1) (ydi l)=True:=rfl
theorem ybut{n:Nat}(h:Nm->Nm)(l:List VarR):ren h (n+1) (ydi l)=ydi l:=rfl
theorem ybrz{n:Nat}(L:Nm->Bool)(l:List VarR):cln L (n+1) (ydi l)=true:=rfl
theorem ybmm(l:List SetR):one1 (yij l)=true:=rfl
theorem ybin{n:Nat}(l:List SetR):owned (n+1) (yij l)=false:=rfl
theorem ybcq{n:Nat}(l:List SetR):scalar (n+1) (yij l)=false:=rfl
theorem ybot{n:Nat}(o:Own)(l:List SetR):view o (n+1) (yij l)=yij l:=rfl
theorem ybuf{n:Nat}(o:Own)(l:List SetR):vok o (n+1) (yij l)=True:=rfl
theorem ybpp{n:Nat}(h:Nm->Nm)(l:List SetR):ren h (n+1) (yij l)=yij l:=rfl
theorem ybtx{n:Nat}(L:Nm->Bool)(l:List SetR):cln L (n+1) (yij l)=true:=rfl
theorem ybfo(l:List RuleR):one1 (ycz l)=true:=rfl
theorem ybbu{n:Nat}(l:List RuleR):owned (n+1) (ycz l)=false:=rfl
theorem yzh{n:Nat}(l:List RuleR):scalar (n+1) (ycz l)=false:=rfl
theorem ybfb{n:Nat}(o:Own)(l:List RuleR):view o (n+1) (ycz l)=ycz l:=rfl
theorem ybmi{n:Nat}(o:Own)(l:List RuleR):vok o (n+1) (ycz l)=True:=rfl
theorem ybop{n:Nat}(h:Nm->Nm)(l:List RuleR):ren h (n+1) (ycz l)=ycz l:=rfl
theorem ybom{n:Nat}(L:Nm->Bool)(l:List RuleR):cln L (n+1) (ycz l)=true:=rfl
theorem ybil(l:Gr):one1 (ydp l)=true:=rfl
theorem ybek{n:Nat}(l:Gr):owned (n+1) (ydp l)=false:=rfl
theorem yzy{n:Nat}(l:Gr):scalar (n+1) (ydp l)=false:=rfl
theorem ybga{n:Nat}(o:Own)(l:Gr):view o (n+1) (ydp l)=ydp l:=rfl
theorem ybmo{n:Nat}(o:Own)(l:Gr):vok o (n+1) (ydp l)=True:=rfl
theorem ybno{n:Nat}(h:Nm->Nm)(l:Gr):ren h (n+1) (ydp l)=ydp l:=rfl
theorem yboa{n:Nat}(L:Nm->Bool)(l:Gr):cln L (n+1) (ydp l)=true:=rfl
theorem ybht{n:Nat}(fr:List Nm)(o:Own)(l:List Int):ydd fr o (n+1) (yw l)=yw l:=rfl
theorem ybzj{n:Nat}(fr:List Nm)(o:Own)(l:List Int):pok fr o (n+1) (yw l)=True:=rfl
theorem ybcn{n:Nat}(fr:List Nm)(o:Own)(l:List (Int×Int)):ydd fr o (n+1) (ybc l)=ybc l:=rfl
theorem ybov{n:Nat}(fr:List Nm)(o:Own)(l:List (Int×Int)):pok fr o (n+1) (ybc l)=True:=rfl
theorem ybcl{n:Nat}(fr:List Nm)(o:Own)(l:List (List (Int×Int))):ydd fr o (n+1) (yx l)=yx l:=rfl
theorem yboh{n:Nat}(fr:List Nm)(o:Own)(l:List (List (Int×Int))):pok fr o (n+1) (yx l)=True:=rfl
theorem ybhz{n:Nat}(fr:List Nm)(o:Own)(l:List (List Int)):ydd fr o (n+1) (ybk l)=ybk l:=rfl
theorem ybtl{n:Nat}(fr:List Nm)(o:Own)(l:List (List Int)):pok fr o (n+1) (ybk l)=True:=rfl
theorem ybgr{n:Nat}(fr:List Nm)(o:Own)(l:List VarR):ydd fr o (n+1) (ydi l)=ydi l:=rfl
theorem ycar{n:Nat}(fr:List Nm)(o:Own)(l:List VarR):pok fr o (n+1) (ydi l)=True:=rfl
theorem ybfw{n:Nat}(fr:List Nm)(o:Own)(l:List SetR):ydd fr o (n+1) (yij l)=yij l:=rfl
theorem ybsf{n:Nat}(fr:List Nm)(o:Own)(l:List SetR):pok fr o (n+1) (yij l)=True:=rfl
theorem ybbr{n:Nat}(fr:List Nm)(o:Own)(l:List RuleR):ydd fr o (n+1) (ycz l)=ycz l:=rfl
theorem yboq{n:Nat}(fr:List Nm)(o:Own)(l:List RuleR):pok fr o (n+1) (ycz l)=True:=rfl
theorem ybdx{n:Nat}(fr:List Nm)(o:Own)(l:Gr):ydd fr o (n+1) (ydp l)=ydp l:=rfl
theorem ybod{n:Nat}(fr:List Nm)(o:Own)(l:Gr):pok fr o (n+1) (ydp l)=True:=rfl
theorem ybho(l:List Int):SV.cells (yw l)=[yw l]:=rfl
theorem ybdd(l:List (Int×Int)):SV.cells (ybc l)=[ybc l]:=rfl
theorem ybap(l:List (List (Int×Int))):SV.cells (yx l)=[yx l]:=rfl
theorem ybgi(l:List (List Int)):SV.cells (ybk l)=[ybk l]:=rfl
theorem ybhw(l:List VarR):SV.cells (ydi l)=[ydi l]:=rfl
theorem ybfn(l:List SetR):SV.cells (yij l)=[yij l]:=rfl
theorem ybby(l:List RuleR):SV.cells (ycz l)=[ycz l]:=rfl
theorem ybel(l:Gr):SV.cells (ydp l)=[ydp l]:=rfl
attribute [go_sem] ybny ybif ybdp ybln ybpo ycaj ycas ybeu ybbo yze ybfi yblr ybmb yblo
attribute [go_sem] ybex ybbf yzf ybgj ybmk ybpb ybml ybmx ybhe ybah ybmc ycao ybxx
attribute [go_sem] ybtz ybly ybid ybcb ybnx ybxk ybut ybrz ybmm ybin ybcq ybot ybuf ybpp
attribute [go_sem] ybtx ybfo ybbu yzh ybfb ybmi ybop ybom ybil ybek yzy ybga ybmo
attribute [go_sem] ybno yboa ybht ybzj ybcn ybov ybcl yboh ybhz ybtl ybgr ycar ybfw ybsf
attribute [go_sem] ybbr yboq ybdx ybod ybho ybdd ybap ybgi ybhw ybfn ybby ybel
end Sh
end
section
open Go.RowKit
theorem yzx(gv:Value)(g:Gr)(w:World)(hg:GrAt w gv g) :
 Calls Tryz.prog 137 #[gv] w fun e w'=>e = .returned (.bool (ygc g))/\Below w.heap.size w w':=by
 have hg0:=Lib.hid hg;obtain⟨i,p,rfl,hi,hp⟩:=hg
 clear hi hp
 cases hv:yda g with
 | false =>
   have Hf:=Lib.hid (show ygc g=false by unfold ygc;rw[hv];rfl)
   go_enter Tryz.func137,Tryz.ntmps137
   go_wp2_with fail
   refine(yuj _ g _ (hg0.out.below ((Below.refl _ _).alloc (zB _) _))).mono ?_;rintro e w1 ⟨rfl,hb1⟩
   go_wp2_with fail
   go_ret
   exact⟨ybi Hf.out.symm,ymy hb1⟩
 | true =>
   have hgood:=(yfg g).1 hv;have hn1:=hgood.1;have hn24:=hgood.2.1;have Hgood:=Lib.hid hgood;have Hd:=Lib.hid (yho hgood (a:=0) (by omega))
   have Hc:=Lib.hid (show ygc g=(ybu g 0).all (fun x=>decide (0<=x))by unfold ygc;rw[hv];rfl)
   clear hgood
   go_enter Tryz.func137,Tryz.ntmps137
   go_wp2_with fail
   refine(yuj _ g _ (hg0.out.below ((Below.refl _ _).alloc (zB _) _))).mono ?_;rintro e w1 ⟨rfl,hb1⟩;obtain⟨q0,q1⟩:=ybgh hb1;have Hb1:=Lib.hid (ymy hb1)
   clear hb1
   go_wp2_with fail
   refine(ybnf _ g 0 _ (hg0.out.below Hb1.out) Hgood.out (by omega)).mono ?_
   rintro e w2 ⟨v,rfl,hv2,hb2⟩;have Hb2:=Lib.hid (Hb1.out.trans (hb2.mono Hb1.out.size));obtain⟨A,c,rfl,hA1,hA2⟩:=ybo hv2;have Hv2:=Lib.hid hv2
   clear hb2 hv2
   obtain⟨D,hD⟩:∃D,ybu g 0=D:=⟨_,rfl⟩;rw[hD]at Hv2 Hd hA1 Hc ⊢
   clear hD
   go_wp2
   go_loopg [11] D.length (fun q t wr=>∃k:Nat,q+k=D.length/\t = .int .i64 k/\wr=w2/\Hid (∀j (hj:j<D.length),j<k->0<=D[j]))
   case atStart=>exact⟨0,by omega,rfl,rfl,Lib.hid (fun j _ hj=>absurd hj (by omega))⟩
   case round =>
    obtain⟨k,hq,rfl,rfl,hall⟩:=hrel
    by_cases hlt:k<D.length
    ·obtain⟨b,off,rfl,hb,hc,hr⟩:=yfn Hv2.out hlt
     by_cases c1:D[k]<0
     ·have Hf:=Lib.hid (show ygc g=false by
       rw[Hc.out,List.all_eq_false];exact⟨D[k],zN hlt,by simp;omega⟩)
      go_wp2
      go_ret
      exact⟨ybi Hf.out.symm,Hb2.out⟩
     ·go_wp2
      go_roundg (gk-1)
      case measure=>omega
      case rel =>
       refine⟨k+1,by omega,by go_num,rfl,Lib.hid (fun j hj hjk=>?_)⟩
       by_cases e:j=k
       ·subst e;omega
       ·exact hall.out j hj (by omega)
    ·obtain rfl:k=D.length:=by omega
     have Ht:=Lib.hid (show ygc g=true by
      rw[Hc.out,zX];intro x hx;obtain⟨j,hj,rfl⟩:=List.mem_iff_getElem.1 hx;exact decide_eq_true (hall.out j hj hj))
     go_wp2
     go_ret
     exact⟨ybi Ht.out.symm,Hb2.out⟩
theorem ybfg{g:Gr}(h:ygc g=true):yda g=true:=(zI _ _▸h).1
end
section
open Go
namespace Sh
open Ev Go.RowKit
set_option maxRecDepth 8000
theorem ybyy{g:Gr}(hI:GrI g):Returns Tryz.prog 137 [grV g] (.b (ygc g)):=by
 refine ybdz ⟨_,_,Tryz.func137,rfl⟩ (fun _=>.b) (fun _=>.simple rfl) fun G m us hG hr φ M w us' hRl hs hv=>?_;obtain⟨u,rfl,h1⟩:=rvl1 hr;obtain⟨u',rfl,h2⟩:=yfz hv;exact yzx u' g w (ychc hG h1 h2 hRl hs hI)
end Sh
end
section
open Go.RowKit
theorem ykw(g:Gr)(G:List Int)(v:Nat):(ydh g G v).length=G.length:=by simp[ydh]
set_option maxHeartbeats 2000000 in
theorem yob(gv cv Gv:Value)(g:Gr)(c:Conf)(G:List Int)(w:World)(hg:GrAt w gv g)(hc:ycuv w cv c)(hG:yjz w Gv G)(hgood:ybe g) :
 Calls Tryz.prog 102 #[gv,cv,Gv] w fun e w'=>e = .returned (.bool (ypf g.ports.length (ydh g G) c))/\Below w.heap.size w w':=by
 have hn24:=hgood.2.1;have hid:=hgood.2.2.1;have Hid':=Lib.hid hid
 clear hgood
 obtain⟨i,p,rfl,hi,hp⟩:=hg;obtain⟨A,c0,rfl,hA1,hA2⟩:=ybo hi;obtain⟨A2,c2,rfl,hB1,hB2⟩:=ybo hp;obtain⟨A3,c3,rfl,hC1,hC2⟩:=ybo hc;obtain⟨A4,c4,rfl,hD1,hD2⟩:=ybo hG;have Hp:=Lib.hid hp;have Hc:=Lib.hid hc;have HG:=Lib.hid hG
 clear hi hp hc hG
 by_cases n1:c.length=g.ids.length
 ·have n1':((c.length:Int)!=(g.ids.length:Int))=false:=by simp[n1]
  have Hn:=Lib.hid (n1.trans hid);have hcn:c.length<=24:=by omega
  clear n1 hid
  go_enter Tryz.func102,Tryz.ntmps102
  go_wp2
  obtain⟨W1,hW1⟩:∃W,W=w.alloc (.cells #[.slice A g.ids.length c0,.slice A2 g.ports.length c2] 27):=⟨_,rfl⟩;have hbox:W1.cell? ⟨w.heap.size,1,none⟩=some (.slice A2 g.ports.length c2):=by subst hW1;simp
  have HbW:=Lib.hid (show Below w.heap.size w W1 by subst hW1;exact(Below.refl _ _).alloc (zB _) _)
  rw[<-hW1]
  clear hW1
  go_loopg [21] c.length (fun q t wr=>∃v n:Nat,q+v=c.length/\t = .int .i64 v/\wr=W1.drewN n/\Hid (∀(u:Nat) s,u<v->c[u]?=some s->yei (ydh g G u) s))
  case atStart=>exact⟨0,0,by omega,rfl,rfl,Lib.hid (fun u s hu=>absurd hu (by omega))⟩
  case round =>
   obtain⟨v,n,hq,rfl,rfl,hok⟩:=hrel
   by_cases hlt:v<c.length
   ·obtain⟨b3,off3,sv,rfl,hb3,hcs,hs⟩:=yfx (Hc.out.below (Stable.sl Stable.int) HbW.out) (zA hlt);obtain⟨A5,c5,rfl,hE1,hE2⟩:=ybo hs;obtain⟨s,hse⟩:∃s,c[v]=s:=⟨_,rfl⟩;have Hs?:=Lib.hid (show c[v]?=some s by rw[zA hlt,hse])
    rw[hse]at hs hcs hE1;have Hbad:=Lib.hid (show ¬yei (ydh g G v) s->ypf g.ports.length (ydh g G) c=false from fun h=>yix (fun hc=>h (hc.2 v s Hs?.out)))
    have Hs:=Lib.hid hs
    clear hs hse
    by_cases c1:s.length=G.length
    ·have c1':((s.length:Int)!=(G.length:Int))=false:=by simp[c1]
     have Hsl:=Lib.hid c1
     clear c1
     have hvp:v<g.ports.length:=by rw[<-Hn.out];exact hlt
     go_wp2
     obtain⟨go,rfl⟩:∃go,go=gk:=⟨_,rfl⟩
     go_loopg [33] s.length (fun q t wr=>∃x n:Nat,q+x=s.length/\t = .int .i64 x/\wr=W1.drewN n/\Hid (∀(j:Nat) b z,j<x->(ydh g G v)[j]?=some b->s[j]?=some z->b.1<=z/\z<=b.2))
     case atStart=>exact⟨0,n,by omega,rfl,rfl,Lib.hid (fun j b z hj=>absurd hj (by omega))⟩
     case round =>
      obtain⟨x,n,hqx,rfl,rfl,hst⟩:=hrel
      by_cases hxl:x<s.length
      ·have hxG:x<G.length:=by rw[<-Hsl.out];exact hxl
       obtain⟨b5,o5,rfl,hb5,hc5,hr5⟩:=yfn (Hs.out) hxl;obtain⟨b6,o6,rfl,hb6,hc6,hr6⟩:=yfn (HG.out.below Stable.int HbW.out) hxG;obtain⟨b7,o7,lv,rfl,hb7,hc7,hl7⟩:=yfx (Hp.out.below (Stable.sl Stable.link) HbW.out) (zA hvp);obtain⟨A8,c8,rfl,hF1,hF2⟩:=ybo hl7;obtain⟨ds,hds⟩:∃ds,g.ports[v]=ds:=⟨_,rfl⟩;have hdeg:ydco g v=ds.length:=by simp[ydco,zG,zA hvp,hds]
       rw[hds]at hc7 hF1;obtain⟨y,hy⟩:∃y,s[x]=y:=⟨_,rfl⟩;obtain⟨h,hh⟩:∃h,G[x]=h:=⟨_,rfl⟩;have Hy?:=Lib.hid (show s[x]?=some y by rw[zA hxl,hy])
       have hb?:(ydh g G v)[x]?=some (if h = -1 then(-1,(ds.length:Int)-1)else(0,h)):=by
        simp[ydh,hxG,hh,hdeg]
       rw[hy]at hc5 hr5;rw[hh]at hc6 hr6;obtain⟨hr5a,hr5b⟩:=hr5;obtain⟨hr6a,hr6b⟩:=hr6
       clear hl7 hds hdeg hy hh
       by_cases c2:h = -1
       ·have c2':(h == -1)=true:=by simp[c2]
        rw[if_pos c2]at hb?;have Hb?:=Lib.hid hb?
        clear hb? c2
        by_cases c3:y < -1
        ·have Hf:=Lib.hid (Hbad.out (fun h=>by have:=h.2 x _ y Hb?.out Hy?.out;simp only at this;omega))
         go_wp2
         go_quiet (fail)
         go_wp2
         go_quiet (fail)
         go_wp2
         go_ret
         exact⟨ybi Hf.out.symm,below_drewN HbW.out _⟩
        ·by_cases c4:(ds.length:Int)-1<y
         ·have Hf:=Lib.hid (Hbad.out (fun h=>by have:=h.2 x _ y Hb?.out Hy?.out;simp only at this;omega))
          go_wp2
          go_quiet (fail)
          go_wp2
          go_quiet (fail)
          go_wp2
          go_ret
          exact⟨ybi Hf.out.symm,below_drewN HbW.out _⟩
         ·have c4d:decide ((ds.length:Int)-1<y)=false:=by simp;omega
          go_wp2
          go_quiet (fail)
          go_wp2
          go_quiet (fail)
          go_wp2
          go_roundg (gk-1)
          case measure=>omega
          case rel =>
           refine⟨x+1,_,by omega,by go_num,rfl,Lib.hid (fun j b z hj hb hz=>?_)⟩
           by_cases hjx:j<x
           ·exact hst.out j b z hjx hb hz
           ·obtain rfl:j=x:=by omega
            rw[Hb?.out]at hb;rw[Hy?.out]at hz;cases hb
            cases hz
            simp only;omega
       ·have c2':(h == -1)=false:=by simp[c2]
        rw[if_neg c2]at hb?;have Hb?:=Lib.hid hb?
        clear hb? c2
        by_cases c3:y<0
        ·have Hf:=Lib.hid (Hbad.out (fun h=>by have:=h.2 x _ y Hb?.out Hy?.out;simp only at this;omega))
         go_wp2
         go_quiet (fail)
         go_wp2
         go_ret
         exact⟨ybi Hf.out.symm,below_drewN HbW.out _⟩
        ·by_cases c4:h<y
         ·have Hf:=Lib.hid (Hbad.out (fun h=>by have:=h.2 x _ y Hb?.out Hy?.out;simp only at this;omega))
          go_wp2
          go_quiet (fail)
          go_wp2
          go_ret
          exact⟨ybi Hf.out.symm,below_drewN HbW.out _⟩
         ·have c4d:decide (h<y)=false:=by simp;omega
          go_wp2
          go_quiet (fail)
          go_wp2
          go_roundg (gk-1)
          case measure=>omega
          case rel =>
           refine⟨x+1,_,by omega,by go_num,rfl,Lib.hid (fun j b z hj hb hz=>?_)⟩
           by_cases hjx:j<x
           ·exact hst.out j b z hjx hb hz
           ·obtain rfl:j=x:=by omega
            rw[Hb?.out]at hb;rw[Hy?.out]at hz;cases hb
            cases hz
            simp only;omega
      ·obtain rfl:x=s.length:=by omega
       go_wp2
       go_roundg (go-1)
       case measure=>omega
       case rel =>
        refine⟨v+1,_,by omega,by go_num,rfl,Lib.hid (fun u s' hu hs'=>?_)⟩
        by_cases huv:u<v
        ·exact hok.out u s' huv hs'
        ·obtain rfl:u=v:=by omega
         rw[Hs?.out]at hs';cases hs'
         refine⟨by rw[ykw,Hsl.out],fun j b z hb hz=>hst.out j b z (List.getElem?_eq_some_iff.1 hz).1 hb hz⟩
    ·have c1':((s.length:Int)!=(G.length:Int))=true:=by simp;omega
     have Hf:=Lib.hid (Hbad.out (fun h=>c1 (by rw[h.1,ykw])))
     clear c1
     go_wp2
     go_ret
     exact⟨ybi Hf.out.symm,below_drewN HbW.out _⟩
   ·obtain rfl:v=c.length:=by omega
    have Ht:=Lib.hid (yxs (n:=g.ports.length) (bs:=ydh g G) (c:=c) ⟨Hn.out,fun v s hs=>hok.out v s (List.getElem?_eq_some_iff.1 hs).1 hs⟩)
    go_wp2
    go_ret
    exact⟨ybi Ht.out.symm,below_drewN HbW.out _⟩
 ·have n1':((c.length:Int)!=(g.ids.length:Int))=true:=by simp;omega
  have Hf:=Lib.hid (yix (n:=g.ports.length) (bs:=ydh g G) (c:=c) (fun h=>n1 (h.1.trans hid.symm)))
  clear n1 hid
  go_enter Tryz.func102,Tryz.ntmps102
  go_wp2
  go_ret
  exact⟨ybi Hf.out.symm,(Below.refl _ _).alloc (zB _) _⟩
end
section
open Go
namespace Sh
open Ev Go.RowKit
set_option maxRecDepth 8000
theorem ycgb{g:Gr}(hg:ybe g){c:Conf}(hR:ybws c){G:List Int}(hG:∀x∈G,I64 x):Returns Tryz.prog 102 [grV g,ybk c,yw G] (.b (ypf g.ports.length (ydh g G) c)):=by
 refine ybdz ⟨_,_,Tryz.func102,rfl⟩ (fun _=>.b) (fun _=>.simple rfl) fun H m us hH hr φ M w us' hRl hs hv=>?_
 obtain⟨u,us2,rfl,h1,h2⟩:∃u us2,us=u::us2/\RV H om0 (grV g) u/\RVL H om0 [ybk c,yw G] us2:=by
  cases hr with|cons x y=>exact⟨_,_,rfl,x,y⟩
 obtain⟨u2,u3,rfl,h3,h4⟩:=rvl2 h2
 obtain⟨u',us3,rfl,h5,h6⟩:∃u' us3,us'=u'::us3/\VR φ u u'/\VRL φ [u2,u3] us3:=by
  cases hv with|cons x y=>exact⟨_,_,rfl,x,y⟩
 obtain⟨u2',u3',rfl,h7,h8⟩:=ytw h6;exact yob u' u2' u3' g c G w (ychc hH h1 h5 hRl hs (ydff hg)) (ydec hH h3 h7 hRl hs hR) (ints_at hH h4 h8 hRl hs hG) hg
end Sh
end
section
open Go.RowKit
theorem yvv(R:List Int)(x:Int)(ls:List (Int×Int))(i:Nat)(hi:i<ls.length):ykr R x (ls.take (i+1))=(ykr R x (ls.take i)||decide (R[ls[i].1.toNat]?=some x)):=by
 unfold ykr;rw[take_snoc ls i hi,List.any_append];simp
def layers(g:Gr)(a D:Nat):List Int:=(zY (D-1)).foldl (fun R d=>stepD g R (d+1)) (start g a)
theorem ybgd(g:Gr)(a:Nat){D:Nat}(hD:1<=D):layers g a (D+1)=stepD g (layers g a D) D:=by
 obtain⟨k,rfl⟩:∃k,D=k+1:=⟨D-1,by omega⟩
 unfold layers;rw[zV,zZ,zS];rfl
def ytc(g:Gr)(R:List Int)(D v:Nat):List Int:=(zY v).foldl (yri g D) R
theorem ybav(g:Gr)(R:List Int)(D v:Nat):ytc g R D (v+1)=yri g D (ytc g R D v) v:=by
 unfold ytc;rw[zZ,zS];rfl
theorem ytv(R:List Int)(k:Nat)(x:Int):(R.map (Value.int .i64)).set k (.int .i64 x)=(R.set k x).map (Value.int .i64):=by rw[List.map_set]
theorem ybfm(g:Gr)(a:Nat):((zD g.ports.length (-1:Int)).map (Value.int .i64)).set a (.int .i64 0)=(start g a).map (Value.int .i64):=by rw[ytv];rfl
set_option maxHeartbeats 4000000 in
theorem yrr(gv:Value)(g:Gr)(v:Int)(w:World)(hg:GrAt w gv g)(hv64:I64 v) :
 Calls Tryz.prog 84 #[gv,.int .i64 v] w (ycad (yux g v) w):=by
 have hg0:=Lib.hid hg;obtain⟨i,p,rfl,hi,hp⟩:=hg;obtain⟨A2,c2,rfl,hB1,hB2⟩:=ybo hp;have Hp:=Lib.hid hp
 clear hi hp
 cases hc:yda g with
 | false =>
   have Hf:=Lib.hid (show yux g v=[]from yor (by simp[hc]))
   go_enter Tryz.func84,Tryz.ntmps84
   go_wp2_with fail
   refine(yjt _ g _ (hg0.out.below ((Below.refl _ _).alloc (zB _) _))).mono ?_;rintro e w1 ⟨rfl,hb1⟩
   go_wp2_with fail
   go_ret
   exact⟨_,rfl,by rw[Hf.out];exact SlAt.nil _,ymy hb1⟩
 | true =>
   have hgood:=(yfg g).1 hc;have hn1:=hgood.1;have hn24:=hgood.2.1;have Hgood:=Lib.hid hgood
   clear hgood
   obtain⟨hv1,hv2⟩:=hv64
   by_cases c2:0<=v/\v<g.ports.length
   ·obtain⟨c2a,c2b⟩ := c2;obtain⟨a,rfl⟩:=zH c2a;have Hf:=Lib.hid (show yux g a=ybu g a from ybem hc (by omega) c2b)
    have ha:a<g.ports.length:=by omega
    go_enter Tryz.func84,Tryz.ntmps84
    go_wp2_with fail
    refine(yjt _ g _ (hg0.out.below ((Below.refl _ _).alloc (zB _) _))).mono ?_;rintro e w1 ⟨rfl,hb1⟩;obtain⟨q0,q1⟩:=ybgh hb1;have Hb1:=Lib.hid hb1
    clear hb1
    go_wp2_with fail
    refine(In_t _ _ _ _ (by omega) (by omega)).mono ?_
    rintro e w1' ⟨rfl,rfl⟩
    go_wp2_with fail
    obtain⟨i0,hi0,hz0,hz1,hz2⟩:=info_parts yza;have Hi0:=Lib.hid (show _/\_/\_/\_ from⟨hi0,hz0,hz1,hz2⟩)
    clear hi0 hz0 hz1 hz2
    obtain⟨W1,hW1⟩:∃W,W=w.alloc (.cells #[i,.slice A2 g.ports.length c2] 27):=⟨_,rfl⟩;have HB:=Lib.hid (show ∀wr,Below (w.heap.size+1) W1 wr->wr.cell? ⟨w.heap.size,0,none⟩=some i/\wr.cell? ⟨w.heap.size,1,none⟩=some (.slice A2 g.ports.length c2)/\Below w.heap.size w wr/\w.heap.size<wr.heap.size by subst hW1;exact fun wr h=>box2 h)
    have Hb1':=Lib.hid (show Below (w.heap.size+1) W1 w1 by subst hW1;simpa using Hb1.out)
    clear hW1 Hb1
    go_loopg [6,7] g.ports.length (fun q t6 t wr=>∃k:Nat,q+k=g.ports.length/\t = .int .i64 k/\Hid (Below (w.heap.size+1) W1 wr)/\Hid (Owns wr (w.heap.size+1) 3 1 t6 k ((zD k (-1:Int)).map (Value.int .i64))))
    case atStart=>exact⟨0,by omega,rfl,Hb1',Lib.hid (Owns.nil _ _ _ _)⟩
    case round =>
     clear q0 q1 Hb1'
     obtain⟨k,hq,rfl,hbel,hown⟩:=hrel;have hsz:=(HB.out _ hbel.out).2.2.2
     by_cases hlt:k<g.ports.length
     ·go_wp2_with (at_builtin;refine yhm _ rfl _ _ 22 rfl (w.heap.size+1) 3 i0 (.int .i64 0) 1 8 Tryz.underlying22 Hi0.out.1 Hi0.out.2.1 Hi0.out.2.2.1 Hi0.out.2.2.2 rfl (by decide) u6 k ((zD k (-1:Int)).map (Value.int .i64)) (by rfl) (hown.out.alloc _) _ 1 1 [.int .i64 (-1)] (by rfl) rfl (ybiv rfl) (by simp[Value.oneCell']) (by simp only[maxLen];omega) (by omega) (by simp;omega) ?_;intro v' w' hown' hgr hob)
      have Hown:=Lib.hid hown';have Hgr:=Lib.hid hgr
      clear hown' hgr hob
      go_wp2
      go_roundg (gk-1)
      case measure=>omega
      case rel =>
       refine⟨k+1,by omega,by go_num,Lib.hid ((hbel.out.alloc (by omega) _).grown Hgr.out (by simp;omega) (fun x hx=>(hown.out.lt hx).1)),Lib.hid ?_⟩
       have:=Hown.out
       rwa [<-List.map_singleton (f:=Value.int .i64),<-List.map_append,<-List.replicate_succ']at this
     ·obtain rfl:k=g.ports.length:=by omega
      obtain⟨gO,oO,cO,rfl,hO1,hO2,hO3,hO4,hO5⟩:=hown.out.form (by omega)
      unfold maxLen at hO4;have hca:=hO5 a (.int .i64 (-1)) (by simp[ha])
      have hfa:=hown.out.frozen (oO+a)
      clear hO5
      go_wp2
      go_loopg [8] (g.ports.length-1) (fun q t wr=>∃D:Nat,1<=D/\q+D=g.ports.length/\t = .int .i64 D/\Hid (Below (w.heap.size+1) W1 wr)/\Hid (Owns wr (w.heap.size+1) 3 1 (.slice (some ⟨gO,oO,none⟩) g.ports.length cO) g.ports.length ((layers g a D).map (Value.int .i64))))
      case atStart =>
       refine⟨1,zB _,by omega,rfl,Lib.hid (hbel.out.setCell (by simp;omega) _),Lib.hid ?_⟩
       have:=hown.out.store1 ha (.int .i64 0);rw[ybfm]at this;exact this
      case round =>
       clear hbel hown hca hfa hsz hO2
       obtain⟨D,hD1,hq,rfl,hbel,hown⟩:=hrel
       by_cases hlt:D<g.ports.length
       ·go_wp2
        obtain⟨go,rfl⟩:∃go,go=gk:=⟨_,rfl⟩
        go_loopg [9] g.ports.length (fun q t wr=>∃v:Nat,q+v=g.ports.length/\t = .int .i64 v/\Hid (Below (w.heap.size+1) W1 wr)/\Hid (Owns wr (w.heap.size+1) 3 1 (.slice (some ⟨gO,oO,none⟩) g.ports.length cO) g.ports.length ((ytc g (layers g a D) D v).map (Value.int .i64))))
        case atStart=>exact⟨0,by omega,rfl,hbel,hown⟩
        case round =>
         clear hbel hown
         obtain⟨v,hqv,rfl,hbel,hown⟩:=hrel
         by_cases hvlt:v<g.ports.length
         ·obtain⟨R,hR⟩:∃R,ytc g (layers g a D) D v=R:=⟨_,rfl⟩;have Hst:=Lib.hid (ybav g (layers g a D) D v);rw[hR]at hown Hst
          clear hR
          have Hlen:=Lib.hid (show R.length=g.ports.length by have:=hown.out.1;simpa using this)
          obtain⟨b2,off2,lv,rfl,hb2,hclw,hls⟩:=yfx Hp.out (zA hvlt);obtain⟨A3,c3,rfl,hl1,hl2⟩:=ybo hls;obtain⟨ls,hle⟩:∃ls,g.ports[v]=ls:=⟨_,rfl⟩;have Hlp:=Lib.hid (show g.ports[v]?=some ls by rw[zA hvlt,hle])
          rw[hle]at hls hclw hl1;have Hls:=Lib.hid hls
          have Hst2:=Lib.hid (show yri g D R v=if decide (R.getD v 0<0)&&ykr R ((D:Int)-1) ls then R.set v D else R by
           unfold yri;rw[show g.ports.getD v []=ls by simp[zG,Hlp.out]])
          clear hle hls
          have hRv:v<R.length:=by rw[Hlen.out];exact hvlt
          obtain⟨xv,hxv⟩:∃x,R[v]=x:=⟨_,rfl⟩;have Hgd:=Lib.hid (show R.getD v 0=xv by simp[zG,hRv,hxv])
          clear hxv
          go_wp2
          obtain⟨gv,rfl⟩:∃gv,gv=gk:=⟨_,rfl⟩
          go_loopg [10] ls.length (fun q t wr=>∃i:Nat,q+i=ls.length/\t = .int .i64 i/\Hid (Below (w.heap.size+1) W1 wr)/\∃R' x,R'[v]?=some x/\Hid (Owns wr (w.heap.size+1) 3 1 (.slice (some ⟨gO,oO,none⟩) g.ports.length cO) g.ports.length (R'.map (Value.int .i64)))/\Hid ((R'=R/\x=xv/\ykr R ((D:Int)-1) (ls.take i)=false)\/(R'=yri g D R v/\0<=x)))
          case atStart=>exact⟨0,by omega,rfl,hbel,R,xv,by rw[zA hRv];have:=Hgd.out;simp[zG,hRv]at this;rw[this],hown,Lib.hid (.inl ⟨rfl,rfl,by simp[ykr]⟩)⟩
          case round =>
           clear hbel hown
           obtain⟨i,hqi,rfl,hbel,R',x,hx,hown,hdis⟩:=hrel;obtain⟨p0,p1,hbw,hsz⟩:=HB.out _ hbel.out;have hcl:=ygp hbw _ _ hclw;have Hlen':=Lib.hid (show R'.length=g.ports.length by have:=hown.out.1;simpa using this)
           obtain⟨_,_,_,e5,_,_,_,_,hO5⟩:=hown.out.form (by omega)
           cases e5
           have hcv:=hO5 v (.int .i64 x) (by simp[hx])
           have hfv:=hown.out.frozen (oO+v);have Hx:=Lib.hid hx;have HO5:=Lib.hid hO5;have Hbw:=Lib.hid hbw
           clear hx hO5 hbw
           by_cases hil:i<ls.length
           ·obtain⟨A4,c4,e4,_,_,hE⟩:=Hls.out.below Stable.link Hbw.out;cases e4
            obtain⟨b3,off3,rfl,hb3,hE⟩:=hE (by omega)
            obtain⟨⟨l1,wt⟩,hle⟩:∃l,ls[i]=l:=⟨_,rfl⟩;have hl?:ls[i]?=some (l1,wt):=by rw[zA hil,hle]
            obtain⟨hx1,hx2,⟨hr1,hr2⟩,⟨hr3,hr4⟩⟩:=hE i _ hl?;obtain⟨k1,k2,k3,k4,k5⟩:=Hgood.out.link Hlp.out (zC hl?);simp only at k1 k2 k3 k4 k5 hx1 hx2 hr1 hr2 hr3 hr4;obtain⟨u,rfl⟩:=zH k1;have Hl?:=Lib.hid hl?;have Hsn:=Lib.hid (yvv R ((D:Int)-1) ls i hil);rw[hle]at Hsn;have HE:=Lib.hid hE
            clear hE hl? hle k1 k3
            by_cases c2:x<0
            ·have Hin:=Lib.hid (show R'=R/\x=xv/\ykr R ((D:Int)-1) (ls.take i)=false by
              rcases hdis.out with h|h
              ·exact h
              ·omega)
             have hul:u<R'.length:=by rw[Hlen'.out];omega
             obtain⟨y,hy⟩:∃y,R'[u]?=some y:=⟨_,zA hul⟩;have hcu:=HO5.out u (.int .i64 y) (by simp[hy])
             have Hy:=Lib.hid hy
             clear hy
             by_cases c3:y=(D:Int)-1
             ·have c3':(y==(D:Int)-1)=true:=by simp[c3]
              have Hset:=Lib.hid (show yri g D R v=R'.set v D by
               obtain⟨e1,e2,_⟩:=Hin.out;rw[Hst2.out,Hgd.out,if_pos,e1];rw[zI];refine⟨decide_eq_true (by omega),?_⟩
               unfold ykr;rw[List.any_eq_true];refine⟨_,zC Hl?.out,decide_eq_true ?_⟩;simp only[zQ];rw[<-e1,Hy.out,c3])
              clear c3
              go_wp2
              go_roundg (gk-1)
              case measure=>omega
              case rel =>
               refine⟨i+1,by omega,by go_num,Lib.hid (hbel.out.setCell (by simp;omega) _),R'.set v D,D,by rw[zW,if_pos rfl,if_pos (by rw[Hlen'.out];exact hvlt)],Lib.hid ?_,Lib.hid (.inr ⟨Hset.out.symm,by omega⟩)⟩
               rw[<-ytv];exact hown.out.store1 hvlt _
             ·have c3':(y==(D:Int)-1)=false:=by simp[c3]
              have Hno:=Lib.hid (show ykr R ((D:Int)-1) (ls.take (i+1))=false by
               obtain⟨e1,e2,e3⟩:=Hin.out;rw[Hsn.out,e3,Bool.false_or,decide_eq_false_iff_not];simp only[zQ];rw[<-e1,Hy.out]
               simpa using c3)
              clear c3
              go_wp2
              go_roundg (gk-1)
              case measure=>omega
              case rel=>exact⟨i+1,by omega,by go_num,hbel,R',x,Hx.out,hown,Lib.hid (.inl ⟨Hin.out.1,Hin.out.2.1,Hno.out⟩)⟩
            ·have Hend:=Lib.hid (show R'=yri g D R v by
              rcases hdis.out with⟨e1,e2,_⟩|⟨e1,_⟩
              ·rw[Hst2.out,Hgd.out,if_neg,e1];rw[zI];intro h;have:=of_decide_eq_true h.1;omega
              ·exact e1)
             go_wp2
             go_roundg (gv-1)
             case measure=>omega
             case rel=>exact⟨v+1,by omega,by go_num,hbel,Lib.hid (by rw[Hst.out,<-Hend.out];exact hown.out)⟩
           ·obtain rfl:i=ls.length:=by omega
            have Hend:=Lib.hid (show R'=yri g D R v by
             rcases hdis.out with⟨e1,e2,e3⟩|⟨e1,_⟩
             ·rw[zM]at e3;rw[Hst2.out,e3,Bool.and_false,if_neg (by simp),e1]
             ·exact e1)
            go_wp2
            go_roundg (gv-1)
            case measure=>omega
            case rel=>exact⟨v+1,by omega,by go_num,hbel,Lib.hid (by rw[Hst.out,<-Hend.out];exact hown.out)⟩
         ·obtain rfl:v=g.ports.length:=by omega
          go_wp2
          go_roundg (go-1)
          case measure=>omega
          case rel=>exact⟨D+1,by omega,by omega,by go_num,hbel,Lib.hid (by rw[ybgd g a hD1];exact hown.out)⟩
       ·obtain rfl:D=g.ports.length:=by omega
        go_wp2
        go_ret
        refine⟨_,rfl,?_,(HB.out _ hbel.out).2.2.1⟩;rw[Hf.out];exact hown.out.ints (fun x hx=>by have:=(yft Hgood.out ha).bound Hgood.out ha x hx;unfold I64;omega)
   ·have Hf:=Lib.hid (show yux g v=[]from yor (by omega))
    have c3:v<0\/(g.ports.length:Int)-1<v:=by omega
    clear c2
    go_enter Tryz.func84,Tryz.ntmps84
    go_wp2_with fail
    refine(yjt _ g _ (hg0.out.below ((Below.refl _ _).alloc (zB _) _))).mono ?_;rintro e w1 ⟨rfl,hb1⟩;obtain⟨q0,q1⟩:=ybgh hb1;have Hb1:=Lib.hid (ymy hb1)
    clear hb1
    go_wp2_with fail
    refine(In_f _ _ _ _ (by omega)).mono ?_
    rintro e w1' ⟨rfl,rfl⟩
    go_wp2_with fail
    go_ret
    exact⟨_,rfl,by rw[Hf.out];exact SlAt.nil _,Hb1.out⟩
end
section
open Go.RowKit
theorem ysm(dv:Value)(D:List Int)(w:World)(hd:yjz w dv D) :
 Calls Tryz.prog 83 #[dv] w fun e w'=>e = .returned (.int .i64 (yek D))/\w=w':=by
 obtain⟨A,c,rfl,hA1,hA2⟩:=ybo hd;have Hd:=Lib.hid hd
 clear hd
 go_enter Tryz.func83,Tryz.ntmps83
 go_wp2
 go_loopg [3,4] D.length (fun q m t wr=>∃k:Nat,q+k=D.length/\t = .int .i64 k/\wr=w/\m = .int .i64 (ybw (D.take k))/\Hid ((D.take k).all (fun x=>decide (0<=x))=true))
 case atStart=>exact⟨0,by omega,rfl,rfl,by simp[ybw],Lib.hid (by simp)⟩
 case round =>
  obtain⟨k,hq,rfl,rfl,rfl,hall⟩:=hrel
  by_cases hlt:k<D.length
  ·obtain⟨b,off,rfl,hb,hc,hr⟩:=yfn Hd.out hlt
   by_cases c1:D[k]<0
   ·have Hf:=Lib.hid (show yek D = -1 by
     unfold yek;rw[if_neg];rw[zX];intro h;have:=of_decide_eq_true (h _ (zN hlt));omega)
    go_wp2
    go_ret
    exact⟨ysp Hf.out.symm,rfl⟩
   ·have Hs:=Lib.hid (yvp D k hlt)
    have Ha:=Lib.hid (show(D.take (k+1)).all (fun x=>decide (0<=x))=true by
     rw[take_snoc D k hlt,List.all_append,hall.out];simp;omega)
    go_wp2
    all_goals
     go_roundg (gk-1)
     case measure=>omega
     case rel=>exact⟨k+1,by omega,by go_num,rfl,by rw[Hs.out];try (congr 1;omega),Ha⟩
  ·obtain rfl:k=D.length:=by omega
   have Hf:=Lib.hid (show yek D=ybw D by
    have:=hall.out;rw[zM]at this;exact if_pos this)
   go_wp2
   go_ret
   exact⟨ysp (by rw[Hf.out,zM]),rfl⟩
theorem ylm(gv:Value)(g:Gr)(v:Int)(w:World)(hg:GrAt w gv g)(hv64:I64 v) :
 Calls Tryz.prog 28 #[gv,.int .i64 v] w fun e w'=>e = .returned (.int .i64 (eccP g v))/\Below w.heap.size w w':=by
 have hg0:=Lib.hid hg;obtain⟨i,p,rfl,hi,hp⟩:=hg
 clear hi hp
 have Hc:=Lib.hid (ycaf g v)
 go_enter Tryz.func28,Tryz.ntmps28
 go_wp2_with fail
 refine(yrr _ g v _ (hg0.out.below ((Below.refl _ _).alloc (zB _) _)) hv64).mono ?_;rintro e w1 ⟨v,rfl,hv,hb1⟩;have Hv:=Lib.hid hv;have Hb1:=Lib.hid (ymy hb1)
 clear hv hb1
 go_wp2_with fail
 refine(ysm _ _ _ Hv.out).mono ?_;rintro e w2 ⟨rfl,rfl⟩
 go_wp2_with fail
 go_ret
 exact⟨ysp Hc.out,Hb1.out⟩
end
section
open Go
namespace Sh
open Ev Go.RowKit
set_option maxRecDepth 8000
theorem ycgw{g:Gr}(hI:GrI g){v:Int}(hv64:I64 v):Returns Tryz.prog 28 [grV g,.i .i64 v] (.i .i64 (eccP g v)):=by
 refine ybdz ⟨_,_,Tryz.func28,rfl⟩ (fun _=>.i) (fun _=>.simple rfl) fun G m us hG hr φ M w us' hRl hs hv=>?_;obtain⟨u,v',rfl,h1,h2⟩:=rvl2 hr;obtain⟨u',v'',rfl,h3,h4⟩:=ytw hv;cases h2.int_inv
 have e:=h4.eq_simple rfl;subst e;exact ylm u' g v w (ychc hG h1 h3 hRl hs hI) hv64
theorem yboy(nm:ByteArray)(hi pn pi:Int):Returns Tryz.prog 79 [.a (.string nm),.i .i64 hi,.i .i64 pn,.i .i64 pi] (.ag (varC ⟨nm,1,0,hi,pn,pi⟩)):=by
 refine Returns.of (ydla _ _ ?_);simp only[c79,ydkp,ydgj,varC,go_sem,zF,zL,Nat.reduceLeDiff,Nat.reduceLT,↓reduceIte,reduceCtorEq];exact Sim.refl _
end Sh
end
end Go.Proofs.YtiejahgklcjhkaaGreatDoor
