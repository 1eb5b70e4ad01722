/- Joined. -/
import Derived.Test.YthclbjjgfcgbgaaGreatDoorPkCm12
set_option linter.unusedSimpArgs false
set_option linter.unusedVariables false
set_option maxRecDepth 8000
open Go.Lib renaming hid->zA
open List renaming getElem?_eq_getElem->zB,mem_cons_of_mem->zD,getD->zF,mem_cons_self->zG,map_cons->zN,range->zO,getElem_mem->zQ,mem_of_getElem?->zS,getElem_of_mem->zU,getElem?_set_self->zV,getElem_map->zX,length_cons->zY,filter_cons->zZ,getElem?_eq_none->zAA,length_map->zAC,getElem?_set_ne->zAD,getD_eq_getElem?_getD->zAG,sum_cons->zAH,length_pos_of_mem->zAL,mem_of_mem_take->zAM,nodup_append->zAS,getElem?_map->zAT,take_length->zAU,ext_getElem->zAW,not_mem_nil->zAX,replicate->zAY,length->zBD
open Nat renaming reduceEqDiff->zC,reduceAdd->zH,le_refl->zJ,zero_le->zL,reduceLT->zM,shiftRight_eq_div_pow->zAI,pow_lt_pow_right->zAN,lt_of_le_of_lt->zAO,lt_of_lt_of_eq->zAQ,reduceLeDiff->zAV,lt_irrefl->zAZ,mul_add->zBE
open Int renaming toNat_natCast->zI,natCast_zero->zW,emod_lt_of_pos->zAE,eq_ofNat_of_zero_le->zAJ,emod_nonneg->zAK
open Go.Proofs.Tryz renaming prog->zK,func131->zAB,ntmps131->zAF,zeroCells241->zAR,ntmps89->zBB,func89->zBC
open Bool renaming and_eq_true->zT,false_eq_true->zAP
open BitVec renaming ofInt->zBA
open Go
namespace Go.Proofs.YthclbjjgfcgbgaaGreatDoor
section
namespace Sh
open Go Ev Go.RowKit
def GrI(g:Gr):Prop:=(∀x∈g.ids,I64 x)/\∀ls∈g.ports,∀l∈ls,I64 l.1/\I64 l.2
def ycew(c:List (List Int)):Prop:=∀s∈c,∀x∈s,I64 x
section
variable {G:AM}{m:Mem}{φ:Phi}{M:AM}{w:World}{u u':Value}
theorem ycir {α:Type}{z n:Nat}{gg:Nat->List SV}{xs:List α}{E:Elem α}(hG:Le G m.b.get) (hr:RV G om0 (.sl z n gg) u) (hv:VR φ u u') (hR:Rel φ M w) (hs:Sub m M) (hn:xs.length=n)
 (hE:∀k x b o L L',xs[k]?=some x->RVL G om0 (gg k) L->VRL φ L L'->(∀j v,L'[j]?=some v->w.cell? ⟨b,o+j,none⟩=some v)->E w b o x):SlAt z E w u' xs:=by
 rcases hr.sl_inv with⟨rfl,h0⟩|⟨bk,p,cp,T,N,e,zz,L,rfl,g1,g2,g3,g4,g5,g6,g7⟩
 .have:xs=[]:=List.eq_nil_of_length_eq_zero hn;subst this;rcases h0 with rfl|⟨b,o,c,rfl⟩
  .have e:=hv.eq_simple rfl;subst e;exact SlAt.nil w
  .obtain⟨lc,A,c',k1,k2,k3,k4,k5,k6,k7⟩:=hv.slice_inv;subst k3;exact⟨some A,c',rfl,zL _,k6,fun q=>absurd q (by simp)⟩
 .obtain⟨lc,A,c',k1,k2,k3,k4,k5,k6,k7⟩:=hv.slice_inv;subst k3;subst hn;refine⟨some A,c',rfl,k4,k6,fun hpos=>?_⟩;rcases k7 with⟨rfl,_⟩|k7
  .obtain⟨lc',h1,h2⟩:=hR.blk _ _ (hs _ _ (hG _ _ g1));have k1':φ bk=some lc:=k1;rw[k1']at h1;cases h1
   obtain⟨h3,h4,cs,e2,fz2,h0,h5,h6,h7⟩:=h2;refine⟨lc.blk,lc.base+p,rfl,(Array.getElem?_eq_some_iff.1 h5).1,fun k x hx=>?_⟩;have hk:k<xs.length:=(List.getElem?_eq_some_iff.1 hx).1;have hin:=ykc (z:=z) hk;have hcells:∀j v,j<z->(L k)[j]?=some v->∃v',cs[lc.base+(p+k*z+j)]?=some v'/\VR φ v v':=fun j v hj hv=>h7 _ v (by omega) (by rw[g5 k hk j hj];exact hv)
   have hex:∀(l:List Value) (q:Nat),(∀j v,l[j]?=some v->∃v',cs[q+j]?=some v'/\VR φ v v')->∃l',VRL φ l l'/\∀j v,l'[j]?=some v->cs[q+j]?=some v:=by
    intro l
    induction l with
    |nil=>intro q _;exact⟨[],.nil,fun j v h=>by simp at h⟩
    | cons a l ih =>
      intro q h;obtain⟨v',e1,e2⟩:=h 0 a rfl;obtain⟨l',e3,e4⟩:=ih (q+1) (fun j v hv=>by have:=h (j+1) v (by simpa using hv);rw[show q+1+j=q+(j+1)by omega];exact this)
      refine⟨v'::l',.cons e2 e3,fun j v hv=>?_⟩;cases j with
      |zero=>simp at hv;subst hv;exact e1
      |succ j=>have:=e4 j v (by simpa using hv);rw[show q+(j+1)=q+1+j by omega];exact this
   obtain⟨L',r1,r2⟩:=hex (L k) (lc.base+p+k*z) (fun j v hv=>by
    have hj:j<z:=by rw[<-g4 k hk];exact(List.getElem?_eq_some_iff.1 hv).1
    have:=hcells j v hj hv;rw[show lc.base+p+k*z+j=lc.base+(p+k*z+j)by omega]
    exact this)
   exact hE k x _ _ (L k) L' hx (g6 k hk) r1 fun j v hv=>cell_of h5 (by have:=r2 j v hv;exact this)
  .omega
theorem ints_at{l:List Int}(hG:Le G m.b.get)(hr:RV G om0 (ybc l) u)(hv:VR φ u u')(hR:Rel φ M w)(hs:Sub m M)(hI:∀x∈l,I64 x):yth w u' l:=by
 refine ycir hG hr hv hR hs rfl fun k x b o L L' hx hL hL' hc=>?_;have hk:k<l.length:=(List.getElem?_eq_some_iff.1 hx).1;have hxe:l.getD k 0=x:=by simp[zF,hx]
 rw[hxe]at hL;cases hL with
 | cons a b =>
   cases b
   cases a.int_inv
   obtain⟨v',rfl,hvv⟩:=ygi hL';have:=hvv.eq_simple rfl;subst this;exact⟨hc 0 _ rfl,hI x (zS hx)⟩
theorem ycle{ls:List (Int×Int)}(hG:Le G m.b.get)(hr:RV G om0 (ybb ls) u)(hv:VR φ u u')(hR:Rel φ M w)(hs:Sub m M)(hI:∀l∈ls,I64 l.1/\I64 l.2):ycdy w u' ls:=by
 refine ycir hG hr hv hR hs rfl fun k x b o L L' hx hL hL' hc=>?_;have hxe:ls.getD k (0,0)=x:=by simp[zF,hx]
 rw[hxe]at hL;cases hL with
 | cons a b =>
   cases b with
   | cons a2 b2 =>
     cases b2
     cases a.int_inv
     cases a2.int_inv
     obtain⟨v1,v2,rfl,h1,h2⟩:=yzp hL';have:=h1.eq_simple rfl;subst this;have:=h2.eq_simple rfl;subst this;exact⟨hc 0 _ rfl,hc 1 _ rfl,hI x (zS hx)⟩
theorem ycla{ps:List (List (Int×Int))}(hG:Le G m.b.get)(hr:RV G om0 (yu ps) u)(hv:VR φ u u')(hR:Rel φ M w)(hs:Sub m M)(hI:∀ls∈ps,∀l∈ls,I64 l.1/\I64 l.2):ybbc w u' ps:=by
 refine ycir hG hr hv hR hs rfl fun k x b o L L' hx hL hL' hc=>?_;have hxe:ps.getD k []=x:=by simp[zF,hx]
 rw[hxe]at hL;cases hL with
 | cons a b =>
   cases b
   obtain⟨v',rfl,hvv⟩:=ygi hL';exact⟨v',hc 0 _ rfl,ycle hG a hvv hR hs (hI x (zS hx))⟩
theorem yddh{c:List (List Int)}(hG:Le G m.b.get)(hr:RV G om0 (ycz c) u)(hv:VR φ u u')(hR:Rel φ M w)(hs:Sub m M)(hI:ycew c):ycrk w u' c:=by
 refine ycir hG hr hv hR hs rfl fun k x b o L L' hx hL hL' hc=>?_;have hxe:c.getD k []=x:=by simp[zF,hx]
 rw[hxe]at hL;cases hL with
 | cons a b =>
   cases b
   obtain⟨v',rfl,hvv⟩:=ygi hL';exact⟨v',hc 0 _ rfl,ints_at hG a hvv hR hs (hI x (zS hx))⟩
theorem ydqb{g:Gr}(hG:Le G m.b.get)(hr:RV G om0 (grV g) u)(hv:VR φ u u')(hR:Rel φ M w)(hs:Sub m M)(hI:GrI g):GrAt w u' g:=by
 obtain⟨L,rfl,hL⟩:=hr.ag_inv;cases hL with
 | cons a b =>
   cases b with
   | cons a2 b2 =>
     cases b2
     obtain⟨L',rfl,hL'⟩:=hv.agg_inv;obtain⟨v1,v2,rfl,h1,h2⟩:=yzp hL';exact⟨v1,v2,rfl,ints_at hG a h1 hR hs hI.1,ycla hG a2 h2 hR hs hI.2⟩
end
theorem ybyg {g:FuncId}{args:List SV}{r:SV}{v:Value}(hg:∃fn c,Tryz.prog.funcs[g]?=some fn/\fn.body=some c) (hrv:∀F,RV F om0 r v) (hvr:∀φ,VR φ v v)
 (h:∀(G:AM) (m:Mem) (us:List Value),Le G m.b.get->RVL G om0 args us->∀φ M w us',Rel φ M w->Sub m M->VRL φ us us'->Calls zK g us'.toArray w fun e w'=>e = .returned v/\Below w.heap.size w w'):Returns zK g args r:=by
 intro G m us hw hle hr;refine⟨v,enterM m,r,ylx yri hg fun φ M w us' hR hs hv=>(h G m us hle hr φ M w us' hR hs hv).mono ?_,zJ _,Le.refl _,rfl,hrv _⟩;rintro e w' ⟨rfl,hb⟩;exact⟨v,rfl,hvr φ,hb⟩
theorem rvl1{F:AM}{ω:Om}{a:SV}{us:List Value}(h:RVL F ω [a] us):∃u,us=[u]/\RV F ω a u:=by
 cases h with|cons x y=>cases y;exact⟨_,rfl,x⟩
theorem rvl2{F:AM}{ω:Om}{a b:SV}{us:List Value}(h:RVL F ω [a,b] us):∃u v,us=[u,v]/\RV F ω a u/\RV F ω b v:=by
 cases h with|cons x y=>obtain⟨v,rfl,q⟩:=rvl1 y;exact⟨_,v,rfl,x,q⟩
end Sh
end
section
open Go.RowKit
end
section
open Go.RowKit
theorem ybcu:zAR=Array.replicate 256 (.bool false):=by kernel_rfl
def Seen(w:World)(g:Nat)(S:List Int):Prop:=∃cur,w.heap[g]?=some (.cells cur 241 (0,0))/\cur.size=256/\∀i:Nat,i<256->cur[i]?=some (.bool (decide ((i:Int)∈S)))
theorem Seen.cell{w:World}{g:Nat}{S:List Int}(h:Seen w g S){i:Nat}(hi:i<256):w.cell? ⟨g,i,none⟩=some (.bool (decide ((i:Int)∈S))):=by
 obtain⟨cur,h1,h2,h3⟩:=h;simp[World.cell?,h1,h3 i hi]
theorem Seen.frozen{w:World}{g:Nat}{S:List Int}(h:Seen w g S)(i:Nat):w.frozen? ⟨g,i,none⟩=false:=by
 obtain⟨cur,h1,h2,h3⟩:=h;simp[World.frozen?,h1]
theorem Seen.set_{w:World}{g:Nat}{S:List Int}(h:Seen w g S){i:Nat}:Seen (w.setCell ⟨g,i,none⟩ (.bool true)) g (S++[(i:Int)]):=by
 obtain⟨cur,h1,h2,h3⟩:=h;refine⟨cur.setIfInBounds i (.bool true),by simp[World.setCell,Array.getElem?_modify,h1],by simp[h2],fun j hj=>?_⟩
 rw[Array.getElem?_setIfInBounds];split
 .subst_vars
  rw[if_pos (by omega)]
  simp
 .rw[h3 j hj];congr 3;simp;omega
theorem Seen.start(w:World):Seen (w.alloc (.cells zAR 241)) w.heap.size []:=by
 refine⟨_,heap_alloc_new w _,by rw[ybcu];simp,fun i hi=>?_⟩
 rw[ybcu];simp[hi]
def ybhf(ids:List Int):Bool:=decide ((∀x∈ids,0<=x/\x<=255)/\ids.Nodup)
def yur(ids:List Int)(k:Nat):Prop:=(∀x∈ids.take k,0<=x/\x<=255)/\(ids.take k).Nodup
theorem ybwx{ids:List Int}{k:Nat}(hk:k<ids.length):yur ids (k+1)↔yur ids k/\(0<=ids[k]/\ids[k]<=255)/\ids[k]∉ids.take k:=by
 unfold yur;rw[take_snoc ids k hk,zAS];constructor
 .rintro⟨h1,h2,_,h3⟩;exact⟨⟨fun x hx=>h1 x (List.mem_append_left _ hx),h2⟩,h1 _ (List.mem_append_right _ (by simp)),fun hm=>h3 _ hm _ (by simp) rfl⟩
 .rintro⟨⟨h1,h2⟩,h3,h4⟩;refine⟨fun x hx=>?_,h2,by simp,fun a ha b hb e=>?_⟩
  .rcases List.mem_append.1 hx with hx|hx
   .exact h1 x hx
   .simp at hx;subst hx;exact h3
  .simp at hb;subst hb e;exact h4 ha
theorem ybji{ids:List Int}{k:Nat}(h:¬yur ids k):ybhf ids=false:=by
 unfold ybhf;rw[decide_eq_false_iff_not];exact fun hd=>h ⟨fun x hx=>hd.1 x (zAM hx),hd.2.sublist (List.take_sublist _ _)⟩
theorem ybsm{ids:List Int}(h:yur ids ids.length):ybhf ids=true:=by
 unfold yur at h;rw[zAU]at h;exact decide_eq_true h
set_option maxRecDepth 100000 in
set_option maxHeartbeats 1000000 in
theorem yrw(iv:Value)(ids:List Int)(w:World)(hi:yth w iv ids) :
 Calls zK 174 #[iv] w fun e w'=>e = .returned (.bool (ybhf ids))/\Below w.heap.size w w':=by
 obtain⟨A,c,rfl,hA1,hA2⟩:=ycw hi;have Hi:=zA hi
 clear hi
 go_enter Tryz.func174,Tryz.ntmps174
 go_wp2
 go_loopg [8] ids.length (fun q t wr=>∃k:Nat,q+k=ids.length/\t = .int .i64 k/\Hid (Below w.heap.size w wr)/\Hid (Seen wr w.heap.size (ids.take k))/\Hid (yur ids k))
 case atStart=>exact⟨0,by omega,rfl,zA ((Below.refl _ _).alloc (zJ _) _),zA (Seen.start w),zA ⟨by simp,by simp⟩⟩
 case round =>
  obtain⟨k,hq,rfl,hbel,hseen,hok⟩:=hrel
  by_cases hlt:k<ids.length
  .obtain⟨b,off,rfl,hb,hcid,hr⟩:=yuu (Hi.out.below Stable.int hbel.out) hlt;obtain⟨x,hx⟩:∃x,ids[k]=x:=⟨_,rfl⟩;have Hsn:=zA (ybwx hlt);rw[hx]at hcid hr Hsn;obtain⟨hr1,hr2⟩:=hr;have Hbad:=zA (fun h=>ybji (ids:=ids) (k:=k+1) h);have Hts:=zA (take_snoc ids k hlt);rw[hx]at Hts
   clear hx
   by_cases c1:0<=x/\x<=255
   .obtain⟨c1a,c1b⟩:=c1;obtain⟨n,rfl⟩:=zAJ c1a;have hcs:=hseen.out.cell (i:=n) (by omega)
    have hfs:=hseen.out.frozen n
    by_cases c2:(n:Int)∈ids.take k
    .rw[decide_eq_true c2]at hcs;have Hf:=zA (Hbad.out (fun h=>(Hsn.out.1 h).2.2 c2))
     clear c2
     go_wp2
     go_ret
     exact⟨yca Hf.out.symm,hbel.out⟩
    .rw[decide_eq_false c2]at hcs;have Hn:=zA (Hsn.out.2 ⟨hok.out,⟨by omega,by omega⟩,c2⟩)
     clear c2
     go_wp2
     go_roundg (gk-1)
     case measure=>omega
     case rel =>
      refine⟨k+1,by omega,by go_num,zA (hbel.out.setCell (zJ _) _),zA ?_,Hn⟩
      rw[Hts.out];exact hseen.out.set_
   .have Hf:=zA (Hbad.out (fun h=>c1 (Hsn.out.1 h).2.1))
    by_cases c3:x<0
    .clear c1
     go_wp2
     go_ret
     exact⟨yca Hf.out.symm,hbel.out⟩
    .have c4:255<x:=by omega
     clear c1
     go_wp2
     go_ret
     exact⟨yca Hf.out.symm,hbel.out⟩
  .obtain rfl:k=ids.length:=by omega
   have Ht:=zA (ybsm hok.out)
   go_wp2
   go_ret
   exact⟨yca Ht.out.symm,hbel.out⟩
theorem ycaz(g:Gr)(h1:1<=g.ids.length)(h2:g.ids.length<=24)(h3:g.ports.length=g.ids.length):yfv g=(ybhf g.ids&&symB g.ports):=by
 unfold yfv ybhf symB;rw[<-Bool.decide_and];congr 1;apply propext;unfold ybg ycko;constructor
 .rintro⟨_,_,_,h4,h5,h6,h7⟩;exact⟨⟨h4,h5⟩,h6,h7⟩
 .rintro⟨⟨h4,h5⟩,h6,h7⟩;exact⟨by omega,by omega,by omega,h4,h5,h6,h7⟩
set_option maxHeartbeats 1000000 in
theorem yceh(gv:Value)(g:Gr)(w:World)(hg:GrAt w gv g) :
 Calls zK 131 #[gv] w fun e w'=>e = .returned (.bool (yfv g))/\Below w.heap.size w w':=by
 obtain⟨i,p,rfl,hi,hp⟩:=hg;obtain⟨A,c,rfl,hA1,hA2⟩:=ycw hi;obtain⟨A2,c2,rfl,hB1,hB2⟩:=ycw hp;have Hi:=zA hi;have Hp:=zA hp
 clear hi hp
 by_cases n1:1<=g.ids.length
 .by_cases n2:g.ids.length<=24
  .by_cases n3:g.ports.length=g.ids.length
   .have n3':((g.ports.length:Int)!=(g.ids.length:Int))=false:=by simp[n3]
    have He:=zA (ycaz g n1 n2 n3);have n3a:g.ports.length<=24:=by omega
    clear n3
    go_enter zAB,zAF
    go_wp2_with fail
    refine(yrw _ g.ids _ (Hi.out.below Stable.int ((Below.refl _ _).alloc (zJ _) _))).mono ?_;rintro e w1 ⟨rfl,hb1⟩;have Hb1:=zA (ydmj hb1);obtain⟨q0,q1⟩:=yebi hb1
    clear hb1
    cases hd:ybhf g.ids with
    | false =>
      have Hv:=zA (show yfv g=false by rw[He.out,hd];rfl)
      go_wp2_with fail
      go_ret
      exact⟨yca Hv.out.symm,Hb1.out⟩
    | true =>
      have Hv:=zA (show yfv g=symB g.ports by rw[He.out,hd];rfl)
      go_wp2_with fail
      refine(yon _ g.ports _ (Hp.out.below (Stable.sl Stable.link) Hb1.out) (by omega)).mono ?_
      rintro e w2 ⟨rfl,hb2⟩
      go_wp2_with fail
      go_ret
      exact⟨yca Hv.out.symm,Hb1.out.trans (hb2.mono Hb1.out.size)⟩
   .have n3':((g.ports.length:Int)!=(g.ids.length:Int))=true:=by simp;omega
    have Hf:=zA (yir (g:=g) (fun h=>n3 h.2.2.symm))
    clear n3
    go_enter zAB,zAF
    go_wp2
    go_ret
    exact⟨yca Hf.out.symm,(Below.refl _ _).alloc (zJ _) _⟩
  .have Hf:=zA (yir (g:=g) (fun h=>n2 (by omega)))
   go_enter zAB,zAF
   go_wp2
   go_ret
   exact⟨yca Hf.out.symm,(Below.refl _ _).alloc (zJ _) _⟩
 .have Hf:=zA (yir (g:=g) (fun h=>n1 (by omega)))
  go_enter zAB,zAF
  go_wp2
  go_ret
  exact⟨yca Hf.out.symm,(Below.refl _ _).alloc (zJ _) _⟩
end
section
namespace Sh
open Go Ev Go.RowKit
theorem yhi{x:Int}(h:-4611686018427387904<=x/\x<=4611686018427387904):I64 x:=by
 unfold I64;omega
theorem ydcu{g:Gr}(hg:ybg g):GrI g:=by
 obtain⟨h1,h2,h3,h4,h5,h6,h7⟩:=hg;refine⟨fun x hx=>yhi (by have:=h4 x hx;omega),fun ls hls l hl=>?_⟩
 obtain⟨v,hv,rfl⟩:=zU hls;obtain⟨a1,a2,a3,a4,a5⟩:=(h6 ⟨v,hv⟩).1 l hl;exact⟨yhi (by omega),yhi (by omega)⟩
theorem yoy{g:Gr}(hI:GrI g):Returns zK 131 [grV g] (.b (yfv g)):=by
 refine ybyg ⟨_,_,zAB,rfl⟩ (fun _=>.b) (fun _=>.simple rfl) fun G m us hG hr φ M w us' hR hs hv=>?_;obtain⟨u,rfl,h1⟩:=rvl1 hr;obtain⟨u',rfl,h2⟩:=ygi hv;exact yceh u' g w (ydqb hG h1 h2 hR hs hI)
end Sh
end
section
namespace Sh
open Go Ev Go.RowKit
theorem ycbq{g:Gr}(hg:ybg g){x:VarR}(hx:x.ok=true)(v:Nat):-4096<=(ybm g v x).1/\(ybm g v x).2<=100000:=by
 obtain⟨h1,h2,h3,h4,h5⟩:=ybrl hx;obtain⟨h6,h7⟩:=ytb hg hx;have h8:=hg.deg_lt (v:=v);unfold ybm;split
 .exact⟨by simp only[];omega,by simp only[];omega⟩
 .split
  .exact⟨by simp only[];omega,by simp only[];omega⟩
  .split
   .exact⟨by simp only[];omega,by simp only[];omega⟩
   .exact⟨by simp only[];omega,by simp only[];omega⟩
theorem ybmf{p:ProgT}{g:Gr}(hg:ybg g)(hp:p.ok=true){c:Conf}(hc:yfs p g c=true):ConfIn g.ports.length p.vars.length c:=by
 have h:=(yft _ _ _).1 hc;have hp':=hp;unfold ProgT.ok at hp';simp only[zT,decide_eq_true_eq]at hp';refine⟨h.1.trans hg.2.2.1,fun s hs=>?_⟩;obtain⟨v,hv,rfl⟩:=zU hs;have h2:=h.2 v _ (zB hv);have hl:(c[v]).length=p.vars.length:=by have:=h2.1;simpa using this
 refine⟨hl,fun x hx=>?_⟩;obtain⟨i,hi,rfl⟩:=zU hx;have hi':i<p.vars.length:=by omega
 have h3:=h2.2 i (ybm g v p.vars[i]) _ (by simp[hi']) (zB hi)
 have h4:=ycbq hg (List.all_eq_true.1 hp'.1.1.2 _ (zQ hi')) v;unfold InB;omega
structure Checked(Q1 Q2:(Nat->Option ABlk)->Value->Prop)(p:ProgT)(g:Gr):Prop where
 hg:ybg g
 hp:p.ok=true
 hf:ybgc p g=true
 hV:Returns zK 130 [.ag (yfj Q1 Q2 p.raw)] (.b true)
theorem Checked.gv{Q1 Q2:(Nat->Option ABlk)->Value->Prop}{p:ProgT}{g:Gr}(h:Checked Q1 Q2 p g):Returns zK 131 [grV g] (.b true):=by
 have e:=yoy (ydcu h.hg);rw[(yff g).2 h.hg]at e;exact e
section
variable {Q1 Q2:(Nat->Option ABlk)->Value->Prop}{p:ProgT}{g:Gr}
theorem ybqv(k:Int):Returns zK 57 [.i .i64 k] (.b (decide (1<=k)&&decide (k<=4))):=by
 refine Returns.of (ydkz _ _ ?_);simp only[c57,ydvw,ydup,yvd,go_sem,zC,zH,↓reduceIte,reduceCtorEq]
 by_cases h:k>=1<;>simp[h]
end
end Sh
end
section
theorem yom(s a:Nat):∀b,yfk s (a+b)=yfk s a+yfk (s>>>a) b
 |0=>rfl
 | b+1=>by
   show yfk s (a+b)+(s.testBit (a+b)).toNat=_;rw[yom s a b];show _=yfk s a+(yfk (s>>>a) b+((s>>>a).testBit b).toNat);rw[Nat.testBit_shiftRight];omega
theorem ypl(s:Nat):∀b,b<=8->yfk (s&&&255) b=yfk s b
 |0,_=>rfl
 | b+1,h=>by
   show yfk _ b+_=yfk s b+_;rw[ypl s b (by omega),Nat.testBit_and,show(255:Nat)=2^8-1 from rfl,Nat.testBit_two_pow_sub_one]
   simp[show b<8 by omega]
theorem ybru(s:Nat):popP s=yfk (s>>>24&&&255) 8+yfk (s>>>16&&&255) 8+yfk (s>>>8&&&255) 8+yfk (s&&&255) 8:=by
 simp only[ypl _ 8 (zJ _)];have h1:=yom s 8 24;have h2:=yom (s>>>8) 8 16;have h3:=yom (s>>>8>>>8) 8 8;simp only[<-Nat.shiftRight_add,zH]at h1 h2 h3;unfold popP;omega
namespace Sh
open Ev Go.RowKit
theorem ybab:∀k,k<256->yxt.getD k 0=yfk k 8:=by decide
theorem ydif:yxt.length=256:=by decide
theorem ybzc(a v:Nat):(a:Int).fdiv (2^v)=((a>>>v:Nat):Int):=by
 have h:=ydbq (a:=a) (v:=v)
 rwa [zI]at h
theorem ydau{a:Nat}(ha:a<2^32):IntKind.wrap .u32 (((zBA (IntKind.bits .u32) (a:Int))&&&zBA (IntKind.bits .u32) 255).toNat:Int)=((a&&&255:Nat):Int):=u32_and (b:=255) ha (by decide)
theorem ydwz{a n:Nat}(h:a<2^32):a>>>n<2^32:=by rw[zAI];exact zAO (Nat.div_le_self _ _) h
theorem ybmn{s:Nat}(hs:s<2^32):Returns zK 113 [.i .u32 s] (.i .i64 (popP s)):=by
 refine Returns.of (ydid _ _ ?_);simp only[c113,ycxt,ycou,clash,go_sem,Int.reduceToNat,zC,zH,↓reduceIte,reduceCtorEq];have f1:=ydau hs;have f2:=fun n=>ydau (ydwz (n:=n) hs);simp only[IntKind.bits]at f1 f2;simp only[ybzc,f1,f2,zI,ydif];have hp:=ybru s;have l1:s>>>24<256:=by rw[zAI];omega
 have b1:∀x:Nat,x&&&255<256:=fun x=>zAO Nat.and_le_right (by omega)
 rw[ypl (s>>>24) 8 (zJ _)]at hp;rw[ybab _ l1,ybab _ (b1 (s>>>16)),ybab _ (b1 (s>>>8)),ybab _ (b1 s)];have q1:=ylk (s>>>24) 8;have q2:=ylk (s>>>16&&&255) 8;have q3:=ylk (s>>>8&&&255) 8;have q4:=ylk (s&&&255) 8;have w1:=b1 (s>>>16);have w2:=b1 (s>>>8);have w3:=b1 s;have u8k:∀x:Int,0<=x->x<=255->inK .u8 x:=fun x h1 h2=>⟨by simpa[IntKind.min,IntKind.signed]using h1,by simpa[IntKind.max,IntKind.bits,IntKind.signed]using h2⟩
 refine⟨⟨by omega,by decide⟩,⟨by omega,by omega⟩,⟨by omega,by decide⟩,by omega,u8k _ (by omega) (by omega),⟨by omega,by decide⟩,by omega,u8k _ (by omega) (by omega),by omega,u8k _ (by omega) (by omega),?_⟩
 rw[wrap_in (ikw (by omega) (by omega)),hp]
 exact Sim.refl _
def cntV(k:Cnt):List SV:=[.i .i64 k.steps,.i .i64 k.moves,.i .i64 k.rounds,.i .i64 k.begun,.i .u32 k.pend]
def usV(l:List Nat):SV:=.sl 1 l.length (fun k=>[.i .u32 ((l.getD k 0:Nat):Int)])
end Sh
end
section
def netP(ls:List (Int×Int)):Nat:=ls.foldl (fun a l=>a|||2^l.1.toNat) 0
theorem ycdn(ls:List (Int×Int))(k:Nat)(h:k<ls.length):netP (ls.take (k+1))=netP (ls.take k)|||2^(ls.getD k (0,0)).1.toNat:=by
 unfold netP;rw[List.take_succ_eq_append_getElem h,List.foldl_append,Sh.getD_at h];rfl
theorem ydiw(ls:List (Int×Int))(h:∀l∈ls,l.1<24):netP ls<2^24:=by
 unfold netP
 have:∀(ls:List (Int×Int)) (a:Nat),(∀l∈ls,l.1<24)->a<2^24->ls.foldl (fun a l=>a|||2^l.1.toNat) a<2^24:=by
  intro ls
  induction ls with
  |nil=>intro a _ h;exact h
  | cons l ls ih =>
    intro a hl ha;refine ih _ (fun x hx=>hl x (zD _ hx)) (Nat.or_lt_two_pow ha ?_);have:=hl l zG;exact zAN (by omega) (by omega)
 exact this ls 0 h (by decide)
namespace Sh
open Ev Go.RowKit
theorem ybqc{g:Gr}(hg:ybg g):Returns zK 124 [grV g] (usV (g.ports.map netP)):=by
 refine Returns.of (ydjr _ _ ?_);have h3:=hg.2.2.1;have h4:=hg.2.1;simp only[c124,ycxn,yctn,ycxh,grV,ybc,yu,go_sem,zC,zH,zM,↓reduceIte,reduceCtorEq];refine⟨by omega,?_⟩
 obtain⟨n,hn⟩:∃n,g.ports.length=n:=⟨_,rfl⟩
 let val:Nat->Nat->Nat:=fun k i=>if i<k then netP (g.ports.getD i [])else 0
 refine ybf (σ:=Nat) (fun k=>⟨[(15,.i .i64 k),(14,.i .i64 n),(13,yu g.ports),(3,.os (11,0) 0 n true)],
  [(11,.one (some ⟨77,false,1,n,fun i=>[.i .u32 (val k i:Nat)]⟩))]⟩) (fun k=>k<=n) (fun k=>n-k) 0 (zL _) ?_ ?_
 .refine yh [] [] [] ?_;simp only[yu,hn,allQ,live,yc,yx,zW,go_sem,zC,zM,↓reduceIte,reduceCtorEq];simp[val]
 .intro k hk;obtain⟨L,hL⟩:∃L,g.ports.getD k []=L:=⟨_,rfl⟩;simp only[ycnp,yctx,yctc,yu,ybb,hn,hL,go_sem,zC,zH,↓reduceIte,reduceCtorEq];refine⟨fun hlt=>?_,fun hlt=>?_⟩
  .have hk':k<n:=by omega
   have hkp:k<g.ports.length:=by omega
   have hlk:∀l∈L,0<=l.1/\l.1<24:=fun l hl=>by
    rw[<-hL,getD_at hkp]at hl;obtain⟨a1,a2,_⟩:=(hg.2.2.2.2.2.1 ⟨k,hkp⟩).1 l hl;exact⟨a1,by omega⟩
   have hdeg:=hg.deg_lt (v:=k);rw[hL]at hdeg;refine⟨by omega,?_⟩
   obtain⟨m,hm⟩:∃m,L.length=m:=⟨_,rfl⟩;rw[hm]
   let val2:Nat->Nat->Nat:=fun j i=>if i<k then netP (g.ports.getD i [])else if i=k then netP (L.take j)else 0
   refine ybf (σ:=Nat) (fun j=>⟨[(22,.i .i64 j),(21,.i .i64 m),(20,ybb L),(4,.i .i64 k),(15,.i .i64 k),(14,.i .i64 n),(13,yu g.ports),(3,.os (11,0) 0 n true)],
    [(11,.one (some ⟨77,false,1,n,fun i=>[.i .u32 (val2 j i:Nat)]⟩))]⟩) (fun j=>j<=m) (fun j=>m-j) 0 (zL _) ?_ ?_
   .refine yh [] [] [] ?_;simp only[yu,ybb,hn,hm,allQ,live,yc,yx,zW,go_sem,zC,zM,↓reduceIte,reduceCtorEq];intro i hi;simp only[val,val2]
    by_cases q:i<k
    .rw[if_pos q,if_pos q]
    .rw[if_neg q,if_neg q]
     by_cases q2:i=k
     .rw[if_pos q2];rfl
     .rw[if_neg q2]
   .intro j hj;obtain⟨l,hl⟩:∃l,L.getD j (0,0)=l:=⟨_,rfl⟩;simp only[ycse,ycym,yu,ybb,hn,hm,hl,go_sem,zC,zH,zM,↓reduceIte,reduceCtorEq];refine⟨fun hlj=>⟨by omega,?_⟩,fun hlj=>?_⟩
    .have hj':j<L.length:=by omega
     have hl2:=hlk l (by rw[<-hl,getD_at hj'];exact zQ _)
     obtain⟨t,ht⟩:∃t:Nat,l.1=t:=⟨l.1.toNat,by omega⟩
     have h24t:t<24:=by omega
     have hval:val2 j k<2^24:=by
      simp only[val2,if_neg (zAZ k),if_true];exact ydiw _ fun l hl=>(hlk l (zAM hl)).2
     have hp:2^t<2^24:=zAN (by omega) h24t
     have hsh:=ybnd (v:=t) (by omega)
     have hor:=u32_or (a:=val2 j k) (b:=2^t) (by omega) (by omega)
     rw[zI]at hsh;simp only[IntKind.bits]at hor;simp only[ycyh,ht,clash,hsh,hor,go_sem,zC,zH,zAV,↓reduceIte,reduceCtorEq];refine⟨by omega,by omega,⟨by omega,by show _<((32:Nat):Int);omega⟩,by omega,by omega,by decide,?_⟩
     simp only[ycoa,go_sem,zC,zH,↓reduceIte,reduceCtorEq];refine⟨ikw (by omega) (by omega),?_⟩
     refine yj (j+1) (by omega) (by omega) ?_
     refine yh [] [] [] ?_;simp only[allQ,live,yc,yx,go_sem,zC,zM,↓reduceIte,reduceCtorEq];refine⟨by omega,fun i hi=>?_⟩
     have hsn:=ycdn L j hj';rw[hl,ht,zI]at hsn
     by_cases q:i=k
     .simp only[if_pos q];subst q;simp only[go_sem,live,yx,go_sem,reduceCtorEq];simp only[val2,if_neg (zAZ i),if_true,hsn]
     .simp only[if_neg q];simp only[go_sem,live,yx,go_sem,reduceCtorEq];simp only[val2,if_neg q]
    .obtain rfl:j=m:=by omega
     simp only[ycac,go_sem,zC,zH,↓reduceIte,reduceCtorEq];refine⟨ikw (by omega) (by omega),?_⟩
     refine yj (k+1) (by omega) (by omega) ?_
     refine yh [] [] [] ?_;simp only[allQ,live,yc,yx,go_sem,zC,zM,↓reduceIte,reduceCtorEq];refine⟨by omega,fun i hi=>?_⟩
     simp only[val,val2]
     by_cases q:i<k
     .rw[if_pos q,if_pos (by omega)]
     .rw[if_neg q]
      by_cases q2:i=k
      .rw[if_pos q2,if_pos (by omega),q2,hL,<-hm,zAU]
      .rw[if_neg q2,if_neg (by omega)]
  .obtain rfl:k=n:=by omega
   simp only[ybwd,go_sem,zC,zH,↓reduceIte,reduceCtorEq];unfold usV;rw[zAC,hn];refine ybce fun i hi=>?_;have hi':i<g.ports.length:=by omega
   simp only[val,if_pos hi];simp[zF,hi']
end Sh
end
section
namespace Sh
open Go Ev
def ydsp:LO:=[o3 (.mv (ci' 0)) 4 0]
def ydrh:LO:=[mv' 1 5 0,o3 (.bin .lss (.tmp 5) (ci' 1)) 6 1]
def ydud:LO:=[o3 (.mv (ci' 0)) 4 0]
def ydpt:LO:=[mv' 0 7 0,mv' 1 8 0,bn' .rem 7 8 9 3,mv' 9 0 7]
def ydlu:LO:=[mv' 0 10 0,o3 (.bin .lss (.tmp 10) (ci' 0)) 11 1]
def ydpb:LO:=[mv' 0 12 0,mv' 1 13 0,bn' .add 12 13 14 3,mv' 14 0 7]
def ydqy:LO:=[mv' 0 15 0,mv' 15 4 1]
def c49:SC:=(.seq (.reg false ydsp) (.seq (.seq (.reg false ydrh) (.cond (.tmp 6) (.seq (.reg false ydud) .ret) .skip)) (.seq (.reg false ydpt) (.seq (.seq (.reg false ydlu) (.cond (.tmp 11) (.reg false ydpb) .skip)) (.seq (.reg false ydqy) .ret)))))
theorem ydsn:Fn 49 c49 [.t 4]:=fn_0 Tryz.func49 (by kernel_rfl) (by kernel_rfl)
def ydlx:LO:=[o3 (.mv (ci' 0)) 4 0]
def ydwu:LO:=[mv' 1 5 0,mv' 0 6 0,ln' 6 7 2,bn' .lss 5 7 8 7]
def ydvh:LO:=[mv' 0 9 0,mv' 1 10 0,ix' 1 9 10 11 3,ld' false 1 11 12 7,mv' 12 4 15]
def ydse:LO:=[o3 (.mv (ci' 0)) 4 0]
def c50:SC:=(.seq (.reg false ydlx) (.seq (.seq (.reg false ydwu) (.cond (.tmp 8) (.seq (.reg false ydvh) .ret) .skip)) (.seq (.reg false ydse) .ret)))
theorem ydyz:Fn 50 c50 [.t 4]:=fn_0 Tryz.func50 (by kernel_rfl) (by kernel_rfl)
def ycqr:LO:=[o3 (.box 27 (.tmp 0)) 3 0,o3 (.mv (.const (.bool false))) 6 0]
def ycxy:LO:=[o3 (.mv (ci' 0)) 7 0]
def ycte:LO:=[mv' 7 8 0,fa' 1 1 3 9 0,ld' false 1 9 10 2,mv' 1 11 0,ix' 1 10 11 12 14,ld' false 1 12 13 30,ln' 13 14 62,bn' .lss 8 14 15 127]
def ycok:LO:=[fa' 1 1 3 18 0,ld' false 1 18 19 1,mv' 1 20 0,ix' 1 19 20 21 7,ld' false 1 21 22 15,mv' 7 23 0,ix' 2 22 23 24 63,fa' 0 1 24 25 127,ld' false 1 25 26 255,mv' 2 27 0,bn' .eql 26 27 28 1023]
def ycxm:LO:=[o3 (.mv (.const (.bool true))) 6 0]
def ycna:LO:=[mv' 7 16 0,o3 (.bin .add (.tmp 16) (ci' 1)) 17 1,mv' 17 7 3]
def yctj:LO:=[o3 (.mv (.const (.bool false))) 6 0]
def c116:SC:=(.seq (.reg false ycqr) (.seq (.seq (.reg false ycxy) (.block 0 (.loop (.seq (.seq (.reg false ycte) (.cond (.tmp 15) .skip (.exit 0))) (.seq (.block 1 (.seq (.reg false ycok) (.cond (.tmp 28) (.seq (.reg false ycxm) .ret) .skip))) (.reg false ycna)))))) (.seq (.reg false yctj) .ret)))
theorem ydgn:Fn 116 c116 [.t 6]:=fn_0 Tryz.func116 (by kernel_rfl) (by kernel_rfl)
def ydeq:LO:=[o3 (.box 24 (.tmp 0)) 5 0,o3 (.box 27 (.tmp 1)) 6 0]
def ydeu:LO:=[mv' 2 12 0,mv' 3 13 0,bn' .eql 12 13 14 3,mv' 14 15 7,⟨.load true 2 (.tmp 6),some 16,some (15,false),15⟩,⟨.mv (.tmp 2),some 17,some (15,false),15⟩,⟨.mv (.tmp 3),some 18,some (15,false),15⟩,⟨.call (.func 116) [(.tmp 16),(.tmp 17),(.tmp 18)],some 19,some (15,false),127⟩,o3 (.pick (.tmp 15) (.const (.bool true)) (.tmp 19)) 20 255]
def ybpe:LO:=[mv' 3 21 0,mv' 4 22 0,o3 (.build [.i .i64 0,.i .i64 0] [(0,1,(.tmp 21)),(1,1,(.tmp 22))]) 23 3,mv' 2 24 0,mv' 4 25 0,o3 (.build [.i .i64 0,.i .i64 0] [(0,1,(.tmp 24)),(1,1,(.tmp 25))]) 26 24,o3 (.alloc 68 1 [.i .i64 0,.i .i64 0]) 10 0,o3 (.alloc 68 1 [.i .i64 0,.i .i64 0]) 11 0,o0 (.store 2 (.tmp 10) (.tmp 23)) 199,o0 (.store 2 (.tmp 11) (.tmp 26)) 511]
def ybrr:LO:=[fa' 5 1 5 27 0,ld' false 1 27 28 1]
def yccz:LO:=[fa' 1 1 6 29 0,ld' false 1 29 30 1,mv' 2 31 0,ld' true 2 10 32 0,o3 (.bslice 68 2 1 [.i .i64 0,.i .i64 0] [(0,2,(.tmp 32))]) 33 8,fa' 1 1 6 34 0,ld' false 1 34 35 32,mv' 2 36 0,ix' 1 35 36 37 224,ld' false 1 37 38 480,o3 (.app 68 2 16 (.tmp 33) (.tmp 38)) 39 1016,ix' 1 30 31 40 2047,o0 (.store 1 (.tmp 40) (.tmp 39)) 4095]
def ycdo:LO:=[fa' 1 1 6 41 0,ld' false 1 41 42 1,mv' 3 43 0,ld' true 2 11 44 0,o3 (.bslice 68 2 1 [.i .i64 0,.i .i64 0] [(0,2,(.tmp 44))]) 45 8,fa' 1 1 6 46 0,ld' false 1 46 47 32,mv' 3 48 0,ix' 1 47 48 49 224,ld' false 1 49 50 480,o3 (.app 68 2 16 (.tmp 45) (.tmp 50)) 51 1016,ix' 1 42 43 52 2047,o0 (.store 1 (.tmp 52) (.tmp 51)) 4095]
def ydso:LO:=[fa' 1 1 6 53 0,ld' false 1 53 54 1,mv' 2 55 0,fa' 1 1 6 56 0,ld' false 1 56 57 8,mv' 3 58 0,fa' 1 1 6 59 0,ld' false 1 59 60 64,mv' 2 61 0,ix' 1 60 61 62 448,ld' false 1 62 63 960,ld' true 2 10 64 0,o3 (.bslice 68 2 1 [.i .i64 0,.i .i64 0] [(0,2,(.tmp 64))]) 65 2048,o3 (.app 68 2 16 (.tmp 63) (.tmp 65)) 66 8128,fa' 1 1 6 67 0,ld' false 1 67 68 16384,mv' 3 69 0,ix' 1 68 69 70 114688,ld' false 1 70 71 245760,ld' true 2 11 72 0,o3 (.bslice 68 2 1 [.i .i64 0,.i .i64 0] [(0,2,(.tmp 72))]) 73 524288,o3 (.app 68 2 16 (.tmp 71) (.tmp 73)) 74 2097088,ix' 1 54 55 75 4194247,o0 (.store 1 (.tmp 75) (.tmp 66)) 8388551,ix' 1 57 58 76 16777215,o0 (.store 1 (.tmp 76) (.tmp 74)) 33554431]
def c48:SC:=(.seq (.reg false ydeq) (.seq (.seq (.reg false ydeu) (.cond (.tmp 20) .ret .skip)) (.seq (.reg false ybpe) (.seq (.seq (.reg false ybrr) (.cond (.tmp 28) (.seq (.reg true yccz) (.seq (.reg true ycdo) .ret)) .skip)) (.reg true ydso)))))
theorem yddk:FnM 48 c48 []:=fn_m Tryz.func48 (by kernel_rfl) (by kernel_rfl)
def ydst:LO:=[o3 (.box 24 (.tmp 0)) 2 0,o3 (.alloc 27 1 [.a (.slice none 0 0),.a (.slice none 0 0)]) 4 0]
def ydqo:LO:=[fa' 0 1 2 10 0,ld' false 1 10 11 1,o3 (.wsub (.tmp 11) (ci' 1)) 12 3,mv' 1 13 0,cl' 49 [12,13] 14 15,o3 (.bin .add (ci' 1) (.tmp 14)) 15 31,mv' 15 5 63]
def ydyg:LO:=[mv' 5 16 0,o3 (.mk 135 1 24 [.a (.slice none 0 0)] (.tmp 16) (.tmp 16)) 17 1,o3 (.build [.a (.slice none 0 0),.a (.slice none 0 0)] [(1,1,(.tmp 17))]) 18 3,o3 (.alloc 27 1 [.a (.slice none 0 0),.a (.slice none 0 0)]) 6 0,o0 (.store 2 (.tmp 6) (.tmp 18)) 15]
def ydpi:LO:=[o3 (.mv (ci' 0)) 7 0]
def ydtj:LO:=[mv' 7 19 0,mv' 5 20 0,bn' .lss 19 20 21 3]
def ydor:LO:=[fa' 3 1 2 24 0,ld' false 1 24 25 1,mv' 7 26 0,cl' 50 [25,26] 27 7,o3 (.call (.func 49) [(.tmp 27),(ci' 256)]) 28 15,mv' 28 8 31]
def ydyj:LO:=[o3 (.mv (ci' 0)) 9 0]
def ydkv:LO:=[mv' 9 29 0,mv' 7 30 0,bn' .lss 29 30 31 3]
def ycnl:LO:=[fa' 0 1 6 34 0,ld' false 1 34 35 1,mv' 9 36 0,ix' 1 35 36 37 7,ld' false 1 37 38 15,mv' 8 39 0,bn' .eql 38 39 40 63]
def ycso:LO:=[mv' 8 41 0,o3 (.bin .add (.tmp 41) (ci' 1)) 42 1,o3 (.bin .rem (.tmp 42) (ci' 256)) 43 3,mv' 43 8 7,o3 (.mv (.const (.int .i64 (-1)))) 9 15]
def ydxz:LO:=[mv' 9 32 0,o3 (.bin .add (.tmp 32) (ci' 1)) 33 1,mv' 33 9 3]
def ycwn:LO:=[fa' 0 1 6 44 0,ld' false 1 44 45 1,mv' 8 46 0,o3 (.bslice 3 1 1 [.i .i64 0] [(0,1,(.tmp 46))]) 47 4,o3 (.app 3 1 8 (.tmp 45) (.tmp 47)) 48 15,fa' 0 1 6 49 31,o0 (.store 1 (.tmp 49) (.tmp 48)) 63]
def ydyu:LO:=[mv' 7 22 0,o3 (.bin .add (.tmp 22) (ci' 1)) 23 1,mv' 23 7 3]
def ycwh:LO:=[ld' true 2 6 50 0,o0 (.store 2 (.tmp 4) (.tmp 50)) 1]
def c47:SC:=(.seq (.reg false ydst) (.seq (.reg false ydqo) (.seq (.reg false ydyg) (.seq (.seq (.reg false ydpi) (.block 0 (.loop (.seq (.seq (.reg false ydtj) (.cond (.tmp 21) .skip (.exit 0))) (.seq (.block 1 (.seq (.reg false ydor) (.seq (.seq (.reg false ydyj) (.block 2 (.loop (.seq (.seq (.reg false ydkv) (.cond (.tmp 31) .skip (.exit 2))) (.seq (.block 3 (.seq (.reg false ycnl) (.cond (.tmp 40) (.reg false ycso) .skip))) (.reg false ydxz)))))) (.reg false ycwn)))) (.reg false ydyu)))))) (.seq (.reg false ycwh) .ret)))))
theorem ydjg:FnM 47 c47 [.c 4 true 2]:=fn_m Tryz.func47 (by kernel_rfl) (by kernel_rfl)
def ydql:LO:=[o3 (.box 24 (.tmp 0)) 2 0,o3 (.alloc 27 1 [.a (.slice none 0 0),.a (.slice none 0 0)]) 4 0]
def ydsf:LO:=[ld' true 6 2 7 0,mv' 1 8 0,cl' 47 [7,8] 9 3,o3 (.alloc 27 1 [.a (.slice none 0 0),.a (.slice none 0 0)]) 5 0,o0 (.store 2 (.tmp 5) (.tmp 9)) 15]
def ydwh:LO:=[o3 (.mv (ci' 1)) 6 0]
def ydka:LO:=[mv' 6 10 0,fa' 1 1 5 11 0,ld' false 1 11 12 2,ln' 12 13 6,bn' .lss 10 13 14 15]
def ydxx:LO:=[ld' true 6 2 17 0,ld' true 2 5 18 0,fa' 1 1 2 19 0,ld' false 1 19 20 4,mv' 6 21 0,o3 (.bin .sub (.tmp 21) (ci' 1)) 22 16,cl' 50 [20,22] 23 60,mv' 6 24 0,cl' 49 [23,24] 25 252,mv' 6 26 0,fa' 2 1 2 27 0,ld' false 1 27 28 1024,mv' 6 29 0,o3 (.bin .sub (.tmp 29) (ci' 1)) 30 4096,cl' 50 [28,30] 31 15868,o3 (.call (.func 49) [(.tmp 31),(ci' 15)]) 32 32252,o3 (.bin .add (ci' 1) (.tmp 32)) 33 65020,cl' 48 [17,18,25,26,33] 34 131071]
def ydta:LO:=[mv' 6 15 0,o3 (.bin .add (.tmp 15) (ci' 1)) 16 1,mv' 16 6 3]
def ydzi:LO:=[ld' true 2 5 35 0,o0 (.store 2 (.tmp 4) (.tmp 35)) 1]
def c10:SC:=(.seq (.reg false ydql) (.seq (.reg false ydsf) (.seq (.seq (.reg false ydwh) (.block 0 (.loop (.seq (.seq (.reg false ydka) (.cond (.tmp 14) .skip (.exit 0))) (.seq (.block 1 (.reg true ydxx)) (.reg false ydta)))))) (.seq (.reg false ydzi) .ret))))
theorem ydcd:FnM 10 c10 [.c 4 true 2]:=fn_m Tryz.func10 (by kernel_rfl) (by kernel_rfl)
def ydoo:LO:=[o3 (.box 24 (.tmp 0)) 2 0,o3 (.box 27 (.tmp 1)) 3 0,o3 (.alloc 27 1 [.a (.slice none 0 0),.a (.slice none 0 0)]) 4 0]
def ydwe:LO:=[fa' 1 1 3 7 0,ld' false 1 7 8 1,ln' 8 9 3,mv' 9 5 7]
def yduf:LO:=[mv' 5 10 0,mv' 10 6 1]
def ycmd:LO:=[mv' 6 11 0,o3 (.bin .add (.tmp 11) (ci' 1)) 12 1,fa' 1 1 2 13 0,ld' false 1 13 14 4,ln' 14 15 12,bn' .lss 12 15 16 31,mv' 16 17 63,⟨.mv (.tmp 6),some 18,some (17,true),127⟩,⟨.bin .lss (.tmp 18) (ci' 60),some 19,some (17,true),255⟩,o3 (.pick (.tmp 17) (.tmp 19) (.const (.bool false))) 20 511]
def ydlf:LO:=[ld' true 6 2 23 0,ld' true 2 3 24 0,fa' 1 1 2 25 0,ld' false 1 25 26 4,mv' 6 27 0,ix' 1 26 27 28 28,ld' false 1 28 29 60,mv' 5 30 0,cl' 49 [29,30] 31 252,fa' 1 1 2 32 0,ld' false 1 32 33 512,mv' 6 34 0,o3 (.bin .add (.tmp 34) (ci' 1)) 35 2048,ix' 1 33 35 36 7680,ld' false 1 36 37 15872,mv' 5 38 0,cl' 49 [37,38] 39 65532,fa' 2 1 2 40 0,ld' false 1 40 41 131072,mv' 6 42 0,cl' 50 [41,42] 43 1048572,o3 (.call (.func 49) [(.tmp 43),(ci' 15)]) 44 2097148,o3 (.bin .add (ci' 1) (.tmp 44)) 45 4194300,cl' 48 [23,24,31,39,45] 46 8388607]
def ydpz:LO:=[mv' 6 21 0,o3 (.bin .add (.tmp 21) (ci' 2)) 22 1,mv' 22 6 3]
def yddy:LO:=[ld' true 2 3 47 0,o0 (.store 2 (.tmp 4) (.tmp 47)) 1]
def c80:SC:=(.seq (.reg false ydoo) (.seq (.reg false ydwe) (.seq (.seq (.reg false yduf) (.block 0 (.loop (.seq (.seq (.reg false ycmd) (.cond (.tmp 20) .skip (.exit 0))) (.seq (.block 1 (.reg true ydlf)) (.reg false ydpz)))))) (.seq (.reg false yddy) .ret))))
theorem ydhp:FnM 80 c80 [.c 4 true 2]:=fn_m Tryz.func80 (by kernel_rfl) (by kernel_rfl)
def ydqp:LO:=[o3 (.box 24 (.tmp 0)) 2 0,o3 (.alloc 27 1 [.a (.slice none 0 0),.a (.slice none 0 0)]) 4 0]
def ydwb:LO:=[ld' true 6 2 5 0,ld' true 6 2 6 0,mv' 1 7 0,cl' 10 [6,7] 8 6,cl' 80 [5,8] 9 15,o0 (.store 2 (.tmp 4) (.tmp 9)) 31]
def c79:SC:=(.seq (.reg false ydqp) (.seq (.reg true ydwb) .ret))
theorem ydcg:FnU 79 c79 [.c 4 true 2]:=fn_u Tryz.func79 (by kernel_rfl) (by kernel_rfl)
end Sh
end
section
namespace Sh
open Ev Go.RowKit
instance:Inhabited Cnt:=⟨⟨0,0,0,0,0⟩⟩
theorem yzv{s e n:Nat}(h:subB s e)(he:e<2^n):s<2^n:=by
 refine Nat.lt_pow_two_of_testBit _ fun i hi=>?_;cases hb:s.testBit i with
 |false=>rfl
 | true =>
   have:=h i hb;rw[Nat.testBit_lt_two_pow (Nat.lt_of_lt_of_le he (Nat.pow_le_pow_right (by omega) hi))]at this
   cases this
end Sh
end
section
theorem ycjq{kind:Int}{b:Int×Int}(hb:b.1<=b.2)(h3:kind=3->b.1 <= -1 /\ -1<=b.2)(x:Int):b.1<=yiz kind b x/\yiz kind b x<=b.2:=by
 unfold yiz;split
 .assumption
 .split
  .exact h3 (by assumption)
  .split<;>omega
namespace Sh
theorem ychw{p:ProgT}{g:Gr}(hg:ybg g)(hp:p.ok=true)(hf:ybgc p g=true){x:VarR}(hx:x∈p.vars)(v:Nat):(ybm g v x).1<=(ybm g v x).2/\(x.kind=3->(ybm g v x).1 <= -1 /\ -1<=(ybm g v x).2):=by
 have h1:=List.all_eq_true.1 hf x hx;have hp':=hp;unfold ProgT.ok at hp';simp only[zT,decide_eq_true_eq]at hp';have hxo:=ybrl (List.all_eq_true.1 hp'.1.1.2 _ hx);rcases hxo.1 with h|h|h
 .have e:ybm g v x=ybm g 0 x:=by unfold ybm;rw[if_pos h,if_pos h]
  rw[e];simp[h]at h1;exact⟨h1.1,fun q=>by omega⟩
 .unfold ybm;rw[if_neg (by omega),if_pos h]
  exact⟨by decide,fun q=>by omega⟩
 .unfold ybm;rw[if_neg (by omega),if_neg (by omega),if_pos h]
  exact⟨by simp only[];omega,fun _=>⟨by simp only[];omega,by simp only[];omega⟩⟩
theorem ybuv{p:ProgT}{g:Gr}(hg:ybg g)(hp:p.ok=true)(hf:ybgc p g=true){v:Nat}{s:List Int}(hs:yip (p.vars.map (ybm g v)) s){a:Int}(ha:0<=a/\a<p.vars.length)(y:Int) :
 yip (p.vars.map (ybm g v)) (s.set a.toNat (yiz (p.vars.getD a.toNat default).kind (ybm g v (p.vars.getD a.toNat default)) y)):=by
 refine⟨by rw[List.length_set];exact hs.1,fun i b x hb hx=>?_⟩
 by_cases q:a.toNat=i
 .subst q;have hlt:a.toNat<p.vars.length:=by omega
  rw[zAT,zB hlt]at hb;cases hb
  have hl:a.toNat<s.length:=by rw[hs.1,zAC];exact hlt
  rw[zV hl]at hx;cases hx
  rw[getD_at hlt];obtain⟨h1,h2⟩:=ychw hg hp hf (zQ hlt) v;exact ycjq h1 h2 y
 .rw[zAD q]at hx;exact hs.2 i b x hb hx
theorem ywf{p:ProgT}{g:Gr}(hg:ybg g)(hp:p.ok=true)(hf:ybgc p g=true)(c:Conf)(v:Nat):∀(sets:List (Int×Ex)) (s:List Int),(∀a∈sets,0<=a.1/\a.1<p.vars.length)->yip (p.vars.map (ybm g v)) s->yip (p.vars.map (ybm g v)) (yop p g c v s sets)
 |[],s,_,hs=>hs
 | a::sets,s,ha,hs=>by
   show yip _ (yop p g c v (s.set _ _) sets);exact ywf hg hp hf c v sets _ (fun x hx=>ha x (zD _ hx)) (ybuv hg hp hf hs (ha a zG) _)
theorem yix{p:ProgT}{g:Gr}(hg:ybg g)(hp:p.ok=true)(hf:ybgc p g=true){c:Conf}(hc:yfs p g c=true)(s:Nat):yfs p g (ydm p g c s)=true:=by
 have h:=(yft _ _ _).1 hc;refine(yft _ _ _).2 ⟨by rw[ykn];exact h.1,fun v st hst=>?_⟩
 have hv:v<c.length:=by
  have:=(List.getElem?_eq_some_iff.1 hst).1
  rwa [ykn]at this
 have e:st=(ydm p g c s).getD v []:=by simp[zF,hst]
 rw[ynf p g c s hv]at e;have hold:=h.2 v (c.getD v []) (by rw[getD_at hv];exact zB hv)
 rw[e];split
 .unfold yis;refine ywf hg hp hf c v _ _ (fun a ha=>?_) hold;have hp':=hp;unfold ProgT.ok at hp';simp only[zT,decide_eq_true_eq]at hp'
  by_cases hr:(ydy p g c v).toNat<p.rules.length
  .rw[getD_at hr]at ha;have hok:=List.all_eq_true.1 hp'.2 _ (zQ hr);unfold RuleT.ok at hok;simp only[zT,decide_eq_true_eq]at hok;have:=List.all_eq_true.1 hok.2 a ha;simp only[zT,decide_eq_true_eq]at this;exact this.1.1
  .have:p.rules.getD (ydy p g c v).toNat default=default:=by simp[zF,zAA (Nat.le_of_not_lt hr)]
   rw[this]at ha;cases ha
 .exact hold
theorem ype(p:ProgT)(g:Gr)(c:Conf):ybj p g c<2^g.ids.length:=ybmu _ _
end Sh
end
section
end
section
open Go.RowKit
end
section
open Go.RowKit
theorem ylw(g:Gr)(G:List Int)(v:Nat):(yef g G v).length=G.length:=by simp[yef]
set_option maxHeartbeats 2000000 in
theorem ypc(gv cv Gv:Value)(g:Gr)(c:Conf)(G:List Int)(w:World)(hg:GrAt w gv g)(hc:ycrk w cv c)(hG:yth w Gv G)(hgood:ybg g) :
 Calls zK 89 #[gv,cv,Gv] w fun e w'=>e = .returned (.bool (yvy g.ports.length (yef g G) c))/\Below w.heap.size w w':=by
 have hn24:=hgood.2.1;have hid:=hgood.2.2.1;have Hid':=zA hid
 clear hgood
 obtain⟨i,p,rfl,hi,hp⟩:=hg;obtain⟨A,c0,rfl,hA1,hA2⟩:=ycw hi;obtain⟨A2,c2,rfl,hB1,hB2⟩:=ycw hp;obtain⟨A3,c3,rfl,hC1,hC2⟩:=ycw hc;obtain⟨A4,c4,rfl,hD1,hD2⟩:=ycw hG;have Hp:=zA hp;have Hc:=zA hc;have HG:=zA hG
 clear hi hp hc hG
 by_cases n1:c.length=g.ids.length
 .have n1':((c.length:Int)!=(g.ids.length:Int))=false:=by simp[n1]
  have Hn:=zA (n1.trans hid);have hcn:c.length<=24:=by omega
  clear n1 hid
  go_enter zBC,zBB
  go_wp2
  obtain⟨W1,hW1⟩:∃W,W=w.alloc (.cells #[.slice A g.ids.length c0,.slice A2 g.ports.length c2] 27):=⟨_,rfl⟩;have hbox:W1.cell? ⟨w.heap.size,1,none⟩=some (.slice A2 g.ports.length c2):=by subst hW1;simp
  have HbW:=zA (show Below w.heap.size w W1 by subst hW1;exact(Below.refl _ _).alloc (zJ _) _)
  rw[<-hW1]
  clear hW1
  go_loopg [21] c.length (fun q t wr=>∃v n:Nat,q+v=c.length/\t = .int .i64 v/\wr=W1.drewN n/\Hid (∀(u:Nat) s,u<v->c[u]?=some s->yip (yef g G u) s))
  case atStart=>exact⟨0,0,by omega,rfl,rfl,zA (fun u s hu=>absurd hu (by omega))⟩
  case round =>
   obtain⟨v,n,hq,rfl,rfl,hok⟩:=hrel
   by_cases hlt:v<c.length
   .obtain⟨b3,off3,sv,rfl,hb3,hcs,hs⟩:=ytq (Hc.out.below (Stable.sl Stable.int) HbW.out) (zB hlt);obtain⟨A5,c5,rfl,hE1,hE2⟩:=ycw hs;obtain⟨s,hse⟩:∃s,c[v]=s:=⟨_,rfl⟩;have Hs?:=zA (show c[v]?=some s by rw[zB hlt,hse])
    rw[hse]at hs hcs hE1;have Hbad:=zA (show ¬yip (yef g G v) s->yvy g.ports.length (yef g G) c=false from fun h=>ytj (fun hc=>h (hc.2 v s Hs?.out)))
    have Hs:=zA hs
    clear hs hse
    by_cases c1:s.length=G.length
    .have c1':((s.length:Int)!=(G.length:Int))=false:=by simp[c1]
     have Hsl:=zA c1
     clear c1
     have hvp:v<g.ports.length:=by rw[<-Hn.out];exact hlt
     go_wp2
     obtain⟨go,rfl⟩:∃go,go=gk:=⟨_,rfl⟩
     go_loopg [33] s.length (fun q t wr=>∃x n:Nat,q+x=s.length/\t = .int .i64 x/\wr=W1.drewN n/\Hid (∀(j:Nat) b z,j<x->(yef g G v)[j]?=some b->s[j]?=some z->b.1<=z/\z<=b.2))
     case atStart=>exact⟨0,n,by omega,rfl,rfl,zA (fun j b z hj=>absurd hj (by omega))⟩
     case round =>
      obtain⟨x,n,hqx,rfl,rfl,hst⟩:=hrel
      by_cases hxl:x<s.length
      .have hxG:x<G.length:=by rw[<-Hsl.out];exact hxl
       obtain⟨b5,o5,rfl,hb5,hc5,hr5⟩:=yuu (Hs.out) hxl;obtain⟨b6,o6,rfl,hb6,hc6,hr6⟩:=yuu (HG.out.below Stable.int HbW.out) hxG;obtain⟨b7,o7,lv,rfl,hb7,hc7,hl7⟩:=ytq (Hp.out.below (Stable.sl Stable.link) HbW.out) (zB hvp);obtain⟨A8,c8,rfl,hF1,hF2⟩:=ycw hl7;obtain⟨ds,hds⟩:∃ds,g.ports[v]=ds:=⟨_,rfl⟩;have hdeg:ybfx g v=ds.length:=by simp[ybfx,zF,zB hvp,hds]
       rw[hds]at hc7 hF1;obtain⟨y,hy⟩:∃y,s[x]=y:=⟨_,rfl⟩;obtain⟨h,hh⟩:∃h,G[x]=h:=⟨_,rfl⟩;have Hy?:=zA (show s[x]?=some y by rw[zB hxl,hy])
       have hb?:(yef g G v)[x]?=some (if h = -1 then(-1,(ds.length:Int)-1)else(0,h)):=by
        simp[yef,hxG,hh,hdeg]
       rw[hy]at hc5 hr5;rw[hh]at hc6 hr6;obtain⟨hr5a,hr5b⟩:=hr5;obtain⟨hr6a,hr6b⟩:=hr6
       clear hl7 hds hdeg hy hh
       by_cases c2:h = -1
       .have c2':(h == -1)=true:=by simp[c2]
        rw[if_pos c2]at hb?;have Hb?:=zA hb?
        clear hb? c2
        by_cases c3:y < -1
        .have Hf:=zA (Hbad.out (fun h=>by have:=h.2 x _ y Hb?.out Hy?.out;simp only at this;omega))
         go_wp2
         go_quiet (fail)
         go_wp2
         go_quiet (fail)
         go_wp2
         go_ret
         exact⟨yca Hf.out.symm,below_drewN HbW.out _⟩
        .by_cases c4:(ds.length:Int)-1<y
         .have Hf:=zA (Hbad.out (fun h=>by have:=h.2 x _ y Hb?.out Hy?.out;simp only at this;omega))
          go_wp2
          go_quiet (fail)
          go_wp2
          go_quiet (fail)
          go_wp2
          go_ret
          exact⟨yca Hf.out.symm,below_drewN HbW.out _⟩
         .have c4d:decide ((ds.length:Int)-1<y)=false:=by simp;omega
          go_wp2
          go_quiet (fail)
          go_wp2
          go_quiet (fail)
          go_wp2
          go_roundg (gk-1)
          case measure=>omega
          case rel =>
           refine⟨x+1,_,by omega,by go_num,rfl,zA (fun j b z hj hb hz=>?_)⟩
           by_cases hjx:j<x
           .exact hst.out j b z hjx hb hz
           .obtain rfl:j=x:=by omega
            rw[Hb?.out]at hb;rw[Hy?.out]at hz;cases hb
            cases hz
            simp only;omega
       .have c2':(h == -1)=false:=by simp[c2]
        rw[if_neg c2]at hb?;have Hb?:=zA hb?
        clear hb? c2
        by_cases c3:y<0
        .have Hf:=zA (Hbad.out (fun h=>by have:=h.2 x _ y Hb?.out Hy?.out;simp only at this;omega))
         go_wp2
         go_quiet (fail)
         go_wp2
         go_ret
         exact⟨yca Hf.out.symm,below_drewN HbW.out _⟩
        .by_cases c4:h<y
         .have Hf:=zA (Hbad.out (fun h=>by have:=h.2 x _ y Hb?.out Hy?.out;simp only at this;omega))
          go_wp2
          go_quiet (fail)
          go_wp2
          go_ret
          exact⟨yca Hf.out.symm,below_drewN HbW.out _⟩
         .have c4d:decide (h<y)=false:=by simp;omega
          go_wp2
          go_quiet (fail)
          go_wp2
          go_roundg (gk-1)
          case measure=>omega
          case rel =>
           refine⟨x+1,_,by omega,by go_num,rfl,zA (fun j b z hj hb hz=>?_)⟩
           by_cases hjx:j<x
           .exact hst.out j b z hjx hb hz
           .obtain rfl:j=x:=by omega
            rw[Hb?.out]at hb;rw[Hy?.out]at hz;cases hb
            cases hz
            simp only;omega
      .obtain rfl:x=s.length:=by omega
       go_wp2
       go_roundg (go-1)
       case measure=>omega
       case rel =>
        refine⟨v+1,_,by omega,by go_num,rfl,zA (fun u s' hu hs'=>?_)⟩
        by_cases huv:u<v
        .exact hok.out u s' huv hs'
        .obtain rfl:u=v:=by omega
         rw[Hs?.out]at hs';cases hs'
         refine⟨by rw[ylw,Hsl.out],fun j b z hb hz=>hst.out j b z (List.getElem?_eq_some_iff.1 hz).1 hb hz⟩
    .have c1':((s.length:Int)!=(G.length:Int))=true:=by simp;omega
     have Hf:=zA (Hbad.out (fun h=>c1 (by rw[h.1,ylw])))
     clear c1
     go_wp2
     go_ret
     exact⟨yca Hf.out.symm,below_drewN HbW.out _⟩
   .obtain rfl:v=c.length:=by omega
    have Ht:=zA (ybpv (n:=g.ports.length) (bs:=yef g G) (c:=c) ⟨Hn.out,fun v s hs=>hok.out v s (List.getElem?_eq_some_iff.1 hs).1 hs⟩)
    go_wp2
    go_ret
    exact⟨yca Ht.out.symm,below_drewN HbW.out _⟩
 .have n1':((c.length:Int)!=(g.ids.length:Int))=true:=by simp;omega
  have Hf:=zA (ytj (n:=g.ports.length) (bs:=yef g G) (c:=c) (fun h=>n1 (h.1.trans hid.symm)))
  clear n1 hid
  go_enter zBC,zBB
  go_wp2
  go_ret
  exact⟨yca Hf.out.symm,(Below.refl _ _).alloc (zJ _) _⟩
end
section
open Go.RowKit
end
section
def yfg(g:Gr):Nat:=(g.ports.map zBD).sum
def addL(back:Bool)(l:List (Int×Int))(x:Int×Int):List (Int×Int):=if back then x::l else l++[x]
theorem yez{back:Bool}{l:List (Int×Int)}{x y:Int×Int}:y∈addL back l x↔y=x\/y∈l:=by
 unfold addL;cases back<;>simp[or_comm]
def ycu(back:Bool)(g:Gr)(a b:Nat)(w:Int):Gr:=⟨g.ids,(g.ports.set a (addL back (g.ports.getD a []) (b,w))).set b (addL back (g.ports.getD b []) (a,w))⟩
theorem yeg(back:Bool)(g:Gr){a b:Nat}(w:Int)(ha:a<g.ports.length)(hb:b<g.ports.length)(v:Nat) :
 (ycu back g a b w).ports.getD v []=if v=b then addL back (g.ports.getD b []) (a,w)else if v=a then addL back (g.ports.getD a []) (b,w)else g.ports.getD v []:=by
 unfold ycu;simp only[zF]
 by_cases h1:v=b
 .subst h1;rw[if_pos rfl,zV (by simpa using hb)]
  rfl
 .rw[if_neg h1,zAD (fun q=>h1 q.symm)]
  by_cases h2:v=a
  .subst h2;rw[if_pos rfl,zV ha];rfl
  .rw[if_neg h2,zAD (fun q=>h2 q.symm)]
theorem yqi{back:Bool}{l:List (Int×Int)}{v n:Int}{x:Int×Int}(h:ydk l v n)(hx:ynr v n x)(hno:∀y∈l,y.1≠x.1):ydk (addL back l x) v n:=by
 refine⟨fun y hy=>?_,?_⟩
 .rcases yez.1 hy with rfl|hy
  .exact hx
  .exact h.1 y hy
 .have hn:x.1∉l.map (·.1):=fun hm=>by
   obtain⟨y,hy,e⟩:=List.mem_map.1 hm;exact hno y hy e
  unfold addL;cases back
  .simp only[zAP,if_false,List.map_append,zN,List.map_nil];rw[zAS];refine⟨h.2,by simp,fun p hp q hq=>?_⟩
   rw[List.mem_singleton]at hq;subst hq;intro e;exact hn (e▸hp)
  .simp only[if_true,zN];exact List.nodup_cons.2 ⟨hn,h.2⟩
theorem ybep{back:Bool}{g:Gr}(hg:ybg g){a b:Nat}{w:Int}(ha:a<g.ports.length)(hb:b<g.ports.length)(hab:a≠b)(hw:1<=w/\w<=15)(hno:∀y∈g.ports.getD a [],y.1≠(b:Int)):ybg (ycu back g a b w):=by
 obtain⟨h1,h2,h3,h4,h5,h6,h7⟩:=hg;have hlen:(ycu back g a b w).ports.length=g.ports.length:=by simp[ycu]
 have gd:∀(v:Nat) (hv:v<g.ports.length),g.ports.getD v []=g.ports[v]:=fun v hv=>by simp[zF,hv]
 have hno2:∀y∈g.ports.getD b [],y.1≠(a:Int):=fun y hy e=>by
  rw[gd b hb]at hy;have:=h7 ⟨b,hb⟩ y hy;rw[e,zI]at this;exact hno _ this rfl
 have at_:∀(v:Nat) (hv:v<g.ports.length),(ycu back g a b w).ports[v]'(by rw[hlen];exact hv)=if v=b then addL back (g.ports.getD b []) (a,w)else if v=a then addL back (g.ports.getD a []) (b,w)else g.ports.getD v []:=fun v hv=>by
  rw[<-yeg back g w ha hb v];simp[zF,hlen,hv]
 refine⟨by rw[hlen];exact h1,by rw[hlen];exact h2,by rw[hlen];exact h3,h4,h5,fun v=>?_,fun v l hl=>?_⟩
 .have hv:v.1<g.ports.length:=zAQ v.isLt hlen;have hl':(((ycu back g a b w).ports.length:Nat):Int)=(g.ports.length:Int):=by rw[hlen]
  rw[hl'];show ydk ((ycu back g a b w).ports[v.1]) _ _;rw[at_ v.1 hv];split
  .rename_i e
   rw[e];refine yqi ?_ ⟨by simp only[];omega,by simp only[];omega,by simp only[];omega,hw.1,hw.2⟩ hno2
   rw[gd b hb];exact h6 ⟨b,hb⟩
  .split
   .rename_i e
    rw[e];refine yqi ?_ ⟨by simp only[];omega,by simp only[];omega,by simp only[];omega,hw.1,hw.2⟩ hno
    rw[gd a ha];exact h6 ⟨a,ha⟩
   .rw[gd v.1 hv];exact h6 ⟨v.1,hv⟩
 .have hv:v.1<g.ports.length:=zAQ v.isLt hlen
  change l∈(ycu back g a b w).ports[v.1]at hl
  rw[at_ v.1 hv]at hl
  have old:∀u x,x∈g.ports.getD u []->x∈(ycu back g a b w).ports.getD u []:=fun u x hx=>by
   rw[yeg back g w ha hb u];split
   .rename_i e;subst e;exact yez.2 (.inr hx)
   .split
    .rename_i e;subst e;exact yez.2 (.inr hx)
    .exact hx
  have sym:∀(u:Nat) (hu:u<g.ports.length),l∈g.ports.getD u []->((u:Int),l.2)∈(ycu back g a b w).ports.getD l.1.toNat []:=fun u hu hx=>by
   rw[gd u hu]at hx;exact old _ _ (h7 ⟨u,hu⟩ l hx)
  split at hl
  .rename_i e
   rcases yez.1 hl with rfl|hl
   .rw[yeg back g w ha hb,e];simp only[zI];simp only[if_neg hab,if_true];exact yez.2 (.inl rfl)
   .rw[e];exact sym b hb hl
  .split at hl
   .rename_i e
    rcases yez.1 hl with rfl|hl
    .rw[yeg back g w ha hb,e];simp only[zI];simp only[if_true];exact yez.2 (.inl rfl)
    .rw[e];exact sym a ha hl
   .exact sym v.1 hv hl
end
section
def Tre(g:Gr)(m:Nat):Prop:=∀v,0<v->v<m->∃u,u<v/\adj g u v
theorem Tre.walk{g:Gr}{m:Nat}(h:Tre g m):∀v,v<m->∃k,Walk g 0 k v:=by
 intro v
 induction v using Nat.strongRecOn with
 | _ v ih =>
   intro hv
   by_cases h0:v=0
   .subst h0;exact⟨0,rfl⟩
   .obtain⟨u,hu,ha⟩:=h v (by omega) hv
    obtain⟨k,hk⟩:=ih u hu (by omega)
    exact⟨k+1,u,hk,ha⟩
theorem Tre.conn{g:Gr}(hg:ybg g)(h:Tre g g.ports.length):ycjx g=true:=by
 unfold ycjx;rw[(yff g).2 hg,Bool.true_and,ydfs hg (a:=0) (by have:=hg.1;omega)]
 exact h.walk
theorem yhj{g:Gr}{u v:Nat}:adj g u v↔∃l,l∈g.ports.getD u []/\l.1=(v:Int):=by
 constructor
 .rintro⟨ls,h,l,hl,e⟩;exact⟨l,by simpa[zF,h]using hl,e⟩
 .rintro⟨l,hl,e⟩;cases h:g.ports[u]? with
  |none=>simp[zF,h]at hl
  |some ls=>exact⟨ls,h,l,by simpa[zF,h]using hl,e⟩
theorem ybhb{back:Bool}{g:Gr}{a b:Nat}{w:Int}(ha:a<g.ports.length)(hb:b<g.ports.length){u v:Nat}(h:adj g u v):adj (ycu back g a b w) u v:=by
 obtain⟨l,hl,e⟩:=yhj.1 h;refine yhj.2 ⟨l,?_,e⟩;rw[yeg back g w ha hb u];split
 .rename_i q;subst q;exact yez.2 (.inr hl)
 .split
  .rename_i q;subst q;exact yez.2 (.inr hl)
  .exact hl
theorem ybim{back:Bool}{g:Gr}{a b:Nat}{w:Int}(ha:a<g.ports.length)(hb:b<g.ports.length)(hab:a≠b):adj (ycu back g a b w) a b:=by
 refine yhj.2 ⟨((b:Int),w),?_,rfl⟩;rw[yeg back g w ha hb a,if_neg hab,if_pos rfl];exact yez.2 (.inl rfl)
theorem Tre.add{back:Bool}{g:Gr}{a b:Nat}{w:Int}(ha:a<g.ports.length)(hb:b<g.ports.length){m:Nat}(h:Tre g m):Tre (ycu back g a b w) m:=fun v h0 hv=>by
 obtain⟨u,hu,hadj⟩:=h v h0 hv;exact⟨u,hu,ybhb ha hb hadj⟩
def bare(ids:List Int):Gr:=⟨ids,zAY ids.length []⟩
theorem ybgb{ids:List Int}(h1:1<=ids.length)(h2:ids.length<=24)(h3:∀x∈ids,0<=x/\x<=255)(h4:ids.Nodup):ybg (bare ids):=by
 have e:∀v:Fin (bare ids).ports.length,(bare ids).ports[v]=[]:=fun v=>by
  have hv:v.1<ids.length:=by have:=v.isLt;simpa[bare]using this
  show(zAY ids.length ([]:List (Int×Int)))[v.1]'(by simpa using hv)=[]
  exact List.getElem_replicate ..
 refine⟨by simpa[bare]using h1,by simpa[bare]using h2,by simp[bare],h3,h4,fun v=>?_,fun v l hl=>?_⟩
 .rw[e v];exact⟨fun l hl=>(nomatch hl),List.nodup_nil⟩
 .rw[e v]at hl;cases hl
end
section
abbrev ybcl:Ex:=.leaf 4 0
abbrev eVar(k:Int):Ex:=.leaf 5 k
abbrev eQ(k:Int):Ex:=.leaf 12 k
theorem ybch{α:Type}(g:Gr)(v:Nat)(f:Int×Int->α)(h:Nat->α)(e:∀q,q<(g.ports.getD v []).length->h q=f ((g.ports.getD v []).getD q (0,0))):(zO (g.ports.getD v []).length).map h=(g.ports.getD v []).map f:=by
 refine zAW (by simp) fun i h1 h2=>?_
 have hi:i<(g.ports.getD v []).length:=by simpa using h1
 rw[zX,List.getElem_range,zX,e i hi];congr 1;rw[zAG,zB hi];rfl
theorem yym(f:Int×Int->Bool)(ls:List (Int×Int)):yev (ls.map fun l=>ybz (f l))=ybew f ls:=by
 unfold yev ybew
 have:((fun x:Int=>x != 0) ∘ fun l=>ybz (f l))=f:=by
  funext l
  show(ybz (f l)!=0)=f l;unfold ybz;cases f l<;>rfl
 rw[List.findIdx?_map,this]
 all_goals (cases List.findIdx? f ls<;>rfl)
def endP(c:Conf)(k:Nat)(l:Int×Int):Int:=(c.getD l.1.toNat []).getD k 0
theorem ytw(b:Bool):(ybz b != 0)=b:=by cases b<;>rfl
section
variable {nm nd np nt nl:ByteArray}{g:Gr}{c:Conf}{v:Nat}
theorem bT3{x:ByteArray}:ybm g v ⟨x,3,0,0,0,0⟩=(-1,((g.ports.getD v []).length:Int)-1):=by
 show(if (3:Int)=1 then _ else if (3:Int)=2 then _ else if (3:Int)=3 then _ else _)=_
 rw[if_neg (by decide),if_neg (by decide),if_pos rfl]
end
end
section
section
variable {g:Gr}{a v:Nat}
theorem ydl{l:Int×Int}(hg:ybg g)(hv:v<g.ports.length)(hl:l∈g.ports.getD v []):0<=l.1/\l.1.toNat<g.ports.length/\adj g v l.1.toNat/\1<=l.2/\l.2<=15:=by
 have e:g.ports[v]?=some (g.ports.getD v []):=by simp[zF,hv]
 have h:=hg.link e hl;exact⟨h.1,by omega,⟨_,e,l,hl,by omega⟩,h.2.2.2.1,h.2.2.2.2⟩
theorem yto{u:Nat}(h:adj g v u):∃l∈g.ports.getD v [],l.1.toNat=u:=by
 obtain⟨l,hl,e⟩:=yhj.1 h;exact⟨l,hl,by rw[e];simp⟩
end
section
variable {nm nd np nt nl:ByteArray}{g:Gr}
end
end
section
namespace Sh
open Ev Go.RowKit
def TT:(Nat->Option ABlk)->Value->Prop:=fun _ _=>True
def yfd(p:ProgT)(g:Gr):SV:=.ex TT (.rf (yje p.raw g))
theorem gmr{α:Type}(f:Nat->α)(n k:Nat)(d:α)(h:k<n):((zO n).map f).getD k d=f k:=by simp[zF,h]
def mapR{α:Type}(n:Nat)(f:Nat->α):List α:=(zO n).map f
theorem gmR{α:Type}(f:Nat->α)(n k:Nat)(d:α)(h:k<n):(mapR n f).getD k d=f k:=gmr f n k d h
theorem yclh{α:Type}(n:Nat)(f:Nat->α):(mapR n f).length=n:=by simp[mapR]
section
variable {Q1 Q2:(Nat->Option ABlk)->Value->Prop}{p:ProgT}{g:Gr}
end
end Sh
end
section
namespace Sh
open Ev Go.RowKit
theorem Returns.exT{P:Program}{g:FuncId}{args:List SV}{r:SV}(h:Returns P g args r):Returns P g args (.ex TT r):=fun G m us h1 h2 h3=>by
 obtain⟨v,m',x,a,b,c,d,e⟩:=h G m us h1 h2 h3;exact⟨v,m',.ex TT r,a,b,c,rfl,.ex trivial (fun _ _ _ _ _=>trivial) (d▸e)⟩
section
variable {Q1 Q2:(Nat->Option ABlk)->Value->Prop}{p:ProgT}{g:Gr}
def yia(l:List Conf):SV:=.sl 1 l.length (fun i=>[ycz (l.getD i [])])
def yog(l:List Cnt):SV:=.sl 5 l.length (fun i=>cntV (l.getD i default))
end
end Sh
end
section
def ydj(v m:Int):Int:=if m<1 then 0 else v%m
def atP(l:List Int)(i:Nat):Int:=l.getD i 0
theorem ygg{v m:Int}(h:1<=m):0<=ydj v m/\ydj v m<m:=by
 unfold ydj;rw[if_neg (by omega)]
 exact⟨zAK _ (by omega),zAE _ (by omega)⟩
namespace Sh
open Ev Go.RowKit
theorem yblh{v m:Int}(h:1<=m):(if v.tmod m<0 then v.tmod m+m else v.tmod m)=v%m:=by
 have h1:=Int.emod_add_mul_ediv v m;have h2:=zAK v (show m≠0 by omega)
 have h3:=zAE v (show 0<m by omega)
 have h4:=Int.tmod_eq_emod (a:=v) (b:=m);have h5:(m.natAbs:Int)=m:=by omega
 rw[h4]
 by_cases q:0<=v\/m ∣ v
 .simp only[if_pos q,zW,Int.sub_zero];rw[if_neg (by omega)]
 .simp only[if_neg q,h5];rw[if_pos (by omega)]
  omega
theorem ygf(v m:Int)(hm:m<=4611686018427387904)(hv:inK .i64 v):Returns zK 49 [.i .i64 v,.i .i64 m] (.i .i64 (ydj v m)):=by
 refine Returns.of (ydsn _ _ ?_);simp only[c49,ydsp,ydrh,ydud,ydpt,ydlu,ydpb,ydqy,yx,go_sem,zC,zH,↓reduceIte,reduceCtorEq];unfold ydj;refine⟨fun h=>by rw[if_pos h],fun h=>⟨by omega,fun h2=>?_,fun h2=>?_⟩⟩
 .have h3:=yblh (v:=v) (show 1<=m by omega)
  rw[if_pos h2]at h3;rw[if_neg h,h3];have h4:=zAK v (show m≠0 by omega)
  have h5:=zAE v (show 0<m by omega)
  exact⟨ikw (by omega) (by omega),rfl⟩
 .have h3:=yblh (v:=v) (show 1<=m by omega)
  rw[if_neg h2]at h3;rw[if_neg h,h3]
theorem at_ret(l:List Int)(i:Nat):Returns zK 50 [ybc l,.i .i64 i] (.i .i64 (atP l i)):=by
 refine Returns.of (ydyz _ _ ?_);simp only[c50,ydlx,ydwu,ydvh,ydse,ybc,yx,go_sem,zC,zH,↓reduceIte,reduceCtorEq];exact⟨fun h=>⟨by omega,rfl⟩,fun h=>by unfold atP;rw[zF,zAA (by omega)];rfl⟩
theorem ydwt{α:Type}(l:List α)(x d:α)(i:Nat):(l++[x]).getD i d=if i<l.length then l.getD i d else if i=l.length then x else d:=by
 by_cases h:i<l.length
 .simp[zF,List.getElem?_append_left h,h]
 .by_cases e:i=l.length
  .subst e;simp[zF]
  .rw[if_neg h,if_neg e,zF,zAA (by simp;omega)]
   rfl
end Sh
end
section
namespace Sh
open Ev Go.RowKit
section
variable {p:ProgT}{g:Gr}
end
end Sh
end
section
namespace Sh
open Ev Go.RowKit
def blV(l:List Bool):SV:=.sl 1 l.length (fun k=>[.b (l.getD k false)])
def ycro(kind:Int)(fair silent:Bool)(rounds moves:Int):List SV:=[.i .i64 kind,.b fair,.b silent,.i .i64 rounds,.i .i64 moves]
end Sh
end
section
namespace Sh
section
variable {nm nd np nt nl:ByteArray}{g:Gr}
end
end Sh
end
section
def ybda(g:Gr)(s:Nat):Prop:=∀u v,adj g u v->s.testBit u=true->s.testBit v=false
section
variable {S:Sys}{V:Conf->Prop}{D:Nat->Prop}{P:Nat->Nat->Conf->Prop}
end
end
section
abbrev Ptr:=Nat->Option Nat
def Mt(p:Ptr)(x:Nat):Prop:=∃y,p x=some y/\p y=some x
inductive Mv (g:Gr) (p:Ptr) (v:Nat):Option Nat->Prop
 |accept (u:Nat):p v=none->adj g v u->p u=some v->Mv g p v (some u)
 |propose (u:Nat):p v=none->adj g v u->p u=none->(∀x,adj g v x->p x≠some v)->Mv g p v (some u)
 |withdraw (u w:Nat):p v=some u->p u=some w->w≠v->Mv g p v none
def yjw(p:Ptr)(v:Nat)(t:Option Nat):Ptr:=fun x=>if x=v then t else p x
structure PtI(g:Gr)(p:Ptr)(I:Nat->Prop):Prop where
 nb:∀v u,p v=some u->adj g v u
 fresh:∀v u,p v=some u->¬I v->p u=none\/p u=some v\/Mt p u
open Classical in
noncomputable def lv(A B C:Prop):Nat:=if A then 0 else if B then 1 else if C then 0 else 2
noncomputable def lft(p:Ptr)(I:Nat->Prop)(u v:Nat):Nat:=lv (p u=some v/\p v=some u) ((p u=some v/\¬I u)\/(p v=some u/\¬I v)) (Mt p u\/Mt p v)
theorem ysg(p:Ptr)(I:Nat->Prop)(u v:Nat):lft p I u v=lft p I v u:=by
 unfold lft;rw[show(p u=some v/\p v=some u)=(p v=some u/\p u=some v)from propext and_comm,show((p u=some v/\¬I u)\/(p v=some u/\¬I v))=((p v=some u/\¬I v)\/(p u=some v/\¬I u))from propext or_comm,show(Mt p u\/Mt p v)=(Mt p v\/Mt p u)from propext or_comm]
theorem ydnv(p:Ptr)(I:Nat->Prop)(u v:Nat):lft p I u v<=2:=by
 unfold lft lv;split
 .omega
 .split
  .omega
  .split<;>omega
section
variable {g:Gr}{p:Ptr}{I:Nat->Prop}{v:Nat}{t:Option Nat}
def mvI(I:Nat->Prop)(v:Nat):Nat->Prop:=fun x=>I x/\x≠v
theorem set_self:yjw p v t v=t:=if_pos rfl
theorem ydw{x:Nat}(h:x≠v):yjw p v t x=p x:=if_neg h
theorem yve(hm:Mv g p v t){x:Nat}(h:Mt p x):Mt (yjw p v t) x:=by
 obtain⟨y,h1,h2⟩:=h
 have free:∀a b,p a=some b->p b=some a->a≠v:=fun a b ha hb e=>by
  subst e;cases hm with
  |accept u q=>rw[q]at ha;cases ha
  |propose u q=>rw[q]at ha;cases ha
  | withdraw u w q1 q2 q3 =>
    rw[ha]at q1;cases q1
    rw[hb]at q2;cases q2
    exact q3 rfl
 exact⟨y,by rw[ydw (free x y h1 h2)];exact h1,by rw[ydw (free y x h2 h1)];exact h2⟩
theorem ydxq(hi:PtI g p I)(hm:Mv g p v t)(hs:∀u w,adj g u w->adj g w u)(hr:∀u,¬adj g u u):PtI g (yjw p v t) (mvI I v):=by
 refine⟨fun x y h=>?_,fun x y h hx=>?_⟩
 .by_cases e:x=v
  .subst e;rw[set_self]at h;cases hm with
   |accept u _ ha=>cases h;exact ha
   |propose u _ ha=>cases h;exact ha
   |withdraw=>cases h
  .rw[ydw e]at h;exact hi.nb x y h
 .by_cases e:x=v
  .subst e;rw[set_self]at h;cases hm with
   | accept u q1 q2 q3 =>
     cases h
     have hne:y≠x:=fun e=>by subst e;rw[q1]at q3;cases q3
     right;left
     rw[ydw hne];exact q3
   | propose u q1 q2 q3 q4 =>
     cases h
     by_cases e:y=x
     .subst e;exact absurd q2 (hr _)
     .left;rw[ydw e];exact q3
   |withdraw=>cases h
  .rw[ydw e]at h;have hxI:¬I x:=fun q=>hx ⟨q,e⟩;rcases hi.fresh x y h hxI with q|q|q
   .by_cases e2:y=v
    .subst e2;cases hm with
     | accept u q1 q2 q3 =>
       by_cases e3:u=x
       .subst e3;right;left;exact set_self
       .right;right
        have hne:u≠y:=fun e4=>by subst e4;rw[q1]at q3;cases q3
        exact⟨u,set_self,by rw[ydw hne];exact q3⟩
     |propose u q1 q2 q3 q4=>exact absurd h (q4 x (hs _ _ (hi.nb x y h)))
     |withdraw u w q1=>rw[q]at q1;cases q1
    .left;rw[ydw e2];exact q
   .by_cases e2:y=v
    .subst e2;cases hm with
     |accept u q1=>rw[q]at q1;cases q1
     |propose u q1=>rw[q]at q1;cases q1
     | withdraw u w q1 q2 q3 =>
       rw[q]at q1;cases q1
       rw[h]at q2;cases q2
       exact absurd rfl q3
    .right;left;rw[ydw e2];exact q
   .exact .inr (.inr (yve hm q))
end
end
section
theorem ycgh{A B C A' B' C':Prop}(h0:A->A')(h1:¬A->B->A'\/B'\/C')(h2:¬A->¬B->C->A'\/(¬B'/\C')):lv A' B' C'<=lv A B C:=by
 unfold lv
 by_cases a:A
 .rw[if_pos (h0 a)];exact zL _
 .rw[if_neg a]
  by_cases a':A'
  .rw[if_pos a'];exact zL _
  .rw[if_neg a']
   by_cases b:B
   .rw[if_pos b]
    by_cases b':B'
    .rw[if_pos b'];omega
    .rw[if_neg b'];rcases h1 a b with q|q|q
     .exact absurd q a'
     .exact absurd q b'
     .rw[if_pos q];omega
   .rw[if_neg b]
    by_cases c:C
    .rcases h2 a b c with q|⟨q1,q2⟩
     .exact absurd q a'
     .rw[if_neg q1,if_pos q2];exact zL _
    .rw[if_neg c];split
     .omega
     .split<;>omega
section
variable {g:Gr}{p:Ptr}{I:Nat->Prop}{v:Nat}{t:Option Nat}
theorem ylz(p:Ptr)(I:Nat->Prop)(u v:Nat):lft p I u v=lv (p u=some v/\p v=some u) ((p u=some v/\¬I u)\/(p v=some u/\¬I v)) (Mt p u\/Mt p v):=rfl
theorem ybma(hi:PtI g p I)(hm:Mv g p v t)(hr:∀u,¬adj g u u)(hs:∀u w,adj g u w->adj g w u){y:Nat}(hy:adj g v y):lft (yjw p v t) (mvI I v) v y<=lft p I v y:=by
 have hne:y≠v:=fun e=>by subst e;exact hr _ hy
 have hIv:¬mvI I v v:=fun q=>q.2 rfl;have hIy:mvI I v y↔I y:=⟨fun q=>q.1,fun q=>⟨q,hne⟩⟩;have keep:Mt p y->Mt (yjw p v t) y:=yve hm;rw[ylz,ylz,set_self,ydw hne];cases hm with
 | accept u q1 q2 q3 =>
   refine ycgh (fun⟨a,_⟩=>by rw[q1]at a;cases a) (fun _ b=>?_) (fun _ nb c=>?_)
   .rcases b with⟨b,_⟩|⟨b1,b2⟩
    .rw[q1]at b;cases b
    .exact .inr (.inl (.inr ⟨b1,fun q=>b2 (hIy.1 q)⟩))
   .by_cases e:u=y
    .subst e;exact .inl ⟨rfl,q3⟩
    .refine .inr ⟨?_,.inl ?_⟩
     .rintro(⟨b,_⟩|⟨b1,b2⟩)
      .cases b;exact e rfl
      .exact nb (.inr ⟨b1,fun q=>b2 (hIy.2 q)⟩)
     .have hnu:u≠v:=fun e=>by subst e;exact hr _ q2
      exact⟨u,set_self,by rw[ydw hnu];exact q3⟩
 | propose u q1 q2 q3 q4 =>
   refine ycgh (fun⟨a,_⟩=>by rw[q1]at a;cases a) (fun _ b=>?_) (fun _ nb c=>?_)
   .rcases b with⟨b,_⟩|⟨b1,_⟩
    .rw[q1]at b;cases b
    .exact absurd b1 (q4 y hy)
   .right
    have my:Mt p y:=by
     rcases c with⟨z,c,_⟩|c
     .rw[q1]at c;cases c
     .exact c
    refine⟨?_,.inr (keep my)⟩;rintro(⟨b,_⟩|⟨b1,_⟩)
    .cases b
     obtain⟨z,c1,_⟩:=my;rw[q3]at c1;cases c1
    .exact q4 y hy b1
 | withdraw u w q1 q2 q3 =>
   refine ycgh (fun⟨a,a2⟩=>?_) (fun _ b=>?_) (fun _ nb c=>?_)
   .rw[q1]at a;cases a;rw[q2]at a2;cases a2;exact absurd rfl q3
   .rcases b with⟨b1,b2⟩|⟨b1,b2⟩
    .rw[q1]at b1;cases b1
     rcases hi.fresh v y q1 b2 with q|q|q
     .rw[q2]at q;cases q
     .rw[q2]at q;cases q;exact absurd rfl q3
     .exact .inr (.inr (.inr (keep q)))
    .exact .inr (.inl (.inr ⟨b1,fun q=>b2 (hIy.1 q)⟩))
   .right
    have my:Mt p y:=by
     rcases c with⟨z,c1,c2⟩|c
     .rw[q1]at c1;cases c1;rw[q2]at c2;cases c2;exact absurd rfl q3
     .exact c
    refine⟨?_,.inr (keep my)⟩;rintro(⟨b,_⟩|⟨b1,b2⟩)
    .cases b
    .exact nb (.inr ⟨b1,fun q=>b2 (hIy.2 q)⟩)
theorem ybli(hi:PtI g p I)(hm:Mv g p v t)(hr:∀u,¬adj g u u)(hs:∀u w,adj g u w->adj g w u){x y:Nat}(hxy:adj g x y):lft (yjw p v t) (mvI I v) x y<=lft p I x y:=by
 by_cases ex:x=v
 .subst ex;exact ybma hi hm hr hs hxy
 .by_cases ey:y=v
  .subst ey;rw[ysg,ysg p I x y];exact ybma hi hm hr hs (hs _ _ hxy)
  .rw[ylz,ylz,ydw ex,ydw ey];have ix:mvI I v x↔I x:=⟨fun q=>q.1,fun q=>⟨q,ex⟩⟩;have iy:mvI I v y↔I y:=⟨fun q=>q.1,fun q=>⟨q,ey⟩⟩;rw[ix,iy];exact ycgh (fun a=>a) (fun _ b=>.inr (.inl b)) (fun _ nb c=>.inr ⟨nb,c.imp (yve hm) (yve hm)⟩)
theorem ycjs(hi:PtI g p I)(hm:Mv g p v t)(hr:∀u,¬adj g u u)(hs:∀u w,adj g u w->adj g w u) :
 (∃u,adj g v u/\lft (yjw p v t) (mvI I v) v u+1<=lft p I v u)\/(I v/\p v≠none):=by
 have hIv:¬mvI I v v:=fun q=>q.2 rfl;cases hm with
 | accept u q1 q2 q3 =>
   left
   have hnu:u≠v:=fun e=>by subst e;exact hr _ q2
   refine⟨u,q2,?_⟩;rw[ylz,ylz,set_self,ydw hnu];unfold lv;rw[if_pos ⟨rfl,q3⟩,if_neg (fun⟨a,_⟩=>by rw[q1]at a;cases a)]
   split
   .omega
   .rw[if_neg]
    .omega
    .rintro(⟨z,c,_⟩|⟨z,c1,c2⟩)
     .rw[q1]at c;cases c
     .rw[q3]at c1;cases c1;rw[q1]at c2;cases c2
 | propose u q1 q2 q3 q4 =>
   left
   have hnu:u≠v:=fun e=>by subst e;exact hr _ q2
   refine⟨u,q2,?_⟩;rw[ylz,ylz,set_self,ydw hnu];unfold lv;rw[if_neg (fun⟨_,a⟩=>by rw[q3]at a;cases a),if_pos (.inl ⟨rfl,hIv⟩),if_neg (fun⟨a,_⟩=>by rw[q1]at a;cases a),if_neg,if_neg]
   .omega
   .rintro(⟨z,c,_⟩|⟨z,c,_⟩)
    .rw[q1]at c;cases c
    .rw[q3]at c;cases c
   .rintro(⟨b,_⟩|⟨b,_⟩)
    .rw[q1]at b;cases b
    .rw[q3]at b;cases b
 | withdraw u w q1 q2 q3 =>
   by_cases hI:I v
   .right;exact⟨hI,by rw[q1];simp⟩
   .left
    have huv:=hi.nb v u q1;have hnu:u≠v:=fun e=>by subst e;exact hr _ huv
    refine⟨u,huv,?_⟩
    have mu:Mt p u:=by
     rcases hi.fresh v u q1 hI with q|q|q
     .rw[q2]at q;cases q
     .rw[q2]at q;cases q;exact absurd rfl q3
     .exact q
    have hm:Mv g p v none:=.withdraw u w q1 q2 q3;rw[ylz,ylz,set_self,ydw hnu];unfold lv;rw[if_neg (fun⟨a,_⟩=>by cases a),if_neg,if_pos (.inr (yve hm mu)),if_neg (fun⟨_,a⟩=>by rw[q2]at a;cases a;exact q3 rfl),if_pos (.inl ⟨q1,hI⟩)]
    .omega
    .rintro(⟨b,_⟩|⟨b,_⟩)
     .cases b
     .rw[q2]at b;cases b;exact q3 rfl
end
theorem yrh{α:Type}(f h:α->Nat):∀(l:List α),(∀x∈l,f x<=h x)->(l.map f).sum<=(l.map h).sum
 |[],_=>zJ _
 | x::l,hl=>by
   have h1:=hl x zG;have h2:=yrh f h l fun y hy=>hl y (zD _ hy);simp only[zN,zAH];omega
theorem sum_lt{α:Type}(f h:α->Nat):∀(l:List α),(∀x∈l,f x<=h x)->(∃x∈l,f x+1<=h x)->(l.map f).sum+1<=(l.map h).sum
 |[],_,⟨x,hx,_⟩=>absurd hx zAX
 | x :: l,hl,⟨y,hy,e⟩=>by
   have h1:=hl x zG;simp only[zN,zAH];rcases List.mem_cons.1 hy with rfl|hy
   .have h2:=yrh f h l fun y hy=>hl y (zD _ hy);omega
   .have h2:=sum_lt f h l (fun y hy=>hl y (zD _ hy)) ⟨y,hy,e⟩;omega
theorem ydha(f h:Nat->Nat)(l:List Nat)(hl:∀x∈l,f x<=h x){a b:Nat}(ha:a∈l)(hb:b∈l)(hab:a≠b)(e1:f a+1<=h a)(e2:f b+1<=h b):(l.map f).sum+2<=(l.map h).sum:=by
 have s1:=sum_lt f (fun x=>if x=a then h a-1 else h x) l (fun x hx=>by
  show f x<=if x=a then h a-1 else h x
  by_cases e:x=a
  .rw[if_pos e,e];omega
  .rw[if_neg e];exact hl x hx) ⟨b,hb,by
  show f b+1<=if b=a then h a-1 else h b
  rw[if_neg (fun e=>hab e.symm)];exact e2⟩
 have s2:=sum_lt (fun x=>if x=a then h a-1 else h x) h l (fun x hx=>by
  show(if x=a then h a-1 else h x)<=h x
  by_cases e:x=a
  .rw[if_pos e,e];omega
  .rw[if_neg e];exact zJ _) ⟨a,ha,by
  show(if a=a then h a-1 else h a)+1<=h a
  rw[if_pos rfl];omega⟩
 omega
open Classical in
noncomputable def oldN(g:Gr)(p:Ptr)(I:Nat->Prop):Nat:=((zO g.ports.length).map fun x=>if I x/\p x≠none then 1 else 0).sum
open Classical in
noncomputable def lftN(g:Gr)(p:Ptr)(I:Nat->Prop):Nat:=((zO g.ports.length).map fun x=>((g.ports.getD x []).map fun l=>lft p I x l.1.toNat).sum).sum
open Classical in
theorem ycgc{g:Gr}(hg:ybg g){p:Ptr}{I:Nat->Prop}{v:Nat}{t:Option Nat}(hv:v<g.ports.length)(hi:PtI g p I)(hm:Mv g p v t) :
 2*oldN g (yjw p v t) (mvI I v)+lftN g (yjw p v t) (mvI I v)+2<=2*oldN g p I+lftN g p I:=by
 have hs:∀u w,adj g u w->adj g w u:=fun u w h=>hg.adj_symm h
 have hr:∀u,¬adj g u u:=fun u h=>by
  obtain⟨hu,_⟩:=hg.adj_lt h;obtain⟨l,hl,e⟩:=yhj.1 h;have e3:g.ports[u]?=some (g.ports.getD u []):=by simp[zF,hu]
  exact(hg.link e3 hl).2.2.1 e
 have old:∀x∈zO g.ports.length,(fun x=>if mvI I v x/\yjw p v t x≠none then 1 else 0) x<=(fun x=>if I x/\p x≠none then 1 else 0) x:=fun x _=>by
  show(if mvI I v x/\yjw p v t x≠none then 1 else 0)<=if I x/\p x≠none then 1 else 0
  by_cases e:x=v
  .rw[if_neg (fun q=>q.1.2 e)];exact zL _
  .rw[ydw e]
   by_cases q:I x/\p x≠none
   .rw[if_pos q];split<;>omega
   .rw[if_neg q,if_neg (fun r=>q ⟨r.1.1,r.2⟩)];exact zJ _
 have row:∀x∈zO g.ports.length,(fun x=>((g.ports.getD x []).map fun l=>lft (yjw p v t) (mvI I v) x l.1.toNat).sum) x<=(fun x=>((g.ports.getD x []).map fun l=>lft p I x l.1.toNat).sum) x:=fun x hx =>
  yrh _ _ _ fun l hl=>ybli hi hm hr hs (ydl hg (List.mem_range.1 hx) hl).2.2.1
 have o:=yrh _ _ _ old;have r:=yrh _ _ _ row;unfold oldN lftN;rcases ycjs hi hm hr hs with⟨u,hu,e⟩|⟨h1,h2⟩
 .have hul:=(hg.adj_lt hu).2;have hne:v≠u:=fun q=>by subst q;exact hr _ hu
  have strict:∀a b,adj g a b->lft (yjw p v t) (mvI I v) a b+1<=lft p I a b->(fun x=>((g.ports.getD x []).map fun l=>lft (yjw p v t) (mvI I v) x l.1.toNat).sum) a+1<=(fun x=>((g.ports.getD x []).map fun l=>lft p I x l.1.toNat).sum) a:=fun a b hab he=>by
   obtain⟨l,hl,el⟩:=yto hab;exact sum_lt _ _ _ (fun l' hl'=>ybli hi hm hr hs (ydl hg (hg.adj_lt hab).1 hl').2.2.1) ⟨l,hl,by rw[el];exact he⟩
  have:=ydha _ _ _ row (List.mem_range.2 hv) (List.mem_range.2 hul) hne (strict v u hu e) (strict u v (hs _ _ hu) (by rw[ysg,ysg p I u v];exact e))
  omega
 .have:=sum_lt _ _ _ old ⟨v,List.mem_range.2 hv,by
   show(if mvI I v v/\yjw p v t v≠none then 1 else 0)+1<=if I v/\p v≠none then 1 else 0
   rw[if_neg (fun q=>q.1.2 rfl),if_pos ⟨h1,h2⟩];exact zJ _⟩
  omega
end
section
section
variable {g:Gr}{p:Ptr}{I:Nat->Prop}{v w:Nat}{t t':Option Nat}
theorem ychv(hi:PtI g p I)(hw:Mv g p w t')(hne:w≠v)(hna:¬adj g w v):Mv g (yjw p v t) w t':=by
 have nb:∀u,adj g w u->u≠v:=fun u hu e=>hna (by rw[<-e];exact hu)
 cases hw with
 |accept u q1 q2 q3=>exact .accept u (by rw[ydw hne];exact q1) q2 (by rw[ydw (nb u q2)];exact q3)
 |propose u q1 q2 q3 q4=>exact .propose u (by rw[ydw hne];exact q1) q2 (by rw[ydw (nb u q2)];exact q3) fun x hx=>by rw[ydw (nb x hx)];exact q4 x hx
 |withdraw u x q1 q2 q3=>exact .withdraw u x (by rw[ydw hne];exact q1) (by rw[ydw (nb u (hi.nb w u q1))];exact q2) q3
noncomputable def potN(g:Gr)(p:Ptr)(I:Nat->Prop):Nat:=2*oldN g p I+lftN g p I
theorem ybdt(hg:ybg g)(t:Nat->Option Nat):∀(vs:List Nat) (p:Ptr) (I:Nat->Prop),PtI g p I->vs.Nodup->(∀v∈vs,v<g.ports.length)->(∀v∈vs,∀w∈vs,¬adj g v w)->(∀v∈vs,Mv g p v (t v)) ->
 ∃I',PtI g (fun x=>if x∈vs then t x else p x) I'/\potN g (fun x=>if x∈vs then t x else p x) I'+2*vs.length<=potN g p I
 |[],p,I,hi,_,_,_,_=>⟨I,by simpa using hi,by simp⟩
 | v :: vs,p,I,hi,hn,hl,ha,hm=>by
   have hn:=List.nodup_cons.1 hn;have hs:∀u w,adj g u w->adj g w u:=fun u w h=>hg.adj_symm h
   have hr:∀u,¬adj g u u:=fun u h=>by
    obtain⟨hu,_⟩:=hg.adj_lt h;obtain⟨l,hl,e⟩:=yhj.1 h;have e3:g.ports[u]?=some (g.ports.getD u []):=by simp[zF,hu]
    exact(hg.link e3 hl).2.2.1 e
   have m1:=hm v zG;have step:=ycgc hg (hl v zG) hi m1;have inv:=ydxq hi m1 hs hr
   obtain⟨I',h1,h2⟩:=ybdt hg t vs (yjw p v (t v)) (mvI I v) inv hn.2 (fun w hw=>hl w (zD _ hw)) (fun w hw x hx=>ha w (zD _ hw) x (zD _ hx)) (fun w hw =>
    ychv hi (hm w (zD _ hw)) (fun e=>hn.1 (e▸hw)) (ha w (zD _ hw) v zG))
   have e:(fun x=>if x∈v::vs then t x else p x)=fun x=>if x∈vs then t x else yjw p v (t v) x:=by
    funext x
    by_cases q:x∈vs
    .rw[if_pos (zD _ q),if_pos q]
    .rw[if_neg q]
     by_cases q2:x=v
     .subst q2;rw[if_pos zG,set_self]
     .rw[if_neg (fun h=>by rcases List.mem_cons.1 h with h|h<;>contradiction),ydw q2]
   rw[e];refine⟨I',h1,?_⟩;unfold potN at *;simp only[zY];omega
theorem ykl{α:Type}(f:α->Nat)(k:Nat):∀(l:List α),(∀x∈l,f x<=k)->(l.map f).sum<=k*l.length
 |[],_=>zL _
 | x::l,h=>by
   have h1:=h x zG;have h2:=ykl f k l fun y hy=>h y (zD _ hy);simp only[zN,zAH,zY,zBE,Nat.mul_one];omega
theorem yqq{α:Type}(f h:α->Nat)(k:Nat):∀(l:List α),(∀x∈l,f x<=k*h x)->(l.map f).sum<=k*(l.map h).sum
 |[],_=>zL _
 | x::l,hl=>by
   have h1:=hl x zG;have h2:=yqq f h k l fun y hy=>hl y (zD _ hy);simp only[zN,zAH,zBE];omega
open Classical in
theorem ybxa(g:Gr)(p:Ptr)(I:Nat->Prop):potN g p I<=2*g.ports.length+2*yfg g:=by
 have h1:oldN g p I<=1*(zO g.ports.length).length:=ykl _ 1 _ fun x _=>by
  show(if I x/\p x≠none then 1 else 0)<=1
  split<;>omega
 have h2:lftN g p I<=2*((zO g.ports.length).map fun x=>(g.ports.getD x []).length).sum:=yqq _ _ 2 _ fun x _ =>
  ykl _ 2 _ fun l _=>ydnv p I x l.1.toNat
 have e:(zO g.ports.length).map (fun x=>(g.ports.getD x []).length)=g.ports.map zBD:=by
  refine zAW (by simp) fun i a b=>?_
  have hi:i<g.ports.length:=by simpa using b
  simp[zF,hi]
 rw[e]at h2;rw[List.length_range]at h1;unfold potN yfg;omega
end
end
section
end
section
section
variable {g:Gr}{a b u v w x:Nat}
theorem ybhl(hg:ybg g)(hv:v<g.ports.length):((g.ports.getD v []).map (·.1)).Nodup:=by
 have h:=(hg.2.2.2.2.2.1 ⟨v,hv⟩).2;have e0:g.ports[v]=g.ports.getD v []:=by rw[Sh.getD_at hv]
 have h:((g.ports[v]).map (·.1)).Nodup:=h
 rwa [e0]at h
end
end
section
def ynq:Ex:=.bin 35 (eQ 0) (.leaf 17 0)
def ymy:Ex:=.bin 35 (eQ 0) ybcl
def ybfh:Ex:=.bin 41 (.bin 41 (.bin 35 (.leaf 11 0) (eVar 0)) (.bin 36 (eQ 0) ybcl)) (.bin 36 (eQ 0) (.leaf 17 0))
def ybs(nm p a b w:ByteArray):ProgT:=⟨nm,[⟨p,3,0,0,0,0⟩],[⟨a,.bin 41 (.bin 35 (eVar 0) ybcl) (.agg 21 ynq),[(0,.agg 23 ynq)]⟩,⟨b,.bin 41 (.bin 35 (eVar 0) ybcl) (.agg 21 ymy),[(0,.agg 23 ymy)]⟩,⟨w,.agg 21 ybfh,[(0,ybcl)]⟩]⟩
theorem yzu{α:Type}(f:α->Bool)(ls:List α):countP (ls.map fun l=>ybz (f l))=((ls.filter f).length:Int):=by
 unfold countP
 induction ls with
 |nil=>rfl
 | cons l ls ih =>
   cases h:f l with
   | false =>
     rw[zN,zZ,zZ,h];have e:((ybz false != 0)=true)=False:=by simp[ybz]
     simp only[e,if_false,zAP];exact ih
   | true =>
     rw[zN,zZ,zZ,h];have e:((ybz true != 0)=true)=True:=by simp[ybz]
     simp only[e,if_true,zY];omega
theorem yxc{α:Type}(f:α->Bool)(ls:List α):yhv 21 (ls.map fun l=>ybz (f l))=ybz (ls.any f):=by
 show ybz (decide (countP _>0))=_;rw[yzu];congr 1;rw[Bool.eq_iff_iff,decide_eq_true_iff,List.any_eq_true];constructor
 .intro h;obtain⟨l,hl⟩:=List.exists_mem_of_length_pos (show 0<(ls.filter f).length by omega)
  exact⟨l,(List.mem_filter.1 hl).1,(List.mem_filter.1 hl).2⟩
 .rintro⟨l,hl,hf⟩;have:=zAL (List.mem_filter.2 ⟨hl,hf⟩);omega
def pAt(c:Conf)(v:Nat):Int:=(c.getD v []).getD 0 0
def toP(g:Gr)(c:Conf):Ptr:=fun v=>if v<g.ports.length/\0<=pAt c v then some ((g.ports.getD v []).getD (pAt c v).toNat (0,0)).1.toNat else none
def yqz(g:Gr)(c:Conf)(v:Nat)(l:Int×Int):Bool:=endP c 0 l==yig (g.ports.getD l.1.toNat []) v
def yqg(c:Conf)(l:Int×Int):Bool:=endP c 0 l == -1
structure MtC(g:Gr)(c:Conf):Prop where
 len:c.length=g.ids.length
 row:∀v,v<g.ids.length->(c.getD v []).length=1/\(-1<=pAt c v/\pAt c v<(g.ports.getD v []).length)
section
variable {nm np na nb nw:ByteArray}{g:Gr}{c:Conf}{u v s:Nat}
theorem ybav(hc:yfs (ybs nm np na nb nw) g c=true):MtC g c:=by
 have h:=(yft _ _ _).1 hc;refine⟨h.1,fun v hv=>?_⟩;have hlt:v<c.length:=by rw[h.1];exact hv
 have e:c.getD v []=c[v]:=by simp[zF,hlt]
 have h2:=h.2 v _ (zB hlt);unfold pAt;rw[e];have hl:c[v].length=1:=h2.1;have a0:(ybm g v ⟨np,3,0,0,0,0⟩).1<=c[v][0]/\c[v][0]<=(ybm g v ⟨np,3,0,0,0,0⟩).2:=h2.2 0 _ _ rfl (zB (by omega))
 have e0:c[v].getD 0 0=c[v][0]:=by simp[zF,hl]
 rw[e0];rw[bT3]at a0;simp only at a0;exact⟨hl,by omega,by omega⟩
theorem yss(hg:ybg g)(h:MtC g c)(hv:v<g.ports.length){l:Int×Int}(hl:l∈g.ports.getD v []):yqz g c v l=true↔toP g c l.1.toNat=some v:=by
 obtain⟨h1,h2,_⟩:=ydl hg hv hl;have hpl:=hg.2.2.1;have hn:=ybhl hg h2
 have hb:((v:Int),l.2)∈g.ports.getD l.1.toNat []:=by
  have:=hg.2.2.2.2.2.2 ⟨v,hv⟩ l (by show l∈g.ports[v];rw[<-Sh.getD_at hv (d:=[])];exact hl)
  exact this
 obtain⟨k,e1,e2⟩:=ybax hn hb;obtain⟨hk,ek⟩:=List.getElem?_eq_some_iff.1 e2;have hrow:=(h.row l.1.toNat (by omega)).2
 unfold yqz toP;rw[beq_iff_eq,e1];have hp:endP c 0 l=pAt c l.1.toNat:=rfl;rw[hp];constructor
 .intro q;rw[q,if_pos (by omega),zI,Sh.getD_at hk,ek]
  simp
 .intro q
  by_cases q0:0<=pAt c l.1.toNat
  .rw[if_pos ⟨h2,q0⟩]at q;obtain⟨j,hj⟩:∃j:Nat,pAt c l.1.toNat=j:=zAJ q0;rw[hj,zI]at q;have hjl:j<(g.ports.getD l.1.toNat []).length:=by omega
   rw[Sh.getD_at hjl]at q;have q:=Option.some.inj q;obtain⟨m1,_⟩:=ydl hg h2 (zQ hjl);have hj':j<((g.ports.getD l.1.toNat []).map (·.1)).length:=by rw[zAC];exact hjl
   have hk':k<((g.ports.getD l.1.toNat []).map (·.1)).length:=by rw[zAC];exact hk
   have:=(List.getElem_inj (h₀:=hj') (h₁:=hk') hn).1 (by rw[zX,zX,ek];simp only;omega)
   rw[hj,this]
  .rw[if_neg (fun r=>q0 r.2)]at q;cases q
theorem ysc(hg:ybg g)(h:MtC g c)(hv:v<g.ports.length){l:Int×Int}(hl:l∈g.ports.getD v []):yqg c l=true↔toP g c l.1.toNat=none:=by
 obtain⟨h1,h2,_⟩:=ydl hg hv hl;have hrow:=(h.row l.1.toNat (by have:=hg.2.2.1;omega)).2
 unfold yqg toP;have hp:endP c 0 l=pAt c l.1.toNat:=rfl;rw[beq_iff_eq,hp];constructor
 .intro q;rw[if_neg (by omega)]
 .intro q
  by_cases q0:0<=pAt c l.1.toNat
  .rw[if_pos ⟨h2,q0⟩]at q;cases q
  .omega
theorem ybxs(hv:v<g.ports.length){q:Nat}(hq:q<(g.ports.getD v []).length):ydr g c v (.leaf 17 0) q=yig (g.ports.getD (ybt g v q).1.toNat []) v:=by
 show(yit g v).getD (q:Int).toNat 0=_;unfold yit ybt;rw[zI,zAG,zAT,zB hq,Sh.getD_at hq];rfl
theorem ybek(hv:v<g.ports.length){q:Nat}(hq:q<(g.ports.getD v []).length):ydr g c v ynq q=ybz (yqz g c v (ybt g v q)):=by
 show ybz (cmpP 35 (ydr g c v (eQ 0) q) (ydr g c v (.leaf 17 0) q))=_;rw[ybxs hv hq];rfl
end
end
section
theorem yhl{α:Type}[DecidableEq α]:∀{l1 l2:List α},l1.Nodup->(∀x∈l1,x∈l2)->l1.length<=l2.length
 |[],_,_,_=>zL _
 | a::t,l2,hn,hs=>by
   have hn:=List.nodup_cons.1 hn;have h1:=hs a zG;have:=yhl (l1:=t) (l2:=l2.erase a) hn.2 fun y hy=>(List.mem_erase_of_ne fun e=>hn.1 (by rw[<-e];exact hy)).2 (hs y (zD _ hy))
   rw[List.length_erase_of_mem h1]at this;have:=zAL h1;simp only[zY];omega
section
variable {nm nc nr:ByteArray}{g:Gr}{c:Conf}{u v s:Nat}
end
end
section
open Go.RowKit
end
section
open Go.RowKit
end
section
namespace Sh
open Ev Go.RowKit
theorem ycld{n nv:Nat}{c:Conf}(h:ConfIn n nv c):ycew c:=fun s hs x hx=>by
 have:=(h.row s hs).2 x hx;unfold InB at this;exact yhi (by omega)
end Sh
end
section
def ymf(ls:List (Int×Int))(b:Int):Bool:=ls.any fun l=>decide (l.1=b)
namespace Sh
open Ev Go.RowKit
theorem ybrg{ids:List Int}{ports:List (List (Int×Int))}{a b:Nat}(ha:a<ports.length)(hl:(ports.getD a []).length<=100000) :
 Returns zK 116 [.ag [ybc ids,yu ports],.i .i64 a,.i .i64 b] (.b (ymf (ports.getD a []) b)):=by
 refine Returns.of (ydgn _ _ ?_);obtain⟨n,hn⟩:∃n,ports.length=n:=⟨_,rfl⟩;obtain⟨L,hL⟩:∃L,ports.getD a []=L:=⟨_,rfl⟩;rw[hL]at hl ⊢;obtain⟨m,hm⟩:∃m,L.length=m:=⟨_,rfl⟩;simp only[c116,ycqr,ycxy,go_sem,zH,zM,↓reduceIte];refine ybf (σ:=Nat) (fun k=>⟨[(7,.i .i64 k),(3,.pt (3,0) 0 0),(1,.i .i64 a),(2,.i .i64 b)],[(3,.one (some ⟨27,true,2,1,fun _=>[ybc ids,yu ports]⟩))]⟩) (fun k=>k<=m/\∀j,j<k->(L.getD j (0,0)).1≠b) (fun k=>m-k) 0 ⟨zL _,fun j hj=>absurd hj (Nat.not_lt_zero j)⟩ ?_ ?_
 .refine yh [] [] [] ?_;simp only[go_sem,allQ,live,yc,zW,go_sem,zC,zM,↓reduceIte,reduceCtorEq]
 .rintro k ⟨hk,hno⟩;simp only[ycte,ycna,ycok,ycxm,yctj,yu,ybb,hn,hL,hm,go_sem,zC,zH,zAV,↓reduceIte,reduceCtorEq];refine⟨⟨by omega,by omega⟩,fun hlt=>⟨⟨by omega,by omega⟩,⟨by omega,by omega⟩,fun he=>?_,fun hne=>⟨ikw (by omega) (by omega),?_⟩⟩,fun hge=>?_⟩
  .have hk':k<L.length:=by omega
   have:ymf L b=true:=List.any_eq_true.2 ⟨L[k],zQ _,by rw[getD_at hk']at he;exact decide_eq_true he⟩
   rw[this];exact Sim.refl _
  .refine yj (k+1) ⟨by omega,fun j hj=>?_⟩ (by omega) ?_
   .by_cases q:j=k
    .rw[q];exact hne
    .exact hno j (by omega)
   refine yh [] [] [] ?_;simp only[allQ,live,yc,yx,go_sem,zC,zM,↓reduceIte,reduceCtorEq];omega
  .have:ymf L b=false:=List.any_eq_false.2 fun l hl he=>by
    obtain⟨j,hj,rfl⟩:=zU hl;have:=hno j (by omega)
    rw[getD_at hj]at this;exact this (of_decide_eq_true he)
   rw[this];exact Sim.refl _
end Sh
end
section
namespace Sh
open Go Ev
theorem Cm.weak {P:Program}{g:FuncId}{o:Own}{args:List SV}{Q R:SV->Own->Prop}(h:Cm P g [] o args Q)
 (hq:∀r o',Q r o'->∃r2 o2,Weak [] ⟨[(0,r)],o'⟩ ⟨[(0,r2)],o2⟩/\(cln (live o2) 5 r2=true/\allQ (fun p=>yby (live o2) p.2) o2)/\R r2 o2):Cm P g [] o args R:=by
 intro lo G ω f m us hc hargs;obtain⟨v,m1,r,o',F',ω',s0,t2,hrv,l1,l2,_,_,hQ⟩:=h lo G ω f m us hc hargs;obtain⟨r2,o2,hw,hcl,hR⟩:=hq r o' hQ
 have t3:Conc lo F' ω' ⟨[(0,r)],o'⟩ ⟨1,tOf [v]⟩ m1:=⟨t2.wf,t2.low,t2.nxt,t2.sub,t2.own,t2.dom,t2.inj,t2.apart,fun t x hx=>by
  unfold look at hx;split at hx
  .rename_i e
   cases hx
   exact⟨v,by rw[ydf];simp[<-e],hrv⟩
  .cases hx⟩
 obtain⟨ω2,F2,k1,k2,k3,_⟩:=hw lo F' ω' _ m1 t3;obtain⟨u,q1,q2⟩:=k3.fr 0 r2 rfl
 have e:u=v:=by
  rw[ydf]at q1
  simpa using q1.symm
 subst e
 exact⟨u,m1,r2,o2,F2,ω2,s0,⟨k3.wf,k3.low,k3.nxt,k3.sub,k3.own,k3.dom,k3.inj,k3.apart,fun t x hx=>(by cases hx)⟩,q2,fun x b hx=>k1 x b (l1 x b hx),fun x b hx=>by
  rcases k2 x b hx with z|z
  .exact l2 x b z
  .exact .inr z,fun β hβ=>absurd hβ zAX,⟨hcl.1,hcl.2,trivial⟩,hR⟩
end Sh
end
end Go.Proofs.YthclbjjgfcgbgaaGreatDoor
