/- Joined. -/
import Derived.Test.YthclbjjgfcgbgaaGreatDoorPkCh11
set_option linter.unusedSimpArgs false
set_option linter.unusedVariables false
set_option maxRecDepth 8000
open Nat renaming reduceEqDiff->zA,reduceAdd->zB,reduceLT->zH,le_refl->zL,zero_le->zN,reduceLeDiff->zAG,mul_le_mul->zAM
open Go.Lib renaming hid->zC
open Go.Proofs.Tryz renaming prog->zD,func131->zT,ntmps131->zV,func121->zAB,zeroCells241->zAD,func89->zAE,ntmps121->zAN,ntmps89->zAO
open List renaming take_succ_eq_append_getElem->zF,getElem?_eq_getElem->zG,getD_eq_getElem?_getD->zI,getElem_mem->zK,getD->zM,take_of_length_le->zO,mem_cons_self->zU,foldl_append->zW,findIdx?_eq_none_iff->zX,getElem?_eq_none->zY,mem_cons_of_mem->zZ,mem_of_getElem?->zAA,length_append->zAC,take_length->zAF,length_drop->zAH,elem_eq_mem->zAI,range->zAJ
open Int renaming natCast_zero->zJ,eq_ofNat_of_zero_le->zS,reduceToNat->zAK,natAbs_mul->zAL
open Bool renaming and_eq_true->zQ
open Go
namespace Go.Proofs.YthclbjjgfcgbgaaGreatDoor
section
open Go.RowKit
theorem ybbj:zAD=Array.replicate 256 (.bool false):=by kernel_rfl
def Seen(w:World)(g:Nat)(S:List Int):Prop:=∃cur,w.heap[g]?=some (.cells cur 241 (0,0))/\cur.size=256/\∀i:Nat,i<256->cur[i]?=some (.bool (decide ((i:Int)∈S)))
theorem Seen.cell{w:World}{g:Nat}{S:List Int}(h:Seen w g S){i:Nat}(hi:i<256):w.cell? ⟨g,i,none⟩=some (.bool (decide ((i:Int)∈S))):=by
 obtain⟨cur,h1,h2,h3⟩:=h;simp[World.cell?,h1,h3 i hi]
theorem Seen.frozen{w:World}{g:Nat}{S:List Int}(h:Seen w g S)(i:Nat):w.frozen? ⟨g,i,none⟩=false:=by
 obtain⟨cur,h1,h2,h3⟩:=h;simp[World.frozen?,h1]
theorem Seen.set_{w:World}{g:Nat}{S:List Int}(h:Seen w g S){i:Nat}:Seen (w.setCell ⟨g,i,none⟩ (.bool true)) g (S++[(i:Int)]):=by
 obtain⟨cur,h1,h2,h3⟩:=h;refine⟨cur.setIfInBounds i (.bool true),by simp[World.setCell,Array.getElem?_modify,h1],by simp[h2],fun j hj=>?_⟩
 rw[Array.getElem?_setIfInBounds];split
 .subst_vars
  rw[if_pos (by omega)]
  simp
 .rw[h3 j hj];congr 3;simp;omega
theorem Seen.start(w:World):Seen (w.alloc (.cells zAD 241)) w.heap.size []:=by
 refine⟨_,heap_alloc_new w _,by rw[ybbj];simp,fun i hi=>?_⟩
 rw[ybbj];simp[hi]
def ybha(ids:List Int):Bool:=decide ((∀x∈ids,0<=x/\x<=255)/\ids.Nodup)
def ysn(ids:List Int)(k:Nat):Prop:=(∀x∈ids.take k,0<=x/\x<=255)/\(ids.take k).Nodup
theorem yccb{ids:List Int}{k:Nat}(hk:k<ids.length):ysn ids (k+1)↔ysn ids k/\(0<=ids[k]/\ids[k]<=255)/\ids[k]∉ids.take k:=by
 unfold ysn;rw[take_snoc ids k hk,List.nodup_append];constructor
 .rintro⟨h1,h2,_,h3⟩;exact⟨⟨fun x hx=>h1 x (List.mem_append_left _ hx),h2⟩,h1 _ (List.mem_append_right _ (by simp)),fun hm=>h3 _ hm _ (by simp) rfl⟩
 .rintro⟨⟨h1,h2⟩,h3,h4⟩;refine⟨fun x hx=>?_,h2,by simp,fun a ha b hb e=>?_⟩
  .rcases List.mem_append.1 hx with hx|hx
   .exact h1 x hx
   .simp at hx;subst hx;exact h3
  .simp at hb;subst hb e;exact h4 ha
theorem ybhc{ids:List Int}{k:Nat}(h:¬ysn ids k):ybha ids=false:=by
 unfold ybha;rw[decide_eq_false_iff_not];exact fun hd=>h ⟨fun x hx=>hd.1 x (List.mem_of_mem_take hx),hd.2.sublist (List.take_sublist _ _)⟩
theorem ybqa{ids:List Int}(h:ysn ids ids.length):ybha ids=true:=by
 unfold ysn at h;rw[zAF]at h;exact decide_eq_true h
set_option maxRecDepth 100000 in
set_option maxHeartbeats 1000000 in
theorem yro(iv:Value)(ids:List Int)(w:World)(hi:ymz w iv ids) :
 Calls zD 174 #[iv] w fun e w'=>e = .returned (.bool (ybha ids))/\Below w.heap.size w w':=by
 obtain⟨A,c,rfl,hA1,hA2⟩:=ybx hi;have Hi:=zC hi
 clear hi
 go_enter Tryz.func174,Tryz.ntmps174
 go_wp2
 go_loopg [8] ids.length (fun q t wr=>∃k:Nat,q+k=ids.length/\t = .int .i64 k/\Hid (Below w.heap.size w wr)/\Hid (Seen wr w.heap.size (ids.take k))/\Hid (ysn ids k))
 case atStart=>exact⟨0,by omega,rfl,zC ((Below.refl _ _).alloc (zL _) _),zC (Seen.start w),zC ⟨by simp,by simp⟩⟩
 case round =>
  obtain⟨k,hq,rfl,hbel,hseen,hok⟩:=hrel
  by_cases hlt:k<ids.length
  .obtain⟨b,off,rfl,hb,hcid,hr⟩:=yng (Hi.out.below Stable.int hbel.out) hlt;obtain⟨x,hx⟩:∃x,ids[k]=x:=⟨_,rfl⟩;have Hsn:=zC (yccb hlt);rw[hx]at hcid hr Hsn;obtain⟨hr1,hr2⟩:=hr;have Hbad:=zC (fun h=>ybhc (ids:=ids) (k:=k+1) h);have Hts:=zC (take_snoc ids k hlt);rw[hx]at Hts
   clear hx
   by_cases c1:0<=x/\x<=255
   .obtain⟨c1a,c1b⟩:=c1;obtain⟨n,rfl⟩:=zS c1a;have hcs:=hseen.out.cell (i:=n) (by omega)
    have hfs:=hseen.out.frozen n
    by_cases c2:(n:Int)∈ids.take k
    .rw[decide_eq_true c2]at hcs;have Hf:=zC (Hbad.out (fun h=>(Hsn.out.1 h).2.2 c2))
     clear c2
     go_wp2
     go_ret
     exact⟨ybs Hf.out.symm,hbel.out⟩
    .rw[decide_eq_false c2]at hcs;have Hn:=zC (Hsn.out.2 ⟨hok.out,⟨by omega,by omega⟩,c2⟩)
     clear c2
     go_wp2
     go_roundg (gk-1)
     case measure=>omega
     case rel =>
      refine⟨k+1,by omega,by go_num,zC (hbel.out.setCell (zL _) _),zC ?_,Hn⟩
      rw[Hts.out];exact hseen.out.set_
   .have Hf:=zC (Hbad.out (fun h=>c1 (Hsn.out.1 h).2.1))
    by_cases c3:x<0
    .clear c1
     go_wp2
     go_ret
     exact⟨ybs Hf.out.symm,hbel.out⟩
    .have c4:255<x:=by omega
     clear c1
     go_wp2
     go_ret
     exact⟨ybs Hf.out.symm,hbel.out⟩
  .obtain rfl:k=ids.length:=by omega
   have Ht:=zC (ybqa hok.out)
   go_wp2
   go_ret
   exact⟨ybs Ht.out.symm,hbel.out⟩
theorem ycet(g:Gr)(h1:1<=g.ids.length)(h2:g.ids.length<=24)(h3:g.ports.length=g.ids.length):yhc g=(ybha g.ids&&symB g.ports):=by
 unfold yhc ybha symB;rw[<-Bool.decide_and];congr 1;apply propext;unfold ybj ychu;constructor
 .rintro⟨_,_,_,h4,h5,h6,h7⟩;exact⟨⟨h4,h5⟩,h6,h7⟩
 .rintro⟨⟨h4,h5⟩,h6,h7⟩;exact⟨by omega,by omega,by omega,h4,h5,h6,h7⟩
set_option maxHeartbeats 1000000 in
theorem ysu(gv:Value)(g:Gr)(w:World)(hg:GrAt w gv g) :
 Calls zD 131 #[gv] w fun e w'=>e = .returned (.bool (yhc g))/\Below w.heap.size w w':=by
 obtain⟨i,p,rfl,hi,hp⟩:=hg;obtain⟨A,c,rfl,hA1,hA2⟩:=ybx hi;obtain⟨A2,c2,rfl,hB1,hB2⟩:=ybx hp;have Hi:=zC hi;have Hp:=zC hp
 clear hi hp
 by_cases n1:1<=g.ids.length
 .by_cases n2:g.ids.length<=24
  .by_cases n3:g.ports.length=g.ids.length
   .have n3':((g.ports.length:Int)!=(g.ids.length:Int))=false:=by simp[n3]
    have He:=zC (ycet g n1 n2 n3);have n3a:g.ports.length<=24:=by omega
    clear n3
    go_enter zT,zV
    go_wp2_with fail
    refine(yro _ g.ids _ (Hi.out.below Stable.int ((Below.refl _ _).alloc (zL _) _))).mono ?_;rintro e w1 ⟨rfl,hb1⟩;have Hb1:=zC (ybyx hb1);obtain⟨q0,q1⟩:=ydla hb1
    clear hb1
    cases hd:ybha g.ids with
    | false =>
      have Hv:=zC (show yhc g=false by rw[He.out,hd];rfl)
      go_wp2_with fail
      go_ret
      exact⟨ybs Hv.out.symm,Hb1.out⟩
    | true =>
      have Hv:=zC (show yhc g=symB g.ports by rw[He.out,hd];rfl)
      go_wp2_with fail
      refine(ynv _ g.ports _ (Hp.out.below (Stable.sl Stable.link) Hb1.out) (by omega)).mono ?_
      rintro e w2 ⟨rfl,hb2⟩
      go_wp2_with fail
      go_ret
      exact⟨ybs Hv.out.symm,Hb1.out.trans (hb2.mono Hb1.out.size)⟩
   .have n3':((g.ports.length:Int)!=(g.ids.length:Int))=true:=by simp;omega
    have Hf:=zC (yih (g:=g) (fun h=>n3 h.2.2.symm))
    clear n3
    go_enter zT,zV
    go_wp2
    go_ret
    exact⟨ybs Hf.out.symm,(Below.refl _ _).alloc (zL _) _⟩
  .have Hf:=zC (yih (g:=g) (fun h=>n2 (by omega)))
   go_enter zT,zV
   go_wp2
   go_ret
   exact⟨ybs Hf.out.symm,(Below.refl _ _).alloc (zL _) _⟩
 .have Hf:=zC (yih (g:=g) (fun h=>n1 (by omega)))
  go_enter zT,zV
  go_wp2
  go_ret
  exact⟨ybs Hf.out.symm,(Below.refl _ _).alloc (zL _) _⟩
end
section
namespace Sh
open Go Ev Go.RowKit
theorem yiz{x:Int}(h:-4611686018427387904<=x/\x<=4611686018427387904):I64 x:=by
 unfold I64;omega
theorem ydim{g:Gr}(hg:ybj g):GrI g:=by
 obtain⟨h1,h2,h3,h4,h5,h6,h7⟩:=hg;refine⟨fun x hx=>yiz (by have:=h4 x hx;omega),fun ls hls l hl=>?_⟩
 obtain⟨v,hv,rfl⟩:=List.getElem_of_mem hls;obtain⟨a1,a2,a3,a4,a5⟩:=(h6 ⟨v,hv⟩).1 l hl;exact⟨yiz (by omega),yiz (by omega)⟩
theorem yxy{g:Gr}(hI:GrI g):Returns zD 131 [grV g] (.b (yhc g)):=by
 refine ybjw ⟨_,_,zT,rfl⟩ (fun _=>.b) (fun _=>.simple rfl) fun G m us hG hr φ M w us' hR hs hv=>?_;obtain⟨u,rfl,h1⟩:=rvl1 hr;obtain⟨u',rfl,h2⟩:=yfq hv;exact ysu u' g w (ydct hG h1 h2 hR hs hI)
end Sh
end
section
namespace Sh
open Go Ev
end Sh
end
section
structure VarR where
 name:ByteArray
 kind:Int
 lo:Int
 hi:Int
 perNode:Int
 perID:Int
theorem ybrk(ids:List Int)(k:Nat)(hk:k<ids.length):(ids.take (k+1)).foldl max 0=max ((ids.take k).foldl max 0) ids[k]:=by
 rw[take_snoc ids k hk,zW];rfl
theorem ybbw(D:List Int)(m:Int)(h:∀x∈D,x<=m):∀a:Int,a<=m->D.foldl max a<=m:=by
 induction D with
 |nil=>intro a ha;exact ha
 |cons x D ih=>intro a ha;exact ih (fun y hy=>h y (by simp[hy])) _ (Int.max_le.2 ⟨ha,h x (by simp)⟩)
theorem yuc{g:Gr}(hg:ybj g):0<=ybqu g/\ybqu g<=255:=⟨yra _ _,ybbw _ _ (fun x hx=>(hg.2.2.2.1 x hx).2) _ (by omega)⟩
end
section
abbrev Tm:=Int×Int
structure SetR where
 var:Int
 val:List Tm
structure RuleR where
 name:ByteArray
 guard:List Tm
 sets:List SetR
structure ProgR where
 name:ByteArray
 vars:List VarR
 rules:List RuleR
instance:Inhabited VarR:=⟨⟨.empty,0,0,0,0,0⟩⟩
instance:Inhabited SetR:=⟨⟨0,[]⟩⟩
instance:Inhabited RuleR:=⟨⟨.empty,[],[]⟩⟩
inductive Ex where
 |leaf (op arg:Int)
 |un (op:Int) (a:Ex)
 |agg (op:Int) (a:Ex)
 |bin (op:Int) (a b:Ex)
 |ite (c a b:Ex)
def Ex.ser:Ex->List Tm
 |.leaf op arg=>[(op,arg)]
 |.un op a=>(op,0)::a.ser
 |.agg op a=>(op,0)::a.ser
 |.bin op a b=>(op,0)::(a.ser++b.ser)
 |.ite c a b=>(43,0)::(c.ser++(a.ser++b.ser))
def satP(a:Int):Int:=max (-1073741824) (min a 1073741824)
def ygd(b:Bool):Int:=if b then 1 else 0
def yvv(a b:Int):Int:=if b=0 then 0 else if a.tmod b≠0/\(decide (a<0)≠decide (b<0))then a.tdiv b-1 else a.tdiv b
def unP(op a:Int):Int:=if op=18 then -a else ygd (a==0)
def cmpP(op a b:Int):Bool:=if op=35 then a==b else if op=36 then a != b else if op=37 then decide (a<b)else if op=38 then decide (a<=b)else if op=39 then decide (a>b)else decide (a>=b)
def binP(op a b:Int):Int :=
 if op=30 then satP (a*b)else if op=31 then satP (yvv a b)else if op=32 then(if b=0 then 0 else satP (a-b*yvv a b))else if op=33 then satP (a+b)else if op=34 then satP (a-b)
 else if op=41 then ygd (a != 0&&b != 0)else if op=42 then ygd (a != 0||b != 0)else ygd (cmpP op a b)
def countP(l:List Int):Int:=((l.filter (· != 0)).length:Int)
def yqy(l:List Int):Int:=l.foldl min 1073741824
def ydq(l:List Int):Int×Int:=l.foldl (fun p a=>if a>p.1 then(a,p.1)else(p.1,max p.2 a)) (-1073741824,-1073741824)
def yuz(l:List Int):Nat->Int->Int
 |0,r=>r
 |n+1,r=>if l.elem r then yuz l n (r+1)else r
def mexP(l:List Int):Int:=yuz l (l.length+1) 0
def ygh(l:List Int):Int:=match l.findIdx? (· != 0)with|some i=>i|none=>-1
def yje(op:Int)(l:List Int):Int :=
 if op=20 then ygd (countP l==l.length)else if op=21 then ygd (decide (countP l>0))else if op=22 then countP l else if op=23 then ygh l else if op=24 then yqy l else if op=25 then(ydq l).1
 else if op=26 then satP l.sum else if op=27 then mexP l else if op=28 then(ydq l).2 else l.headD 0
structure Sc where
 g:Gr
 c:Conf
def ydc(g:Gr)(v port:Nat):Int×Int:=(g.ports.getD v []).getD port (0,0)
def yki(g:Gr)(v:Nat):List Int:=(g.ports.getD v []).map fun l=>yly (g.ports.getD l.1.toNat []) v
def yog(g:Gr)(op:Int)(v:Nat)(port:Int):Int :=
 if op=6 then g.ids.length else if op=7 then ybqu g else if op=8 then g.ids.getD v 0 else if op=9 then((g.ports.getD v []).length:Int)else if op=10 then ygd ((v:Int)==0)else if op=11 then port
 else(let l:=ydc g v port.toNat
  if op=13 then g.ids.getD l.1.toNat 0 else if op=14 then((g.ports.getD l.1.toNat []).length:Int)else if op=15 then ygd (l.1==0)else if op=16 then l.2 else(yki g v).getD port.toNat 0)
def ysv(g:Gr)(c:Conf)(op arg:Int)(v:Nat)(port:Int):Int :=
 if op=1 then arg else if op=2 then 1 else if op=3 then 0 else if op=4 then -1 else if op=5 then(c.getD v []).getD arg.toNat 0 else if op=12 then(c.getD (ydc g v port.toNat).1.toNat []).getD arg.toNat 0
 else yog g op v port
def yfn(g:Gr)(c:Conf)(v:Nat):Ex->Int->Int
 |.leaf op arg,p=>ysv g c op arg v p
 |.un op a,p=>unP op (yfn g c v a p)
 |.agg op a,_=>yje op ((zAJ (g.ports.getD v []).length).map fun(q:Nat)=>yfn g c v a (q:Int))
 |.bin op a b,p=>binP op (yfn g c v a p) (yfn g c v b p)
 |.ite x a b,p=>if yfn g c v x p≠0 then yfn g c v a p else yfn g c v b p
def Ex.ok(nv:Int)(bnd:Bool):Ex->Bool
 |.leaf op arg=>decide (1<=op/\op<=17)&&(if op=1 then decide (0<=arg/\arg<=1073741824)else if op=5\/op=12 then decide (0<=arg/\arg<nv)else true)&&(if 11<=op then bnd else true)
 |.un op a=>decide (op=18\/op=19)&&a.ok nv bnd
 |.agg op a=>decide (20<=op/\op<=29)&&a.ok nv true
 |.bin op a b=>decide (30<=op/\op<=42)&&a.ok nv bnd&&b.ok nv bnd
 |.ite x a b=>x.ok nv bnd&&a.ok nv bnd&&b.ok nv bnd
def InB(x:Int):Prop:=-1073741824<=x/\x<=1073741824
theorem ypz(a:Int):InB (satP a):=by unfold InB satP;omega
theorem ygi(b:Bool):InB (ygd b):=by unfold InB ygd;cases b<;>simp
theorem ydum{op a:Int}(h:InB a):InB (unP op a):=by
 unfold unP;split
 .unfold InB at *;omega
 .exact ygi _
theorem ydjl(op a b:Int):InB (binP op a b):=by
 unfold binP;split;· exact ypz _
 split;· exact ypz _
 split
 .split
  .unfold InB;omega
  .exact ypz _
 split;· exact ypz _
 split;· exact ypz _
 split;· exact ygi _
 split;· exact ygi _
 exact ygi _
theorem countP_le(l:List Int):0<=countP l/\countP l<=l.length:=by
 unfold countP;have:=List.length_filter_le (· != 0) l;omega
theorem ybzf(l:List Int)(h:∀x∈l,InB x):InB (yqy l):=by
 unfold yqy
 have:∀(l:List Int) (a:Int),InB a->(∀x∈l,InB x)->InB (l.foldl min a):=by
  intro l
  induction l with
  |nil=>intro a ha _;exact ha
  | cons x l ih =>
    intro a ha hl;refine ih _ ?_ fun y hy=>hl y (zZ _ hy);have:=hl x zU;unfold InB at *;omega
 exact this l _ (by unfold InB;omega) h
theorem yxt(l:List Int)(h:∀x∈l,InB x):InB (ydq l).1/\InB (ydq l).2:=by
 unfold ydq
 have:∀(l:List Int) (p:Int×Int),InB p.1/\InB p.2->(∀x∈l,InB x)->InB (l.foldl (fun p a=>if a>p.1 then(a,p.1)else(p.1,max p.2 a)) p).1/\InB (l.foldl (fun p a=>if a>p.1 then(a,p.1)else(p.1,max p.2 a)) p).2:=by
  intro l
  induction l with
  |nil=>intro p hp _;exact hp
  | cons x l ih =>
    intro p hp hl;refine ih _ ?_ fun y hy=>hl y (zZ _ hy);have:=hl x zU;unfold InB at *
    dsimp only
    split<;>dsimp only<;>omega
 exact this l _ (by unfold InB;simp) h
theorem ybkc(l:List Int):∀(n:Nat) (r:Int),r<=yuz l n r/\yuz l n r<=r+n
 |0,r=>by unfold yuz;omega
 | n+1,r=>by
   unfold yuz;have:=ybkc l n (r+1);split<;>omega
theorem ybbs(l:List Int):-1<=ygh l/\ygh l<l.length\/ygh l = -1:=by
 unfold ygh;split
 .rename_i i hi
  obtain⟨h,_⟩:=List.findIdx?_eq_some_iff_getElem.1 hi;left;omega
 .exact .inr rfl
theorem ychr{op:Int}{l:List Int}(hl:l.length<=1000)(h:∀x∈l,InB x):InB (yje op l):=by
 have hc:=countP_le l;unfold yje;split;· exact ygi _
 split;· exact ygi _
 split;· unfold InB;omega
 split;· have:=ybbs l;unfold InB;omega
 split;· exact ybzf l h
 split;· exact(yxt l h).1
 split;· exact ypz _
 split;· have:=ybkc l (l.length+1) 0;unfold mexP InB;omega
 split;· exact(yxt l h).2
 cases l with
 |nil=>unfold InB;simp
 |cons x l=>exact h x zU
structure ConfIn(n nv:Nat)(c:Conf):Prop where
 len:c.length=n
 row:∀s∈c,s.length=nv/\∀x∈s,InB x
theorem ConfIn.at_{n nv:Nat}{c:Conf}(h:ConfIn n nv c){v:Nat}(hv:v<n):(c.getD v []).length=nv/\∀k,InB ((c.getD v []).getD k 0):=by
 have hlt:v<c.length:=by rw[h.len];exact hv
 have e:c.getD v []=c[v]:=by simp[zM,hlt]
 obtain⟨h1,h2⟩:=h.row c[v] (zK hlt);rw[e];refine⟨h1,fun k=>?_⟩;rw[zI];cases hk:c[v][k]? with
 |none=>simp;unfold InB;omega
 |some x=>simp;exact h2 x (zAA hk)
theorem ybj.ydc{g:Gr}(hg:ybj g){v p:Nat}(hv:v<g.ports.length)(hp:p<(g.ports.getD v []).length):0<=(ydc g v p).1/\(ydc g v p).1<g.ports.length/\1<=(ydc g v p).2/\(ydc g v p).2<=15:=by
 have e:g.ports.getD v []=g.ports[v]:=by simp[zM,hv]
 have h1:=hg.2.2.2.2.2.1 ⟨v,hv⟩;rw[e]at hp;have hm:(g.ports[v])[p]∈g.ports[v]:=zK hp;have h2:=h1.1 _ hm;unfold ync at h2;have e2:Go.Proofs.YthclbjjgfcgbgaaGreatDoor.ydc g v p=(g.ports[v])[p]:=by unfold Go.Proofs.YthclbjjgfcgbgaaGreatDoor.ydc;rw[e];simp[zM,hp]
 rw[e2];omega
theorem ybj.deg_lt{g:Gr}(hg:ybj g){v:Nat}:(g.ports.getD v []).length<24:=by
 by_cases hv:v<g.ports.length
 .have h1:=hg.2.2.2.2.2.1 ⟨v,hv⟩;have:=ybfi hv h1;have e:g.ports.getD v []=g.ports[v]:=by simp[zM,hv]
  rw[e];have:=hg.2.1;have h3:g.ports[(⟨v,hv⟩:Fin g.ports.length)].length=g.ports[v].length:=rfl;omega
 .rw[zI,zY (by omega)]
  simp
theorem ybj.id_in{g:Gr}(hg:ybj g)(v:Nat):0<=g.ids.getD v 0/\g.ids.getD v 0<=255:=by
 rw[zI];cases h:g.ids[v]? with
 |none=>simp
 |some x=>exact hg.2.2.2.1 x (zAA h)
theorem ycjf{g:Gr}{c:Conf}{n nv:Nat}(hg:ybj g)(hn:g.ports.length=n)(hc:ConfIn n nv c){op arg:Int}{bnd:Bool}(ho:(Ex.leaf op arg).ok nv bnd=true){v:Nat}(hv:v<n){p:Int}(hp:bnd=true->0<=p/\p<(g.ports.getD v []).length)(hpi:InB p):InB (ysv g c op arg v p):=by
 subst hn;have h24:=hg.2.1;have hd:=hg.deg_lt (v:=v);unfold ysv;simp only[Ex.ok,zQ,decide_eq_true_eq]at ho;obtain⟨⟨ho1,ho2⟩,ho3⟩:=ho;split
 .rename_i h;rw[if_pos h]at ho2;simp at ho2;unfold InB;omega
 split;· unfold InB;omega
 split;· unfold InB;omega
 split;· unfold InB;omega
 split;· exact(hc.at_ hv).2 _
 split
 .rename_i h
  rw[if_pos (by omega)]at ho3
  obtain⟨q1,q2⟩:=hp ho3;have hl:=hg.ydc hv (p:=p.toNat) (by omega)
  exact(hc.at_ (v:=(ydc g v p.toNat).1.toNat) (by omega)).2 _
 .unfold yog;split;· rw[hg.2.2.1];unfold InB;omega
  split;· have:=yuc hg;unfold InB;omega
  split;· have:=hg.id_in v;unfold InB;omega
  split;· unfold InB;omega
  split;· exact ygi _
  split;· exact hpi
  rename_i h6 h7 h8 h9 h10 h11
  rw[if_pos (by omega)]at ho3
  obtain⟨q1,q2⟩:=hp ho3;have hl:=hg.ydc hv (p:=p.toNat) (by omega)
  simp only;split;· have:=hg.id_in (ydc g v p.toNat).1.toNat;unfold InB;omega
  split;· have:=hg.deg_lt (v:=(ydc g v p.toNat).1.toNat);unfold InB;omega
  split;· exact ygi _
  split;· unfold InB;omega
  .unfold yki;rw[zI,List.getElem?_map];cases hk:(g.ports.getD v [])[p.toNat]? with
   |none=>simp;unfold InB;omega
   | some l =>
     simp;have hd2:=hg.deg_lt (v:=l.1.toNat);rcases yyh (ls:=g.ports.getD l.1.toNat []) (u:=(v:Int))with e|⟨k,e,hk⟩
     .simp at e;rw[e];unfold InB;omega
     .simp at e hk hd2;rw[e];unfold InB;omega
theorem yic{g:Gr}{c:Conf}{n nv:Nat}(hg:ybj g)(hn:g.ports.length=n)(hc:ConfIn n nv c){v:Nat}(hv:v<n):∀(x:Ex) {bnd:Bool}{p:Int},x.ok nv bnd=true->(bnd=true->0<=p/\p<(g.ports.getD v []).length)->InB p->InB (yfn g c v x p)
 |.leaf op arg,bnd,p,h,hp,hpi=>ycjf hg hn hc h hv hp hpi
 | .un op a,bnd,p,h,hp,hpi=>by
   simp only[Ex.ok,zQ]at h;exact ydum (yic hg hn hc hv a h.2 hp hpi)
 | .agg op a,bnd,p,h,hp,hpi=>by
   simp only[Ex.ok,zQ]at h;have:=hg.deg_lt (v:=v);refine ychr (by simp;simp at this;omega) fun x hx=>?_
   obtain⟨q,hq,rfl⟩:=List.mem_map.1 hx;have hq:=List.mem_range.1 hq;exact yic hg hn hc hv a h.2 (fun _=>by omega) (by unfold InB;omega)
 |.bin op a b,bnd,p,h,hp,hpi=>ydjl _ _ _
 | .ite x a b,bnd,p,h,hp,hpi=>by
   simp only[Ex.ok,zQ]at h;unfold yfn;split
   .exact yic hg hn hc hv a h.1.2 hp hpi
   .exact yic hg hn hc hv b h.2 hp hpi
end
section
namespace Sh
open Go Ev
def varC(x:VarR):List SV:=[.a (.string x.name),.i .i64 x.kind,.i .i64 x.lo,.i .i64 x.hi,.i .i64 x.perNode,.i .i64 x.perID]
def yeu(l:List VarR):SV:=.sl 6 l.length (fun k=>varC (l.getD k default))
def yio(l:List SetR):SV:=.sl 2 l.length (fun k=>[.i .i64 (l.getD k default).var,yw (l.getD k default).val])
def ydd(l:List RuleR):SV:=.sl 3 l.length (fun k=>[.a (.string (l.getD k default).name),yw (l.getD k default).guard,yio (l.getD k default).sets])
def ymp(p:ProgR):List SV:=[.a (.string p.name),yeu p.vars,ydd p.rules]
def ydu(g:Gr):SV:=.sl 1 g.ports.length (fun v=>[ybc (yki g v)])
def ygf(p:ProgR)(g:Gr):List SV:=[.a (.string p.name),yeu p.vars,ydd p.rules,ybc g.ids,yu g.ports,.i .i64 (ybqu g),ydu g]
def yjs(p:ProgR)(g:Gr)(c:Conf)(v:Nat)(e:List Tm):List SV:=[.rf (ygf p g),ycn c,.i .i64 v,yw e]
theorem ybpb(l:List Int):one1 (ybc l)=true:=rfl
theorem ybgo{n:Nat}(l:List Int):owned (n+1) (ybc l)=false:=rfl
theorem ybez{n:Nat}(l:List Int):scalar (n+1) (ybc l)=false:=rfl
theorem ybop{n:Nat}(o:Own)(l:List Int):view o (n+1) (ybc l)=ybc l:=rfl
theorem ycca{n:Nat}(o:Own)(l:List Int):vok o (n+1) (ybc l)=True:=rfl
theorem ybua{n:Nat}(h:Nm->Nm)(l:List Int):ren h (n+1) (ybc l)=ybc l:=rfl
theorem ycdu{n:Nat}(L:Nm->Bool)(l:List Int):cln L (n+1) (ybc l)=true:=rfl
theorem ybjh(l:List (Int×Int)):one1 (yw l)=true:=rfl
theorem ybci{n:Nat}(l:List (Int×Int)):owned (n+1) (yw l)=false:=rfl
theorem yze{n:Nat}(l:List (Int×Int)):scalar (n+1) (yw l)=false:=rfl
theorem ybfz{n:Nat}(o:Own)(l:List (Int×Int)):view o (n+1) (yw l)=yw l:=rfl
theorem ybpy{n:Nat}(o:Own)(l:List (Int×Int)):vok o (n+1) (yw l)=True:=rfl
theorem ybqp{n:Nat}(h:Nm->Nm)(l:List (Int×Int)):ren h (n+1) (yw l)=yw l:=rfl
theorem ybqn{n:Nat}(L:Nm->Bool)(l:List (Int×Int)):cln L (n+1) (yw l)=true:=rfl
theorem ybjj(l:List (List (Int×Int))):one1 (yu l)=true:=rfl
theorem ybeb{n:Nat}(l:List (List (Int×Int))):owned (n+1) (yu l)=false:=rfl
theorem yzd{n:Nat}(l:List (List (Int×Int))):scalar (n+1) (yu l)=false:=rfl
theorem ybgl{n:Nat}(o:Own)(l:List (List (Int×Int))):view o (n+1) (yu l)=yu l:=rfl
theorem ybno{n:Nat}(o:Own)(l:List (List (Int×Int))):vok o (n+1) (yu l)=True:=rfl
theorem ybok{n:Nat}(h:Nm->Nm)(l:List (List (Int×Int))):ren h (n+1) (yu l)=yu l:=rfl
theorem ybnh{n:Nat}(L:Nm->Bool)(l:List (List (Int×Int))):cln L (n+1) (yu l)=true:=rfl
theorem ybqc(l:List (List Int)):one1 (ycn l)=true:=rfl
theorem ybig{n:Nat}(l:List (List Int)):owned (n+1) (ycn l)=false:=rfl
theorem ybdo{n:Nat}(l:List (List Int)):scalar (n+1) (ycn l)=false:=rfl
theorem ybpu{n:Nat}(o:Own)(l:List (List Int)):view o (n+1) (ycn l)=ycn l:=rfl
theorem ybzy{n:Nat}(o:Own)(l:List (List Int)):vok o (n+1) (ycn l)=True:=rfl
theorem ybyq{n:Nat}(h:Nm->Nm)(l:List (List Int)):ren h (n+1) (ycn l)=ycn l:=rfl
theorem ybtb{n:Nat}(L:Nm->Bool)(l:List (List Int)):cln L (n+1) (ycn l)=true:=rfl
theorem ybnr(l:List VarR):one1 (yeu l)=true:=rfl
theorem ybib{n:Nat}(l:List VarR):owned (n+1) (yeu l)=false:=rfl
theorem ybes{n:Nat}(l:List VarR):scalar (n+1) (yeu l)=false:=rfl
theorem ybpg{n:Nat}(o:Own)(l:List VarR):view o (n+1) (yeu l)=yeu l:=rfl
theorem ycdr{n:Nat}(o:Own)(l:List VarR):vok o (n+1) (yeu l)=True:=rfl
theorem ybys{n:Nat}(h:Nm->Nm)(l:List VarR):ren h (n+1) (yeu l)=yeu l:=rfl
theorem ycdf{n:Nat}(L:Nm->Bool)(l:List VarR):cln L (n+1) (yeu l)=true:=rfl
theorem ybog(l:List SetR):one1 (yio l)=true:=rfl
theorem ybjd{n:Nat}(l:List SetR):owned (n+1) (yio l)=false:=rfl
theorem ybbd{n:Nat}(l:List SetR):scalar (n+1) (yio l)=false:=rfl
theorem ybrj{n:Nat}(o:Own)(l:List SetR):view o (n+1) (yio l)=yio l:=rfl
theorem ybxy{n:Nat}(o:Own)(l:List SetR):vok o (n+1) (yio l)=True:=rfl
theorem ybuf{n:Nat}(h:Nm->Nm)(l:List SetR):ren h (n+1) (yio l)=yio l:=rfl
theorem ybtk{n:Nat}(L:Nm->Bool)(l:List SetR):cln L (n+1) (yio l)=true:=rfl
theorem ybiq(l:List RuleR):one1 (ydd l)=true:=rfl
theorem ybdg{n:Nat}(l:List RuleR):owned (n+1) (ydd l)=false:=rfl
theorem yzs{n:Nat}(l:List RuleR):scalar (n+1) (ydd l)=false:=rfl
theorem ybge{n:Nat}(o:Own)(l:List RuleR):view o (n+1) (ydd l)=ydd l:=rfl
theorem ybqq{n:Nat}(o:Own)(l:List RuleR):vok o (n+1) (ydd l)=True:=rfl
theorem ybpe{n:Nat}(h:Nm->Nm)(l:List RuleR):ren h (n+1) (ydd l)=ydd l:=rfl
theorem ybrb{n:Nat}(L:Nm->Bool)(l:List RuleR):cln L (n+1) (ydd l)=true:=rfl
theorem ybif(l:Gr):one1 (ydu l)=true:=rfl
theorem ybeh{n:Nat}(l:Gr):owned (n+1) (ydu l)=false:=rfl
theorem yzi{n:Nat}(l:Gr):scalar (n+1) (ydu l)=false:=rfl
theorem ybhm{n:Nat}(o:Own)(l:Gr):view o (n+1) (ydu l)=ydu l:=rfl
theorem ybnu{n:Nat}(o:Own)(l:Gr):vok o (n+1) (ydu l)=True:=rfl
theorem ybrd{n:Nat}(h:Nm->Nm)(l:Gr):ren h (n+1) (ydu l)=ydu l:=rfl
theorem ybpj{n:Nat}(L:Nm->Bool)(l:Gr):cln L (n+1) (ydu l)=true:=rfl
theorem ybin{n:Nat}(fr:List Nm)(o:Own)(l:List Int):ydj fr o (n+1) (ybc l)=ybc l:=rfl
theorem ybrv{n:Nat}(fr:List Nm)(o:Own)(l:List Int):pok fr o (n+1) (ybc l)=True:=rfl
theorem ybde{n:Nat}(fr:List Nm)(o:Own)(l:List (Int×Int)):ydj fr o (n+1) (yw l)=yw l:=rfl
theorem ybnq{n:Nat}(fr:List Nm)(o:Own)(l:List (Int×Int)):pok fr o (n+1) (yw l)=True:=rfl
theorem ybcw{n:Nat}(fr:List Nm)(o:Own)(l:List (List (Int×Int))):ydj fr o (n+1) (yu l)=yu l:=rfl
theorem ybqi{n:Nat}(fr:List Nm)(o:Own)(l:List (List (Int×Int))):pok fr o (n+1) (yu l)=True:=rfl
theorem ybfh{n:Nat}(fr:List Nm)(o:Own)(l:List (List Int)):ydj fr o (n+1) (ycn l)=ycn l:=rfl
theorem ybwg{n:Nat}(fr:List Nm)(o:Own)(l:List (List Int)):pok fr o (n+1) (ycn l)=True:=rfl
theorem ybhy{n:Nat}(fr:List Nm)(o:Own)(l:List VarR):ydj fr o (n+1) (yeu l)=yeu l:=rfl
theorem ycdy{n:Nat}(fr:List Nm)(o:Own)(l:List VarR):pok fr o (n+1) (yeu l)=True:=rfl
theorem ybgr{n:Nat}(fr:List Nm)(o:Own)(l:List SetR):ydj fr o (n+1) (yio l)=yio l:=rfl
theorem ybro{n:Nat}(fr:List Nm)(o:Own)(l:List SetR):pok fr o (n+1) (yio l)=True:=rfl
theorem ybco{n:Nat}(fr:List Nm)(o:Own)(l:List RuleR):ydj fr o (n+1) (ydd l)=ydd l:=rfl
theorem ybqe{n:Nat}(fr:List Nm)(o:Own)(l:List RuleR):pok fr o (n+1) (ydd l)=True:=rfl
theorem ybeu{n:Nat}(fr:List Nm)(o:Own)(l:Gr):ydj fr o (n+1) (ydu l)=ydu l:=rfl
theorem yboj{n:Nat}(fr:List Nm)(o:Own)(l:Gr):pok fr o (n+1) (ydu l)=True:=rfl
theorem ybhe(l:List Int):SV.cells (ybc l)=[ybc l]:=rfl
theorem ybcm(l:List (Int×Int)):SV.cells (yw l)=[yw l]:=rfl
theorem ybbo(l:List (List (Int×Int))):SV.cells (yu l)=[yu l]:=rfl
theorem ybfk(l:List (List Int)):SV.cells (ycn l)=[ycn l]:=rfl
theorem ybjk(l:List VarR):SV.cells (yeu l)=[yeu l]:=rfl
theorem ybip(l:List SetR):SV.cells (yio l)=[yio l]:=rfl
theorem ybbp(l:List RuleR):SV.cells (ydd l)=[ydd l]:=rfl
theorem ybby(l:Gr):SV.cells (ydu l)=[ydu l]:=rfl
attribute [go_sem] ybpb ybgo ybez ybop ycca ybua ycdu ybjh ybci yze ybfz ybpy ybqp ybqn
attribute [go_sem] ybjj ybeb yzd ybgl ybno ybok ybnh ybqc ybig ybdo ybpu ybzy ybyq
attribute [go_sem] ybtb ybnr ybib ybes ybpg ycdr ybys ycdf ybog ybjd ybbd ybrj ybxy ybuf
attribute [go_sem] ybtk ybiq ybdg yzs ybge ybqq ybpe ybrb ybif ybeh yzi ybhm ybnu
attribute [go_sem] ybrd ybpj ybin ybrv ybde ybnq ybcw ybqi ybfh ybwg ybhy ycdy ybgr ybro
attribute [go_sem] ybco ybqe ybeu yboj ybhe ybcm ybbo ybfk ybjk ybip ybbp ybby
end Sh
end
section
open Go.RowKit
theorem yzj(gv:Value)(g:Gr)(w:World)(hg:GrAt w gv g) :
 Calls zD 121 #[gv] w fun e w'=>e = .returned (.bool (ygk g))/\Below w.heap.size w w':=by
 have hg0:=zC hg;obtain⟨i,p,rfl,hi,hp⟩:=hg
 clear hi hp
 cases hv:yhc g with
 | false =>
   have Hf:=zC (show ygk g=false by unfold ygk;rw[hv];rfl)
   go_enter zAB,zAN
   go_wp2_with fail
   refine(ysu _ g _ (hg0.out.below ((Below.refl _ _).alloc (zL _) _))).mono ?_;rintro e w1 ⟨rfl,hb1⟩
   go_wp2_with fail
   go_ret
   exact⟨ybs Hf.out.symm,ybyx hb1⟩
 | true =>
   have hgood:=(yfb g).1 hv;have hn1:=hgood.1;have hn24:=hgood.2.1;have Hgood:=zC hgood;have Hd:=zC (yhz hgood (a:=0) (by omega))
   have Hc:=zC (show ygk g=(yca g 0).all (fun x=>decide (0<=x))by unfold ygk;rw[hv];rfl)
   clear hgood
   go_enter zAB,zAN
   go_wp2_with fail
   refine(ysu _ g _ (hg0.out.below ((Below.refl _ _).alloc (zL _) _))).mono ?_;rintro e w1 ⟨rfl,hb1⟩;obtain⟨q0,q1⟩:=ydla hb1;have Hb1:=zC (ybyx hb1)
   clear hb1
   go_wp2_with fail
   refine(ybqk _ g 0 _ (hg0.out.below Hb1.out) Hgood.out (by omega)).mono ?_
   rintro e w2 ⟨v,rfl,hv2,hb2⟩;have Hb2:=zC (Hb1.out.trans (hb2.mono Hb1.out.size));obtain⟨A,c,rfl,hA1,hA2⟩:=ybx hv2;have Hv2:=zC hv2
   clear hb2 hv2
   obtain⟨D,hD⟩:∃D,yca g 0=D:=⟨_,rfl⟩;rw[hD]at Hv2 Hd hA1 Hc ⊢
   clear hD
   go_wp2
   go_loopg [11] D.length (fun q t wr=>∃k:Nat,q+k=D.length/\t = .int .i64 k/\wr=w2/\Hid (∀j (hj:j<D.length),j<k->0<=D[j]))
   case atStart=>exact⟨0,by omega,rfl,rfl,zC (fun j _ hj=>absurd hj (by omega))⟩
   case round =>
    obtain⟨k,hq,rfl,rfl,hall⟩:=hrel
    by_cases hlt:k<D.length
    .obtain⟨b,off,rfl,hb,hc,hr⟩:=yng Hv2.out hlt
     by_cases c1:D[k]<0
     .have Hf:=zC (show ygk g=false by
       rw[Hc.out,List.all_eq_false];exact⟨D[k],zK hlt,by simp;omega⟩)
      go_wp2
      go_ret
      exact⟨ybs Hf.out.symm,Hb2.out⟩
     .go_wp2
      go_roundg (gk-1)
      case measure=>omega
      case rel =>
       refine⟨k+1,by omega,by go_num,rfl,zC (fun j hj hjk=>?_)⟩
       by_cases e:j=k
       .subst e;omega
       .exact hall.out j hj (by omega)
    .obtain rfl:k=D.length:=by omega
     have Ht:=zC (show ygk g=true by
      rw[Hc.out,List.all_eq_true];intro x hx;obtain⟨j,hj,rfl⟩:=List.mem_iff_getElem.1 hx;exact decide_eq_true (hall.out j hj hj))
     go_wp2
     go_ret
     exact⟨ybs Ht.out.symm,Hb2.out⟩
theorem yjo{g:Gr}(h:ygk g=true):yhc g=true:=(zQ _ _▸h).1
end
section
namespace Sh
open Ev Go.RowKit
theorem ydyi{α:Type}(l:List α)(x d:α)(i:Nat):(l++[x]).getD i d=if i<l.length then l.getD i d else if i=l.length then x else d:=by
 by_cases h:i<l.length
 .simp[zM,List.getElem?_append_left h,h]
 .by_cases e:i=l.length
  .subst e;simp[zM]
  .rw[if_neg h,if_neg e,zM,zY (by simp;omega)]
   rfl
theorem yeah(k i:Nat)(hi:i≠k):(if i<k+1 then(-1:Int)else 0)=if i<k then -1 else 0:=by
 by_cases h:i<k
 .rw[if_pos h,if_pos (by omega)]
 .rw[if_neg h,if_neg (by omega)]
theorem ybpt(g:Gr)(a i:Nat)(ha:a<g.ports.length)(hi:i<g.ports.length):(start g a).getD i 0=if i=a then 0 else -1:=by
 unfold start;rw[yzt (by simpa using ha)]
 split
 .rfl
 .rw[zI,List.getElem?_replicate,if_pos hi];rfl
theorem ybqj{g:Gr}(hg:ybj g){a:Nat}(ha:a<g.ports.length):Returns zD 142 [grV g,.i .i64 a] (ybc (yca g a)):=by
 refine Returns.of (ydef _ _ ?_);obtain⟨n,hn⟩:∃n,g.ports.length=n:=⟨_,rfl⟩;have h24:=hg.2.1;have h1:=hg.1;rw[hn]at h24 h1 ha;obtain⟨PV,hPV⟩:∃P,yu g.ports=P:=⟨_,rfl⟩;simp only[c142,ycoe,yczn,ycrm,grV,yu,hn,go_sem,zA,zB,zH,↓reduceIte,reduceCtorEq];refine⟨by omega,?_⟩
 refine ybd (σ:=Nat) (fun k=>⟨[(17,.i .i64 k),(16,.i .i64 n),(5,.os (14,0) 0 n true),(2,.pt (2,0) 0 0),(1,.i .i64 a)],
  [(2,.one (some ⟨27,true,2,1,fun _=>[ybc g.ids,yu g.ports]⟩)),(14,.one (some ⟨3,false,1,n,fun i=>[.i .i64 (if i<k then -1 else 0)]⟩))]⟩) (fun k=>k<=n) (fun k=>n-k) 0 (zN _) ?_ ?_
 .refine yh [] [] [] ?_;simp only[yu,hn,allQ,live,yc,yx,zJ,go_sem,zA,zH,↓reduceIte,reduceCtorEq];exact fun i _=>by rw[if_neg (by omega)]
 .intro k hk
  by_cases hlt:k<n
  .have ht:decide ((k:Int)<(n:Int))=true:=decide_eq_true (by omega)
   simp only[ybty,ycox,ycqu,ycmv,ht,splice,and_false,go_sem,zA,zB,↓reduceIte,reduceCtorEq];refine⟨by omega,by omega,ikw (by omega) (by omega),?_⟩
   refine yj (k+1) (by omega) (by omega) ?_
   refine yh [] [] [] ?_;simp only[go_sem,allQ,live,yc,yx,go_sem,zA,zH,↓reduceIte,reduceCtorEq];refine⟨by omega,fun i hi=>?_⟩
   by_cases q:i=k
   .subst q;simp only[if_pos (Nat.lt_succ_self i)];simp only[live,yc,go_sem,↓reduceIte,reduceCtorEq]
   .simp only[if_neg q,yeah k i q];simp only[live,yc,go_sem,reduceCtorEq]
  .obtain rfl:k=n:=by omega
   have ht:decide ((k:Int)<(k:Int))=false:=decide_eq_false (by omega)
   simp only[ybty,ycyt,ycmc,ht,splice,and_false,go_sem,zA,zB,zH,↓reduceIte,reduceCtorEq];refine⟨⟨by omega,by omega⟩,by omega,?_⟩
   refine ybd (σ:=List Int×List Nat×Nat) (fun q=>⟨[(7,.os (128,0) q.2.2 (q.2.1.length-q.2.2) true),(5,.os (14,0) 0 k true),(2,.pt (2,0) 0 0)],
    [(2,.one (some ⟨27,true,2,1,fun _=>[ybc g.ids,yu g.ports]⟩)),(14,.one (some ⟨3,false,1,k,fun i=>[.i .i64 (q.1.getD i 0)]⟩)),(128,.one (some ⟨3,false,1,q.2.1.length,fun i=>[.i .i64 (q.2.1.getD i 0:Nat)]⟩))]⟩)
    (fun q=>q.2.2<=q.2.1.length/\BfsInv g a q.1 (q.2.1.drop q.2.2)/\q.2.1.length-q.2.2+yct q.1<=30/\q.2.1.length<=31) (fun q=>q.2.1.length-q.2.2+yct q.1) (start g a,[a],0) ⟨zN _,BfsInv.start (by omega),yoq g a (by omega),by simp⟩ ?_ ?_
   .refine yh [(128,fun i=>(28,i))] [] [] ?_;simp only[go_sem,allQ,live,yc,go_sem,zA,zH,↓reduceIte,reduceCtorEq];refine⟨fun i hi=>?_,fun i hi=>?_⟩
    .rw[ybpt g a i (by omega) (by omega),if_pos hi]
     by_cases q:i=a
     .simp only[if_pos q];simp only[live,yc,go_sem,reduceCtorEq]
     .simp only[if_neg q];simp only[live,yc,go_sem,reduceCtorEq]
    .obtain rfl:i=0:=by omega
     simp only[List.getD_cons_zero,live,yc,go_sem,reduceCtorEq]
   .rintro⟨R,W,o⟩ ⟨ho,hinv,hm30,hw31⟩;have ho:o<=W.length:=ho;have hinv:BfsInv g a R (W.drop o):=hinv;have hm30:W.length-o+yct R<=30:=hm30;have hw31:W.length<=31:=hw31;obtain⟨m,hm⟩:∃m,W.length=m:=⟨_,rfl⟩;rw[hm]at ho hm30 hw31
    by_cases hlt2:o<m
    .have hQ : W.drop o=W[o]::W.drop (o+1):=(List.drop_eq_getElem_cons (by omega))
     obtain⟨v,hv⟩:∃v,W.getD o 0=v:=⟨_,rfl⟩;have hv':W[o]=v:=by rw[<-hv,getD_at (show o<W.length by omega)]
     rw[hv']at hQ;rw[hQ]at hinv;obtain⟨d,hd⟩:=hinv.qin v (by simp)
     have hvl:v<g.ports.length:=by rw[<-hinv.len];exact(List.getElem?_eq_some_iff.1 hd).1
     obtain⟨ls,hls⟩:∃ls,g.ports.getD v []=ls:=⟨_,rfl⟩;have hls?:g.ports[v]?=some ls:=by rw[<-hls];simp[zM,hvl]
     have hin:=hinv.pop hd ls;have hls24:ls.length<24:=by rw[<-hls];exact hg.deg_lt
     have ht2:decide (((m-o:Nat):Int)>0)=true:=decide_eq_true (by omega)
     simp only[ycep,ycbz,ybzb,ybuk,ht2,hm,hv,yu,yw,hls,hn,go_sem,zAK,zA,zB,↓reduceIte,reduceCtorEq];refine⟨⟨by omega,by omega⟩,hlt2,⟨by omega,by omega,by omega⟩,⟨by omega,by omega⟩,?_⟩
     refine ybd (σ:=Nat×List Int×List Nat×Nat) (fun q=>⟨[(43,.i .i64 q.1),(42,.i .i64 ls.length),(41,yw ls),(8,.i .i64 v),(7,.os (128,0) q.2.2.2 (q.2.2.1.length-q.2.2.2) true),(5,.os (14,0) 0 k true),(2,.pt (2,0) 0 0)],
      [(2,.one (some ⟨27,true,2,1,fun _=>[ybc g.ids,yu g.ports]⟩)),(14,.one (some ⟨3,false,1,k,fun i=>[.i .i64 (q.2.1.getD i 0)]⟩)),(128,.one (some ⟨3,false,1,q.2.2.1.length,fun i=>[.i .i64 (q.2.2.1.getD i 0:Nat)]⟩))]⟩)
      (fun q=>q.1<=ls.length/\q.2.2.2<=q.2.2.1.length/\BfsIn g a v d ls q.1 q.2.1 (q.2.2.1.drop q.2.2.2)/\q.2.2.1.length-q.2.2.2+1+yct q.2.1=m-o+yct R/\q.2.2.1.length<=31) (fun q=>ls.length-q.1) (0,R,W,o+1) ⟨zN _,by show o+1<=W.length;omega,hin,by show W.length-(o+1)+1+yct R=_;omega,by show W.length<=31;omega⟩ ?_ ?_
     .refine yh [] [] [] ?_;simp only[yu,yw,hn,hm,Nat.sub_sub,allQ,live,yc,zJ,go_sem,zA,zH,↓reduceIte,reduceCtorEq]
     .rintro⟨j,R',W',o'⟩ ⟨hj,ho',hin',hun',hw'⟩;have hj:j<=ls.length:=hj;have ho':o'<=W'.length:=ho';have hin':BfsIn g a v d ls j R' (W'.drop o'):=hin';have hun':W'.length-o'+1+yct R'=m-o+yct R:=hun';have hw':W'.length<=31:=hw';obtain⟨m',hm'⟩:∃m,W'.length=m:=⟨_,rfl⟩;rw[hm']at ho' hun' hw'
      by_cases hjl:j<ls.length
      .have ht3:decide ((j:Int)<(ls.length:Int))=true:=decide_eq_true (by omega)
       obtain⟨l,hl⟩:∃l,ls.getD j (0,0)=l:=⟨_,rfl⟩;have hl':ls[j]=l:=by rw[<-hl,getD_at hjl]
       have hlm:l∈ls:=by rw[<-hl'];exact zK _
       obtain⟨k1,k2,k3,k4,k5⟩:=hg.link hls? hlm;obtain⟨u,hu⟩:=zS k1;have hul:u<R'.length:=by rw[hin'.len];omega
       have hRv:R'.getD v 0=(d:Int):=by have:=hin'.rv;simp[zM,this]
       have hd24:d<g.ports.length:=by
        rcases hin'.val v _ hin'.rv with e|⟨k',e,h1,h2⟩
        .omega
        .obtain rfl:d=k':=by omega
         exact yuf hg (by omega) h1 h2
       have hRu:R'[u]?=some (R'.getD u 0):=by rw[getD_at hul];exact zG hul
       by_cases hneg:R'.getD u 0<0
       .have ht4:decide (R'.getD u 0<0)=true:=decide_eq_true hneg;simp only[yzr,yzw,yym,yys,yzx,yzg,yw,hl,hu,ht3,ht4,hm',hRv,splice,and_false,go_sem,zA,zB,zAG,zH,↓reduceIte,reduceCtorEq];refine⟨⟨by omega,by omega⟩,⟨by omega,by omega⟩,by omega,⟨by omega,by omega⟩,by omega,ikw (by omega) (by omega),⟨by omega,by omega⟩,by omega,by decide,⟨by omega,by omega,by omega⟩,ikw (by omega) (by omega),?_⟩
        have hRm:R'[u]?=some (-1):=by
         rcases hin'.val u _ hRu with e|⟨k',e,_⟩
         .rw[hRu,e]
         .omega
        have hdis:=hin'.discover hls? hjl (u:=u) (by rw[hl'];exact hu) hRm
        have hunf:=ytn (R:=R') (u:=u) (x:=(d:Int)+1) hRm (by omega)
        have hlen:(W'.drop o'++[u]).length=m'-o'+1:=by rw[zAC,zAH,hm'];rfl
        refine yj (j+1,R'.set u ((d:Int)+1),W'.drop o'++[u],0) ⟨by show j+1<=_;omega,zN _,hdis,by show(W'.drop o'++[u]).length-0+1+yct (R'.set u ((d:Int)+1))=_;omega,by show(W'.drop o'++[u]).length<=31;omega⟩ (by show ls.length-(j+1)<ls.length-j;omega) ?_
        refine yh [(128,fun i=>(66,i))] [] [] ?_;simp only[yu,yw,hn,hlen,allQ,live,yc,yx,go_sem,zA,zH,↓reduceIte,reduceCtorEq];refine⟨⟨by omega,Sim.refl _⟩,fun i hi=>?_,fun i hi=>?_⟩
        .rw[yzt hul]
         by_cases q:i=u
         .simp only[if_pos q];simp only[live,yc,go_sem,reduceCtorEq]
         .simp only[if_neg q];simp only[live,yc,go_sem,reduceCtorEq]
        .rw[ydyi,zAH,hm']
         by_cases q:i<m'-o'
         .have e:(W'.drop o').getD i 0=W'.getD (o'+i) 0:=by simp[zM,List.getElem?_drop]
          simp only[if_pos q,e];simp only[live,yc,go_sem,reduceCtorEq]
         .obtain rfl:i=m'-o':=by omega
          simp only[if_neg q,Nat.sub_self,Nat.zero_mul,↓reduceIte];simp only[live,yc,go_sem,reduceCtorEq]
       .have ht4:decide (R'.getD u 0<0)=false:=decide_eq_false hneg;simp only[yzr,yzw,yym,yys,yzx,yzg,yw,hl,hu,ht3,ht4,hm',splice,go_sem,zA,zB,zAG,zH,↓reduceIte,reduceCtorEq];refine⟨⟨by omega,by omega⟩,⟨by omega,by omega⟩,by omega,ikw (by omega) (by omega),?_⟩
        obtain⟨y,hy⟩:=zS (show 0<=R'.getD u 0 by omega)
        have hsk:=hin'.skip hjl (j:=y) (by rw[hl',hu,Int.toNat_natCast,hRu,hy])
        refine yj (j+1,R',W',o') ⟨by show j+1<=_;omega,by show o'<=W'.length;omega,hsk,by show W'.length-o'+1+yct R'=_;omega,by show W'.length<=31;omega⟩ (by show ls.length-(j+1)<ls.length-j;omega) ?_
        refine yh [] [] [] ?_;simp only[yu,yw,hn,hm',allQ,live,yc,yx,go_sem,zA,zH,↓reduceIte,reduceCtorEq];omega
      .obtain rfl:j=ls.length:=by omega
       have ht3:decide ((ls.length:Int)<(ls.length:Int))=false:=decide_eq_false (by omega)
       simp only[yzr,yzw,yym,yys,yzx,yzg,ht3,go_sem,zA,↓reduceIte];refine yj (R',W',o') ⟨by show o'<=W'.length;omega,hin'.finish hls?,by show W'.length-o'+yct R'<=30;omega,by show W'.length<=31;omega⟩ (by show W'.length-o'+yct R'<m-o+yct R;omega) ?_
       refine yh [] [] [] ?_;simp only[yu,yw,hn,hm',allQ,live,yc,go_sem,zA,zH,↓reduceIte,reduceCtorEq]
    .obtain rfl:o=m:=by omega
     have ht2:decide (((o-o:Nat):Int)>0)=false:=decide_eq_false (by omega)
     rw[List.drop_eq_nil_of_le (by omega)]at hinv
     have hdist:=hinv.isDist.unique (yfa hg (by omega))
     subst hdist;have hlen:=hinv.len;simp only[ycep,ycdx,ht2,hm,yu,yw,hn,go_sem,zA,zB,↓reduceIte,reduceCtorEq];have e:(yca g a).length=k:=by omega
     unfold ybc;rw[e];exact Sim.refl _
theorem ybbe{g:Gr}(hI:GrI g):Returns zD 121 [grV g] (.b (ygk g)):=by
 refine ybjw ⟨_,_,zAB,rfl⟩ (fun _=>.b) (fun _=>.simple rfl) fun G m us hG hr φ M w us' hRl hs hv=>?_;obtain⟨u,rfl,h1⟩:=rvl1 hr;obtain⟨u',rfl,h2⟩:=yfq hv;exact yzj u' g w (ydct hG h1 h2 hRl hs hI)
end Sh
end
section
open Go.RowKit
theorem yma(g:Gr)(G:List Int)(v:Nat):(yek g G v).length=G.length:=by simp[yek]
set_option maxHeartbeats 2000000 in
theorem yoy(gv cv Gv:Value)(g:Gr)(c:Conf)(G:List Int)(w:World)(hg:GrAt w gv g)(hc:yczw w cv c)(hG:ymz w Gv G)(hgood:ybj g) :
 Calls zD 89 #[gv,cv,Gv] w fun e w'=>e = .returned (.bool (yvj g.ports.length (yek g G) c))/\Below w.heap.size w w':=by
 have hn24:=hgood.2.1;have hid:=hgood.2.2.1;have Hid':=zC hid
 clear hgood
 obtain⟨i,p,rfl,hi,hp⟩:=hg;obtain⟨A,c0,rfl,hA1,hA2⟩:=ybx hi;obtain⟨A2,c2,rfl,hB1,hB2⟩:=ybx hp;obtain⟨A3,c3,rfl,hC1,hC2⟩:=ybx hc;obtain⟨A4,c4,rfl,hD1,hD2⟩:=ybx hG;have Hp:=zC hp;have Hc:=zC hc;have HG:=zC hG
 clear hi hp hc hG
 by_cases n1:c.length=g.ids.length
 .have n1':((c.length:Int)!=(g.ids.length:Int))=false:=by simp[n1]
  have Hn:=zC (n1.trans hid);have hcn:c.length<=24:=by omega
  clear n1 hid
  go_enter zAE,zAO
  go_wp2
  obtain⟨W1,hW1⟩:∃W,W=w.alloc (.cells #[.slice A g.ids.length c0,.slice A2 g.ports.length c2] 27):=⟨_,rfl⟩;have hbox:W1.cell? ⟨w.heap.size,1,none⟩=some (.slice A2 g.ports.length c2):=by subst hW1;simp
  have HbW:=zC (show Below w.heap.size w W1 by subst hW1;exact(Below.refl _ _).alloc (zL _) _)
  rw[<-hW1]
  clear hW1
  go_loopg [21] c.length (fun q t wr=>∃v n:Nat,q+v=c.length/\t = .int .i64 v/\wr=W1.drewN n/\Hid (∀(u:Nat) s,u<v->c[u]?=some s->yii (yek g G u) s))
  case atStart=>exact⟨0,0,by omega,rfl,rfl,zC (fun u s hu=>absurd hu (by omega))⟩
  case round =>
   obtain⟨v,n,hq,rfl,rfl,hok⟩:=hrel
   by_cases hlt:v<c.length
   .obtain⟨b3,off3,sv,rfl,hb3,hcs,hs⟩:=ynd (Hc.out.below (Stable.sl Stable.int) HbW.out) (zG hlt);obtain⟨A5,c5,rfl,hE1,hE2⟩:=ybx hs;obtain⟨s,hse⟩:∃s,c[v]=s:=⟨_,rfl⟩;have Hs?:=zC (show c[v]?=some s by rw[zG hlt,hse])
    rw[hse]at hs hcs hE1;have Hbad:=zC (show ¬yii (yek g G v) s->yvj g.ports.length (yek g G) c=false from fun h=>ytw (fun hc=>h (hc.2 v s Hs?.out)))
    have Hs:=zC hs
    clear hs hse
    by_cases c1:s.length=G.length
    .have c1':((s.length:Int)!=(G.length:Int))=false:=by simp[c1]
     have Hsl:=zC c1
     clear c1
     have hvp:v<g.ports.length:=by rw[<-Hn.out];exact hlt
     go_wp2
     obtain⟨go,rfl⟩:∃go,go=gk:=⟨_,rfl⟩
     go_loopg [33] s.length (fun q t wr=>∃x n:Nat,q+x=s.length/\t = .int .i64 x/\wr=W1.drewN n/\Hid (∀(j:Nat) b z,j<x->(yek g G v)[j]?=some b->s[j]?=some z->b.1<=z/\z<=b.2))
     case atStart=>exact⟨0,n,by omega,rfl,rfl,zC (fun j b z hj=>absurd hj (by omega))⟩
     case round =>
      obtain⟨x,n,hqx,rfl,rfl,hst⟩:=hrel
      by_cases hxl:x<s.length
      .have hxG:x<G.length:=by rw[<-Hsl.out];exact hxl
       obtain⟨b5,o5,rfl,hb5,hc5,hr5⟩:=yng (Hs.out) hxl;obtain⟨b6,o6,rfl,hb6,hc6,hr6⟩:=yng (HG.out.below Stable.int HbW.out) hxG;obtain⟨b7,o7,lv,rfl,hb7,hc7,hl7⟩:=ynd (Hp.out.below (Stable.sl Stable.link) HbW.out) (zG hvp);obtain⟨A8,c8,rfl,hF1,hF2⟩:=ybx hl7;obtain⟨ds,hds⟩:∃ds,g.ports[v]=ds:=⟨_,rfl⟩;have hdeg:yddq g v=ds.length:=by simp[yddq,zM,zG hvp,hds]
       rw[hds]at hc7 hF1;obtain⟨y,hy⟩:∃y,s[x]=y:=⟨_,rfl⟩;obtain⟨h,hh⟩:∃h,G[x]=h:=⟨_,rfl⟩;have Hy?:=zC (show s[x]?=some y by rw[zG hxl,hy])
       have hb?:(yek g G v)[x]?=some (if h = -1 then(-1,(ds.length:Int)-1)else(0,h)):=by
        simp[yek,hxG,hh,hdeg]
       rw[hy]at hc5 hr5;rw[hh]at hc6 hr6;obtain⟨hr5a,hr5b⟩:=hr5;obtain⟨hr6a,hr6b⟩:=hr6
       clear hl7 hds hdeg hy hh
       by_cases c2:h = -1
       .have c2':(h == -1)=true:=by simp[c2]
        rw[if_pos c2]at hb?;have Hb?:=zC hb?
        clear hb? c2
        by_cases c3:y < -1
        .have Hf:=zC (Hbad.out (fun h=>by have:=h.2 x _ y Hb?.out Hy?.out;simp only at this;omega))
         go_wp2
         go_quiet (fail)
         go_wp2
         go_quiet (fail)
         go_wp2
         go_ret
         exact⟨ybs Hf.out.symm,below_drewN HbW.out _⟩
        .by_cases c4:(ds.length:Int)-1<y
         .have Hf:=zC (Hbad.out (fun h=>by have:=h.2 x _ y Hb?.out Hy?.out;simp only at this;omega))
          go_wp2
          go_quiet (fail)
          go_wp2
          go_quiet (fail)
          go_wp2
          go_ret
          exact⟨ybs Hf.out.symm,below_drewN HbW.out _⟩
         .have c4d:decide ((ds.length:Int)-1<y)=false:=by simp;omega
          go_wp2
          go_quiet (fail)
          go_wp2
          go_quiet (fail)
          go_wp2
          go_roundg (gk-1)
          case measure=>omega
          case rel =>
           refine⟨x+1,_,by omega,by go_num,rfl,zC (fun j b z hj hb hz=>?_)⟩
           by_cases hjx:j<x
           .exact hst.out j b z hjx hb hz
           .obtain rfl:j=x:=by omega
            rw[Hb?.out]at hb;rw[Hy?.out]at hz;cases hb
            cases hz
            simp only;omega
       .have c2':(h == -1)=false:=by simp[c2]
        rw[if_neg c2]at hb?;have Hb?:=zC hb?
        clear hb? c2
        by_cases c3:y<0
        .have Hf:=zC (Hbad.out (fun h=>by have:=h.2 x _ y Hb?.out Hy?.out;simp only at this;omega))
         go_wp2
         go_quiet (fail)
         go_wp2
         go_ret
         exact⟨ybs Hf.out.symm,below_drewN HbW.out _⟩
        .by_cases c4:h<y
         .have Hf:=zC (Hbad.out (fun h=>by have:=h.2 x _ y Hb?.out Hy?.out;simp only at this;omega))
          go_wp2
          go_quiet (fail)
          go_wp2
          go_ret
          exact⟨ybs Hf.out.symm,below_drewN HbW.out _⟩
         .have c4d:decide (h<y)=false:=by simp;omega
          go_wp2
          go_quiet (fail)
          go_wp2
          go_roundg (gk-1)
          case measure=>omega
          case rel =>
           refine⟨x+1,_,by omega,by go_num,rfl,zC (fun j b z hj hb hz=>?_)⟩
           by_cases hjx:j<x
           .exact hst.out j b z hjx hb hz
           .obtain rfl:j=x:=by omega
            rw[Hb?.out]at hb;rw[Hy?.out]at hz;cases hb
            cases hz
            simp only;omega
      .obtain rfl:x=s.length:=by omega
       go_wp2
       go_roundg (go-1)
       case measure=>omega
       case rel =>
        refine⟨v+1,_,by omega,by go_num,rfl,zC (fun u s' hu hs'=>?_)⟩
        by_cases huv:u<v
        .exact hok.out u s' huv hs'
        .obtain rfl:u=v:=by omega
         rw[Hs?.out]at hs';cases hs'
         refine⟨by rw[yma,Hsl.out],fun j b z hb hz=>hst.out j b z (List.getElem?_eq_some_iff.1 hz).1 hb hz⟩
    .have c1':((s.length:Int)!=(G.length:Int))=true:=by simp;omega
     have Hf:=zC (Hbad.out (fun h=>c1 (by rw[h.1,yma])))
     clear c1
     go_wp2
     go_ret
     exact⟨ybs Hf.out.symm,below_drewN HbW.out _⟩
   .obtain rfl:v=c.length:=by omega
    have Ht:=zC (ybnl (n:=g.ports.length) (bs:=yek g G) (c:=c) ⟨Hn.out,fun v s hs=>hok.out v s (List.getElem?_eq_some_iff.1 hs).1 hs⟩)
    go_wp2
    go_ret
    exact⟨ybs Ht.out.symm,below_drewN HbW.out _⟩
 .have n1':((c.length:Int)!=(g.ids.length:Int))=true:=by simp;omega
  have Hf:=zC (ytw (n:=g.ports.length) (bs:=yek g G) (c:=c) (fun h=>n1 (h.1.trans hid.symm)))
  clear n1 hid
  go_enter zAE,zAO
  go_wp2
  go_ret
  exact⟨ybs Hf.out.symm,(Below.refl _ _).alloc (zL _) _⟩
end
section
namespace Sh
open Ev Go.RowKit
def clmV(kind:Int)(fair silent:Bool)(rounds moves:Int):List SV:=[.i .i64 kind,.b fair,.b silent,.i .i64 rounds,.i .i64 moves]
theorem ycgp{g:Gr}(hg:ybj g){c:Conf}(hR:ybyc c){G:List Int}(hG:∀x∈G,I64 x):Returns zD 89 [grV g,ycn c,ybc G] (.b (yvj g.ports.length (yek g G) c)):=by
 refine ybjw ⟨_,_,zAE,rfl⟩ (fun _=>.b) (fun _=>.simple rfl) fun H m us hH hr φ M w us' hRl hs hv=>?_
 obtain⟨u,us2,rfl,h1,h2⟩:∃u us2,us=u::us2/\RV H om0 (grV g) u/\RVL H om0 [ycn c,ybc G] us2:=by
  cases hr with|cons x y=>exact⟨_,_,rfl,x,y⟩
 obtain⟨u2,u3,rfl,h3,h4⟩:=rvl2 h2
 obtain⟨u',us3,rfl,h5,h6⟩:∃u' us3,us'=u'::us3/\VR φ u u'/\VRL φ [u2,u3] us3:=by
  cases hv with|cons x y=>exact⟨_,_,rfl,x,y⟩
 obtain⟨u2',u3',rfl,h7,h8⟩:=ybaj h6;exact yoy u' u2' u3' g c G w (ydct hH h1 h5 hRl hs (ydim hg)) (ydfc hH h3 h7 hRl hs hR) (ints_at hH h4 h8 hRl hs hG) hg
end Sh
end
section
open Go.RowKit
end
section
open Go.RowKit
end
section
namespace Sh
open Ev Go.RowKit
end Sh
end
section
namespace Sh
open Go Ev
def ywo:List Nat:=[0,1,1,2,1,2,2,3,1,2,2,3,2,3,3,4,1,2,2,3,2,3,3,4,2,3,3,4,3,4,4,5,1,2,2,3,2,3,3,4,2,3,3,4,3,4,4,5,2,3,3,4,3,4,4,5,3,4,4,5,4,5,5,6,1,2,2,3,2,3,3,4,2,3,3,4,3,4,4,5,2,3,3,4,3,4,4,5,3,4,4,5,4,5,5,6,2,3,3,4,3,4,4,5,3,4,4,5,4,5,5,6,3,4,4,5,4,5,5,6,4,5,5,6,5,6,6,7,1,2,2,3,2,3,3,4,2,3,3,4,3,4,4,5,2,3,3,4,3,4,4,5,3,4,4,5,4,5,5,6,2,3,3,4,3,4,4,5,3,4,4,5,4,5,5,6,3,4,4,5,4,5,5,6,4,5,5,6,5,6,6,7,2,3,3,4,3,4,4,5,3,4,4,5,4,5,5,6,3,4,4,5,4,5,5,6,4,5,5,6,5,6,6,7,3,4,4,5,4,5,5,6,4,5,5,6,5,6,6,7,4,5,5,6,5,6,6,7,5,6,6,7,6,7,7,8]
def ycyp:LO:=[o3 (.box 160 (.tmp 0)) 3 0,o3 (.box 27 (.tmp 1)) 4 0,o3 (.mv (ci' 0)) 6 0,o3 (.mv (ci' 0)) 7 4]
def yczs:LO:=[o3 (.build [.i .i64 0,.a (.nilFunc)] [(0,1,(ci' 1)),(1,1,(.func 176))]) 11 0,o3 (.build [.i .i64 0,.a (.nilFunc)] [(0,1,(ci' 2)),(1,1,(.func 177))]) 12 0,o3 (.build [.i .i64 0,.a (.nilFunc)] [(0,1,(ci' 3)),(1,1,(.func 178))]) 13 0,o3 (.bslice 210 2 3 [.i .i64 0,.a (.nilFunc),.i .i64 0,.a (.nilFunc),.i .i64 0,.a (.nilFunc)] [(0,2,(.tmp 11)),(2,2,(.tmp 12)),(4,2,(.tmp 13))]) 14 7,mv' 14 8 15]
def yclt:LO:=[mv' 8 15 0,ln' 15 16 1,o3 (.mv (ci' 0)) 17 0]
def ybkt:LO:=[bn' .lss 17 16 18 0]
def ybks:LO:=[ix' 2 15 17 19 0,ld' true 2 19 20 1,o3 (.alloc 210 1 [.i .i64 0,.a (.nilFunc)]) 10 0,o0 (.store 2 (.tmp 10) (.tmp 20)) 7]
def ybmx:LO:=[fa' 0 1 10 21 0,ld' false 1 21 22 1,fa' 1 1 3 23 0,ld' false 1 23 24 4,bn' .eql 22 24 25 15]
def ybnb:LO:=[fa' 1 1 10 26 0,ld' false 1 26 27 1,ld' true 6 3 28 0,ld' true 2 4 29 0,mv' 2 30 0,o3 (.call (.tmp 27) [(.tmp 28),(.tmp 29),(.tmp 30)]) 31 31,xt' 31 0 32 63,xt' 31 1 33 63,mv' 32 6 255,mv' 33 7 511]
def ybmv:LO:=[o3 (.bin .add (.tmp 17) (ci' 1)) 34 0,mv' 34 17 1]
def ybjx:LO:=[o3 (.mv (ci' 0)) 6 0,o3 (.mv (.const (.int .i64 (-1)))) 7 1]
def c132:SC:=(.seq (.reg false ycyp) (.seq (.reg false yczs) (.seq (.seq (.reg false yclt) (.block 0 (.loop (.seq (.reg false ybkt) (.seq (.cond (.tmp 18) .skip (.exit 0)) (.seq (.block 1 (.seq (.reg false ybks) (.seq (.reg false ybmx) (.cond (.tmp 25) (.seq (.reg false ybnb) .ret) .skip)))) (.reg false ybmv))))))) (.seq (.reg false ybjx) .ret))))
theorem ydeh:Fn 132 c132 [.t 6,.t 7]:=fn_0 Tryz.func132 (by kernel_rfl) (by kernel_rfl)
def ycmj:LO:=[o3 (.box 160 (.tmp 0)) 3 0,o3 (.box 27 (.tmp 1)) 4 0,o3 (.mv (ci' 0)) 6 0,o3 (.mv (ci' 0)) 7 4]
def ycsg:LO:=[fa' 2 1 3 8 0,ld' false 1 8 9 1,fa' 3 1 3 10 0,ld' false 1 10 11 4,fa' 4 1 3 12 0,ld' false 1 12 13 16,fa' 0 1 4 14 0,ld' false 1 14 15 64,ln' 15 16 192,bn' .mul 13 16 17 496,bn' .add 11 17 18 1020,fa' 5 1 3 19 0,ld' false 1 19 20 2048,fa' 0 1 4 21 0,ld' false 1 21 22 8192,cl' 54 [22] 23 24576,bn' .mul 20 23 24 63488,bn' .add 18 24 25 131068,mv' 9 6 57347,mv' 25 7 524287]
def c176:SC:=(.seq (.reg false ycmj) (.seq (.reg true ycsg) .ret))
theorem ydho:Fn 176 c176 [.t 6,.t 7]:=fn_0 Tryz.func176 (by kernel_rfl) (by kernel_rfl)
def ycxm:LO:=[o3 (.box 160 (.tmp 0)) 3 0,o3 (.box 27 (.tmp 1)) 4 0,o3 (.mv (ci' 0)) 6 0,o3 (.mv (ci' 0)) 7 4]
def ycot:LO:=[o3 (.mv (ci' 0)) 6 0,o3 (.mv (ci' 1)) 7 1]
def c177:SC:=(.seq (.reg false ycxm) (.seq (.reg false ycot) .ret))
theorem ydea:Fn 177 c177 [.t 6,.t 7]:=fn_0 Tryz.func177 (by kernel_rfl) (by kernel_rfl)
def ycsv:LO:=[o3 (.box 160 (.tmp 0)) 3 0,o3 (.box 27 (.tmp 1)) 4 0,o3 (.mv (ci' 0)) 6 0,o3 (.mv (ci' 0)) 7 4]
def ycsk:LO:=[fa' 1 1 4 8 0,ld' false 1 8 9 1,mv' 2 10 0,ix' 1 9 10 11 7,ld' false 1 11 12 15,ln' 12 13 31,o3 (.bin .sub (.tmp 13) (ci' 1)) 14 63,o3 (.mv (.const (.int .i64 (-1)))) 6 0,mv' 14 7 255]
def c178:SC:=(.seq (.reg false ycsv) (.seq (.reg true ycsk) .ret))
theorem ydie:Fn 178 c178 [.t 6,.t 7]:=fn_0 Tryz.func178 (by kernel_rfl) (by kernel_rfl)
def ydlu:LO:=[o3 (.box 32 (.tmp 0)) 2 0,o3 (.box 27 (.tmp 1)) 3 0,o3 (.mv (.const (.slice none 0 0))) 4 0]
def ydld:LO:=[fa' 0 1 3 9 0,ld' false 1 9 10 1,ln' 10 11 3,o3 (.mk 92 1 24 [.a (.slice none 0 0)] (.tmp 11) (.tmp 11)) 12 7,mv' 12 5 15]
def ydnn:LO:=[mv' 5 13 0,ln' 13 14 1,o3 (.mv (ci' 0)) 15 0]
def ydmz:LO:=[bn' .lss 15 14 16 0]
def yduf:LO:=[mv' 15 17 0,mv' 17 6 1]
def ydpj:LO:=[mv' 5 18 0,mv' 6 19 0,fa' 1 1 2 20 0,ld' false 1 20 21 4,ln' 21 22 12,o3 (.mk 91 2 16 [.i .i64 0,.i .i64 0] (.tmp 22) (.tmp 22)) 23 28,ix' 1 18 19 24 63,o0 (.store 1 (.tmp 24) (.tmp 23)) 127]
def ydof:LO:=[fa' 1 1 2 25 0,ld' false 1 25 26 1,ln' 26 27 3,o3 (.mv (ci' 0)) 28 0]
def ydnf:LO:=[bn' .lss 28 27 29 0]
def ydpb:LO:=[mv' 28 30 0,ix' 6 26 28 31 0,ld' true 6 31 32 2,o3 (.alloc 160 1 [.a (.string (ByteArray.mk #[])),.i .i64 0,.i .i64 0,.i .i64 0,.i .i64 0,.i .i64 0]) 8 0,mv' 30 7 15,o0 (.store 6 (.tmp 8) (.tmp 32)) 31]
def ydsp:LO:=[mv' 5 34 0,mv' 6 35 0,ix' 1 34 35 36 3,ld' false 1 36 37 7,mv' 7 38 0,mv' 5 39 0,mv' 6 40 0,ix' 1 39 40 41 96,ld' false 1 41 42 224,mv' 7 43 0,ld' true 6 8 44 0,ld' true 2 3 45 0,mv' 6 46 0,cl' 132 [44,45,46] 47 7168,mv' 47 33 15360,xt' 33 0 48 31744,xt' 33 1 49 31744,ix' 2 37 38 50 31,o3 (.idxA 2 1 (.tmp 50) (ci' 0)) 51 196095,o0 (.store 1 (.tmp 51) (.tmp 48)) 458239,ix' 2 42 43 52 992,o3 (.idxA 2 1 (.tmp 52) (ci' 1)) 53 2097151,o0 (.store 1 (.tmp 53) (.tmp 49)) 4194303]
def ycze:LO:=[o3 (.bin .add (.tmp 28) (ci' 1)) 54 0,mv' 54 28 1]
def ycrk:LO:=[o3 (.bin .add (.tmp 15) (ci' 1)) 55 0,mv' 55 15 1]
def ycth:LO:=[mv' 5 56 0,mv' 56 4 1]
def c63:SC:=(.seq (.reg false ydlu) (.seq (.reg false ydld) (.seq (.seq (.reg false ydnn) (.block 0 (.loop (.seq (.reg false ydmz) (.seq (.cond (.tmp 16) .skip (.exit 0)) (.seq (.block 1 (.seq (.reg false yduf) (.seq (.reg false ydpj) (.seq (.reg false ydof) (.block 2 (.loop (.seq (.reg false ydnf) (.seq (.cond (.tmp 29) .skip (.exit 2)) (.seq (.block 3 (.seq (.reg false ydpb) (.reg true ydsp))) (.reg false ycze)))))))))) (.reg false ycrk))))))) (.seq (.reg false ycth) .ret))))
theorem ydub:Fn 63 c63 [.t 4]:=fn_0 Tryz.func63 (by kernel_rfl) (by kernel_rfl)
def ycxi:LO:=[o3 (.box 91 (.tmp 1)) 4 0,o3 (.mv (ci' 0)) 6 0]
def ydat:LO:=[mv' 2 8 0,o3 (.idxA 2 1 (.tmp 4) (ci' 0)) 9 0,ld' false 1 9 10 2,bn' .geq 8 10 11 7,mv' 11 12 15,⟨.mv (.tmp 2),some 13,some (12,true),31⟩,⟨.idxA 2 1 (.tmp 4) (ci' 1),some 14,some (12,true),31⟩,⟨.load false 1 (.tmp 14),some 15,some (12,true),95⟩,⟨.bin .leq (.tmp 13) (.tmp 15),some 16,some (12,true),255⟩,o3 (.pick (.tmp 12) (.tmp 16) (.const (.bool false))) 17 511,mv' 17 7 1023]
def ycwa:LO:=[mv' 2 18 0,mv' 18 6 1]
def ycro:LO:=[mv' 0 20 0,o3 (.bin .eql (.tmp 20) (ci' 3)) 21 1,mv' 21 19 3]
def ycnd:LO:=[o3 (.mv (.const (.int .i64 (-1)))) 6 0]
def ycvm:LO:=[mv' 2 23 0,o3 (.idxA 2 1 (.tmp 4) (ci' 0)) 24 0,ld' false 1 24 25 2,bn' .lss 23 25 26 7,mv' 26 22 15]
def ycxk:LO:=[o3 (.idxA 2 1 (.tmp 4) (ci' 0)) 27 0,ld' false 1 27 28 1,mv' 28 6 3]
def ycuo:LO:=[o3 (.idxA 2 1 (.tmp 4) (ci' 1)) 29 0,ld' false 1 29 30 1,mv' 30 6 3]
def c170:SC:=(.seq (.reg false ycxi) (.seq (.block 0 (.seq (.reg false ydat) (.cond (.tmp 7) (.seq (.reg false ycwa) .ret) (.seq (.reg false ycro) (.cond (.tmp 19) (.seq (.reg false ycnd) .ret) (.seq (.reg false ycvm) (.cond (.tmp 22) (.seq (.reg false ycxk) .ret) .skip))))))) (.seq (.reg false ycuo) .ret)))
theorem ydjh:Fn 170 c170 [.t 6]:=fn_0 Tryz.func170 (by kernel_rfl) (by kernel_rfl)
def ydvg:LO:=[o3 (.box 32 (.tmp 0)) 2 0,o3 (.box 27 (.tmp 1)) 3 0,o3 (.mv (ci' 0)) 4 0]
def ydnz:LO:=[ld' true 3 2 9 0,cl' 130 [9] 10 1,o3 (.un .not (.tmp 10)) 11 3]
def ydmr:LO:=[o3 (.mv (ci' 8)) 4 0]
def ydsm:LO:=[ld' true 2 3 12 0,cl' 131 [12] 13 1,o3 (.un .not (.tmp 13)) 14 3]
def yduc:LO:=[o3 (.mv (ci' 1)) 4 0]
def yduy:LO:=[fa' 1 1 2 15 0,ld' false 1 15 16 1,ln' 16 17 3,o3 (.mv (ci' 0)) 18 0]
def ydpl:LO:=[bn' .lss 18 17 19 0]
def ydtn:LO:=[ix' 6 16 18 20 0,ld' true 6 20 21 1,o3 (.alloc 160 1 [.a (.string (ByteArray.mk #[])),.i .i64 0,.i .i64 0,.i .i64 0,.i .i64 0,.i .i64 0]) 6 0,o0 (.store 6 (.tmp 6) (.tmp 21)) 7]
def ydrs:LO:=[fa' 1 1 6 22 0,ld' false 1 22 23 1,o3 (.bin .neq (.tmp 23) (ci' 1)) 24 3]
def ydvi:LO:=[ld' true 6 6 26 0,ld' true 2 3 27 0,o3 (.call (.func 132) [(.tmp 26),(.tmp 27),(ci' 0)]) 28 3,mv' 28 25 7,xt' 25 0 29 15,xt' 25 1 30 15,mv' 29 7 31,mv' 30 8 127]
def ycoz:LO:=[mv' 8 31 0,mv' 7 32 0,bn' .lss 31 32 33 3,mv' 33 34 7,⟨.mv (.tmp 8),some 35,some (34,false),15⟩,⟨.mv (.tmp 7),some 36,some (34,false),15⟩,⟨.bin .sub (.tmp 35) (.tmp 36),some 37,some (34,false),63⟩,⟨.bin .add (.tmp 37) (ci' 1),some 38,some (34,false),127⟩,⟨.bin .gtr (.tmp 38) (ci' 4096),some 39,some (34,false),255⟩,o3 (.pick (.tmp 34) (.const (.bool true)) (.tmp 39)) 40 511]
def ydbe:LO:=[o3 (.mv (ci' 9)) 4 0]
def ycvr:LO:=[o3 (.bin .add (.tmp 18) (ci' 1)) 41 0,mv' 41 18 1]
def ycwo:LO:=[o3 (.mv (ci' 0)) 4 0]
def c62:SC:=(.seq (.reg false ydvg) (.seq (.seq (.reg false ydnz) (.cond (.tmp 11) (.seq (.reg false ydmr) .ret) .skip)) (.seq (.seq (.reg false ydsm) (.cond (.tmp 14) (.seq (.reg false yduc) .ret) .skip)) (.seq (.seq (.reg false yduy) (.block 0 (.loop (.seq (.reg false ydpl) (.seq (.cond (.tmp 19) .skip (.exit 0)) (.seq (.block 1 (.seq (.reg false ydtn) (.seq (.seq (.reg false ydrs) (.cond (.tmp 24) (.exit 1) .skip)) (.seq (.reg false ydvi) (.seq (.reg false ycoz) (.cond (.tmp 40) (.seq (.reg false ydbe) .ret) .skip)))))) (.reg false ycvr))))))) (.seq (.reg false ycwo) .ret)))))
theorem ydpz:Fn 62 c62 [.t 4]:=fn_0 Tryz.func62 (by kernel_rfl) (by kernel_rfl)
def ycse:LO:=[o3 (.box 32 (.tmp 0)) 2 0,o3 (.box 27 (.tmp 1)) 3 0,o3 (.mv (.const (.pointer none))) 4 0]
def ycnm:LO:=[ld' true 3 2 5 0,ld' true 3 2 6 0,ld' true 2 3 7 0,cl' 167 [6,7] 8 6,ld' true 3 2 9 0,ld' true 2 3 10 0,cl' 63 [9,10] 11 62,o3 (.build [.a (.string (ByteArray.mk #[])),.a (.slice none 0 0),.a (.slice none 0 0),.a (.pointer none),.a (.slice none 0 0)] [(0,3,(.tmp 5)),(3,1,(.tmp 8)),(4,1,(.tmp 11))]) 12 127,o3 (.box 200 (.tmp 12)) 13 255,mv' 13 4 511]
def c123:SC:=(.seq (.reg false ycse) (.seq (.reg true ycnm) .ret))
theorem ydbz:Fn 123 c123 [.t 4]:=fn_0 Tryz.func123 (by kernel_rfl) (by kernel_rfl)
def ycxf:LO:=[o3 (.mv (ci' 0)) 6 0]
def ycsf:LO:=[mv' 0 8 0,o3 (.nilck (.tmp 8)) 9 1,fa' 0 3 9 10 3,fa' 2 1 10 11 7,ld' false 1 11 12 15,ln' 12 13 31,o3 (.mv (ci' 0)) 14 0]
def ycud:LO:=[bn' .lss 14 13 15 0]
def ycrh:LO:=[mv' 14 16 0,mv' 16 7 1]
def ycvc:LO:=[mv' 0 17 0,o3 (.nilck (.tmp 17)) 18 1,fa' 3 1 18 19 3,ld' false 1 19 20 7,mv' 1 21 0,mv' 2 22 0,mv' 7 23 0,cl' 168 [20,21,22,23] 24 127]
def ycti:LO:=[mv' 7 25 0,mv' 25 6 1]
def ycnc:LO:=[o3 (.bin .add (.tmp 14) (ci' 1)) 26 0,mv' 26 14 1]
def ycpq:LO:=[o3 (.mv (.const (.int .i64 (-1)))) 6 0]
def c126:SC:=(.seq (.reg false ycxf) (.seq (.seq (.reg false ycsf) (.block 0 (.loop (.seq (.reg false ycud) (.seq (.cond (.tmp 15) .skip (.exit 0)) (.seq (.block 1 (.seq (.reg false ycrh) (.seq (.reg false ycvc) (.cond (.tmp 24) (.seq (.reg false ycti) .ret) .skip)))) (.reg false ycnc))))))) (.seq (.reg false ycpq) .ret)))
theorem ydhy:Fn 126 c126 [.t 6]:=fn_0 Tryz.func126 (by kernel_rfl) (by kernel_rfl)
def ycqp:LO:=[o3 (.mv (.const (.slice none 0 0))) 8 0]
def ydaa:LO:=[mv' 1 13 0,mv' 2 14 0,ix' 1 13 14 15 3,ld' false 1 15 16 7,o3 (.app 3 1 8 (.const (.slice none 0 0)) (.tmp 16)) 17 15,mv' 17 9 31]
def ycpj:LO:=[mv' 0 18 0,o3 (.nilck (.tmp 18)) 19 1,fa' 0 3 19 20 3,fa' 2 1 20 21 7,ld' false 1 21 22 15,mv' 3 23 0,ix' 3 22 23 24 63,fa' 2 1 24 25 127,ld' false 1 25 26 255,ln' 26 27 511,o3 (.mv (ci' 0)) 28 0]
def ycym:LO:=[bn' .lss 28 27 29 0]
def ycvs:LO:=[ix' 2 26 28 30 0,ld' true 2 30 31 1,o3 (.alloc 203 1 [.i .i64 0,.a (.slice none 0 0)]) 11 0,o0 (.store 2 (.tmp 11) (.tmp 31)) 7]
def yczf:LO:=[mv' 0 32 0,o3 (.nilck (.tmp 32)) 33 1,fa' 3 1 33 34 3,ld' false 1 34 35 7,mv' 1 36 0,mv' 2 37 0,fa' 1 1 11 38 0,ld' false 1 38 39 64,cl' 169 [35,36,37,39] 40 255,mv' 40 12 511]
def ycqo:LO:=[mv' 9 41 0,fa' 0 1 11 42 0,ld' false 1 42 43 2,mv' 0 44 0,o3 (.nilck (.tmp 44)) 45 8,fa' 0 3 45 46 24,fa' 1 1 46 47 56,ld' false 1 47 48 120,fa' 0 1 11 49 0,ld' false 1 49 50 256,ix' 6 48 50 51 1016,fa' 1 1 51 52 2040,ld' false 1 52 53 4088,mv' 0 54 0,o3 (.nilck (.tmp 54)) 55 8192,fa' 4 1 55 56 24576,ld' false 1 56 57 57344,mv' 2 58 0,ix' 1 57 58 59 253952,ld' false 1 59 60 516096,fa' 0 1 11 61 0,ld' false 1 61 62 1048576,ix' 2 60 62 63 4186112,ld' true 2 63 64 8380416,mv' 12 65 0,cl' 170 [53,64,65] 66 33554424,ix' 1 41 43 67 67108863,o0 (.store 1 (.tmp 67) (.tmp 66)) 134217727]
def ycxn:LO:=[o3 (.bin .add (.tmp 28) (ci' 1)) 68 0,mv' 68 28 1]
def ycwm:LO:=[mv' 9 69 0,mv' 69 8 1]
def c127:SC:=(.seq (.reg false ycqp) (.seq (.reg false ydaa) (.seq (.seq (.reg false ycpj) (.block 0 (.loop (.seq (.reg false ycym) (.seq (.cond (.tmp 29) .skip (.exit 0)) (.seq (.block 1 (.seq (.reg false ycvs) (.seq (.reg true yczf) (.reg true ycqo)))) (.reg false ycxn))))))) (.seq (.reg false ycwm) .ret))))
theorem ycgn:FnM 127 c127 [.t 8]:=fn_m Tryz.func127 (by kernel_rfl) (by kernel_rfl)
def ycxt:LO:=[o3 (.mv (ci' 0)) 2 0]
def ydbm:LO:=[mv' 0 3 0,o3 (.bin .shr (.tmp 3) (.const (.int .u64 24))) 4 1,o3 (.stri ywo (.tmp 4)) 5 3,mv' 0 6 0,o3 (.bin .shr (.tmp 6) (.const (.int .u64 16))) 7 8,o3 (.bin .and (.tmp 7) (.const (.int .u32 255))) 8 24,o3 (.stri ywo (.tmp 8)) 9 56,bn' .add 5 9 10 127,mv' 0 11 0,o3 (.bin .shr (.tmp 11) (.const (.int .u64 8))) 12 256,o3 (.bin .and (.tmp 12) (.const (.int .u32 255))) 13 768,o3 (.stri ywo (.tmp 13)) 14 1792,bn' .add 10 14 15 4095,mv' 0 16 0,o3 (.bin .and (.tmp 16) (.const (.int .u32 255))) 17 8192,o3 (.stri ywo (.tmp 17)) 18 24576,bn' .add 15 18 19 65535,o3 (.conv .i64 (.tmp 19)) 20 131071,mv' 20 2 262143]
def c113:SC:=(.seq (.reg false ycxt) (.seq (.reg true ydbm) .ret))
theorem ydem:Fn 113 c113 [.t 2]:=fn_0 Tryz.func113 (by kernel_rfl) (by kernel_rfl)
def ydax:LO:=[o3 (.box 27 (.tmp 0)) 1 0,o3 (.mv (.const (.slice none 0 0))) 2 0]
def yctz:LO:=[fa' 1 1 1 8 0,ld' false 1 8 9 1,ln' 9 10 3,o3 (.mk 77 1 4 [.i .u32 0] (.tmp 10) (.tmp 10)) 11 7,mv' 11 3 15]
def ydam:LO:=[fa' 1 1 1 12 0,ld' false 1 12 13 1,ln' 13 14 3,o3 (.mv (ci' 0)) 15 0]
def yctt:LO:=[bn' .lss 15 14 16 0]
def ycst:LO:=[mv' 15 17 0,ix' 1 13 15 18 0,ld' false 1 18 19 2,mv' 17 4 7,mv' 19 5 15]
def ycyx:LO:=[mv' 5 20 0,ln' 20 21 1,o3 (.mv (ci' 0)) 22 0]
def ycrc:LO:=[bn' .lss 22 21 23 0]
def ycyd:LO:=[ix' 2 20 22 24 0,ld' true 2 24 25 1,o3 (.alloc 68 1 [.i .i64 0,.i .i64 0]) 7 0,o0 (.store 2 (.tmp 7) (.tmp 25)) 7]
def ycqf:LO:=[mv' 3 26 0,mv' 4 27 0,ix' 1 26 27 28 3,ld' false 1 28 29 7,fa' 0 1 7 30 0,ld' false 1 30 31 16,o3 (.bin .shl (.const (.int .u32 1)) (.tmp 31)) 32 48,bn' .or 29 32 33 127,ix' 1 26 27 34 255,o0 (.store 1 (.tmp 34) (.tmp 33)) 511]
def yczc:LO:=[o3 (.bin .add (.tmp 22) (ci' 1)) 35 0,mv' 35 22 1]
def ycew:LO:=[o3 (.bin .add (.tmp 15) (ci' 1)) 36 0,mv' 36 15 1]
def ybrw:LO:=[mv' 3 37 0,mv' 37 2 1]
def c124:SC:=(.seq (.reg false ydax) (.seq (.reg false yctz) (.seq (.seq (.reg false ydam) (.block 0 (.loop (.seq (.reg false yctt) (.seq (.cond (.tmp 16) .skip (.exit 0)) (.seq (.block 1 (.seq (.reg false ycst) (.seq (.reg false ycyx) (.block 2 (.loop (.seq (.reg false ycrc) (.seq (.cond (.tmp 23) .skip (.exit 2)) (.seq (.block 3 (.seq (.reg false ycyd) (.reg true ycqf))) (.reg false yczc))))))))) (.reg false ycew))))))) (.seq (.reg false ybrw) .ret))))
theorem ydcy:Fn 124 c124 [.t 2]:=fn_0 Tryz.func124 (by kernel_rfl) (by kernel_rfl)
def ycpg:LO:=[o3 (.mv (.const (.bool false))) 8 0]
def ycmh:LO:=[mv' 3 9 0,o3 (.bin .eql (.tmp 9) (.const (.int .u32 0))) 10 1,mv' 10 11 3,⟨.mv (.tmp 3),some 12,some (11,false),7⟩,⟨.mv (.tmp 2),some 13,some (11,false),7⟩,⟨.bin .andNot (.tmp 12) (.tmp 13),some 14,some (11,false),31⟩,⟨.bin .neq (.tmp 14) (.const (.int .u32 0)),some 15,some (11,false),63⟩,o3 (.pick (.tmp 11) (.const (.bool true)) (.tmp 15)) 16 127]
def ydxd:LO:=[o3 (.mv (.const (.bool false))) 8 0]
def ycuk:LO:=[mv' 1 17 0]
def yczq:LO:=[o3 (.bin .eql (.tmp 17) (ci' 1)) 19 0,mv' 19 18 1]
def ydte:LO:=[mv' 3 20 0,mv' 3 21 0,o3 (.bin .sub (.tmp 21) (.const (.int .u32 1))) 22 2,bn' .and 20 22 23 7,o3 (.bin .eql (.tmp 23) (.const (.int .u32 0))) 24 15,mv' 24 8 31]
def ycts:LO:=[o3 (.bin .eql (.tmp 17) (ci' 2)) 26 0,mv' 26 25 1]
def ydlg:LO:=[mv' 0 27 0,mv' 3 28 0,cl' 206 [27,28] 29 3,mv' 29 8 7]
def ycxc:LO:=[o3 (.bin .eql (.tmp 17) (ci' 4)) 31 0,mv' 31 30 1]
def ydxr:LO:=[mv' 3 32 0,mv' 2 33 0,bn' .eql 32 33 34 3,mv' 34 8 7]
def ybvk:LO:=[o3 (.mv (.const (.bool true))) 8 0]
def c171:SC:=(.seq (.reg false ycpg) (.seq (.seq (.reg false ycmh) (.cond (.tmp 16) (.seq (.reg false ydxd) .ret) .skip)) (.seq (.seq (.reg false ycuk) (.block 0 (.seq (.reg false yczq) (.cond (.tmp 18) (.seq (.reg false ydte) .ret) (.seq (.reg false ycts) (.cond (.tmp 25) (.seq (.reg false ydlg) .ret) (.seq (.reg false ycxc) (.cond (.tmp 30) (.seq (.reg false ydxr) .ret) .skip)))))))) (.seq (.reg false ybvk) .ret))))
theorem ydfd:Fn 171 c171 [.t 8]:=fn_0 Tryz.func171 (by kernel_rfl) (by kernel_rfl)
def ydti:LO:=[o3 (.mv (.const (.bool false))) 2 0]
def ydxe:LO:=[mv' 0 3 0,o3 (.bin .geq (.tmp 3) (ci' 1)) 4 1,mv' 4 5 3,⟨.mv (.tmp 0),some 6,some (5,true),7⟩,⟨.bin .leq (.tmp 6) (ci' 4),some 7,some (5,true),15⟩,o3 (.pick (.tmp 5) (.tmp 7) (.const (.bool false))) 8 31,mv' 8 2 63]
def c57:SC:=(.seq (.reg false ydti) (.seq (.reg false ydxe) .ret))
theorem ydlz:Fn 57 c57 [.t 2]:=fn_0 Tryz.func57 (by kernel_rfl) (by kernel_rfl)
end Sh
end
section
namespace Sh
open Go Ev
theorem mulB{a b:Int}(ha:InB a)(hb:InB b):-1152921504606846976<=a*b/\a*b<=1152921504606846976:=by
 unfold InB at *
 have h:(a*b).natAbs<=1073741824*1073741824:=by
  rw[zAL];exact zAM (by omega) (by omega)
 omega
theorem yel(b:Bool):Returns zD 240 [.b b] (.i .i64 (ygd b)):=by
 refine Returns.of (ydcu _ _ ?_);simp only[c240,ycmx,ycno,ycog,ycyv,yx,ygd,go_sem,↓reduceIte,reduceCtorEq];cases b<;>simp
theorem yeg(a:Int):Returns zD 242 [.i .i64 a] (.i .i64 (satP a)):=by
 refine Returns.of (yddu _ _ ?_);simp only[c242,ycrj,ycqg,yx,satP,go_sem,zA,zB,↓reduceIte,reduceCtorEq]
theorem ydqj{a b:Int}(ha:InB a):-1073741824<=a.tdiv b/\a.tdiv b<=1073741824:=by
 have h1:(a.tdiv b).natAbs=a.natAbs/b.natAbs:=Int.natAbs_tdiv a b;have h2:a.natAbs/b.natAbs<=a.natAbs:=Nat.div_le_self _ _;rw[<-h1]at h2;unfold InB at ha;omega
theorem ycir{a b:Int}(ha:InB a):-1073741825<=yvv a b/\yvv a b<=1073741824:=by
 have:=ydqj (b:=b) ha;unfold yvv;split
 .omega
 .split<;>omega
theorem ycat{a b:Int}(ha:InB a)(hb:InB b):-1152921505680588800<=b*yvv a b/\b*yvv a b<=1152921505680588800:=by
 have h1:=ycir (b:=b) ha
 have h:(b*yvv a b).natAbs<=1073741824*1073741825:=by
  unfold InB at *;rw[zAL];exact zAM (by omega) (by omega)
 omega
theorem ybzq(op a:Int)(ha:InB a):Returns zD 221 [.i .i64 op,.i .i64 a] (.i .i64 (unP op a)):=by
 refine Returns.of (ydfa _ _ ?_);simp only[c221,ycvf,ycuq,ycof,ydbl,yx,unP,IntKind.signed,go_sem,zA,zB,↓reduceIte,reduceCtorEq];unfold InB at ha;refine⟨fun h=>⟨ikw (by omega) (by omega),by rw[if_pos h];omega⟩,fun h=>(yel _).use ?_⟩
 simp only[ybg,yx,go_sem,zA,zB,↓reduceIte,reduceCtorEq];rw[if_neg h]
theorem yri(a b:Int)(ha:InB a):Returns zD 243 [.i .i64 a,.i .i64 b] (.i .i64 (yvv a b)):=by
 refine Returns.of (ydfu _ _ ?_);simp only[c243,ycpp,ycwf,yctd,yczx,ycwl,ycpc,ycuf,yx,yvv,go_sem,zA,zB,↓reduceIte,reduceCtorEq];have:=ydqj (b:=b) ha;refine⟨fun h=>by rw[if_pos h],fun h=>⟨⟨h,ikw (by omega) (by omega)⟩,h,fun h1=>⟨fun h2=>⟨ikw (by omega) (by omega),?_⟩,fun h2=>?_⟩,fun h1=>?_⟩⟩
 .rw[if_neg h,if_pos ⟨h1,h2⟩]
 .rw[if_neg h,if_neg (fun q=>q.2 h2)]
 .rw[if_neg h,if_neg (fun q=>q.1 h1)]
theorem ybce(op a b:Int):Returns zD 244 [.i .i64 op,.i .i64 a,.i .i64 b] (.b (cmpP op a b)):=by
 refine Returns.of (ydhf _ _ ?_);simp only[c244,yczk,ycuh,ycsb,ycye,ycsu,ydaz,ycxa,ycry,yczr,ycmt,ybwi,ybsh,ybxi,ytr,cmpP,go_sem,zA,zB,↓reduceIte,reduceCtorEq];refine⟨fun h=>by rw[if_pos h],fun h35=>⟨fun h=>by rw[if_neg h35,if_pos h],fun h36=>⟨fun h=>by rw[if_neg h35,if_neg h36,if_pos h],fun h37=>⟨fun h=>by rw[if_neg h35,if_neg h36,if_neg h37,if_pos h],fun h38=>⟨fun h=>by rw[if_neg h35,if_neg h36,if_neg h37,if_neg h38,if_pos h],fun h39=>by rw[if_neg h35,if_neg h36,if_neg h37,if_neg h38,if_neg h39]⟩⟩⟩⟩⟩
theorem ybox(op a b:Int)(ha:InB a)(hb:InB b):Returns zD 223 [.i .i64 op,.i .i64 a,.i .i64 b] (.i .i64 (binP op a b)):=by
 refine Returns.of (ydes _ _ ?_);simp only[c223,ycng,ycrv,ycyr,yctc,ycvv,ycnl,ycnh,ydaf,ydai,ycna,ybvg,ybvw,ycaj,ybwc,ybub,ycdh,ybvo,ybwy,ybyh,yx,go_sem,zA,zB,↓reduceIte,reduceCtorEq];have hm:=mulB ha hb;have hq:=ycat ha hb;have hA:=ha;have hB:=hb;unfold InB at hA hB;refine⟨fun h=>⟨ikw (by omega) (by omega),(yeg _).use ?_⟩,fun h30=>⟨fun h=>(yri a b ha).use ?_,fun h31=>⟨fun h=>⟨fun h0=>?_,fun h0=>(yri a b ha).use ?_⟩,fun h32=>⟨fun h=>⟨ikw (by omega) (by omega),(yeg _).use ?_⟩,fun h33=>⟨fun h=>⟨ikw (by omega) (by omega),(yeg _).use ?_⟩,fun h34=>?_⟩⟩⟩⟩⟩
 .simp only[ybg,yx,go_sem,zA,zB,↓reduceIte,reduceCtorEq];simp[binP,h]
 .simp only[ybg,go_sem,zA,zB,↓reduceIte,reduceCtorEq];refine(yeg _).use ?_;simp only[yx,go_sem];simp[binP,h]
 .simp[binP,h,h0]
 .simp only[ybg,go_sem,zA,zB,↓reduceIte,reduceCtorEq];refine⟨ikw (by omega) (by omega),ikw (by omega) (by omega),(yeg _).use ?_⟩
  simp only[yx,go_sem];simp[binP,h,h0]
 .simp only[ybg,yx,go_sem,zA,zB,↓reduceIte,reduceCtorEq];simp[binP,h]
 .simp only[ybg,yx,go_sem,zA,zB,↓reduceIte,reduceCtorEq];simp[binP,h]
 .refine⟨fun h=>?_,fun h41=>⟨fun h=>?_,fun h42=>?_⟩⟩
  .refine⟨fun h1=>(yel _).use ?_,fun h1=>(yel _).use ?_⟩
   .simp only[ybg,yx,go_sem,zA,zB,↓reduceIte,reduceCtorEq];simp[binP,h];rw[show(a != 0)=true by simpa using h1];simp
   .simp only[ybg,yx,go_sem,zA,zB,↓reduceIte,reduceCtorEq];simp[binP,h,h1]
  .refine⟨fun h1=>(yel _).use ?_,fun h1=>(yel _).use ?_⟩
   .simp only[ybg,yx,go_sem,zA,zB,↓reduceIte,reduceCtorEq];simp[binP,h,h1]
   .simp only[ybg,yx,go_sem,zA,zB,↓reduceIte,reduceCtorEq];simp[binP,h];rw[show(a != 0)=true by simpa using h1];simp
  .refine(ybce op a b).use ?_;simp only[ybg,go_sem,zA,zB,↓reduceIte,reduceCtorEq];refine(yel _).use ?_;simp only[yx,go_sem];simp[binP,h30,h31,h32,h33,h34,h41,h42]
end Sh
end
section
namespace Sh
open Go Ev
theorem ytx{l:List Int}{k:Nat}(h:k<l.length):countP (l.take (k+1))=countP (l.take k)+(if l.getD k 0≠0 then 1 else 0):=by
 unfold countP;rw[zF h,List.filter_append,zAC,getD_at h]
 by_cases q:l[k]=0
 .simp[q]
 .simp[q]
theorem ybhq{l:List Int}(k:Nat):0<=countP (l.take k)/\countP (l.take k)<=k:=by
 have:=countP_le (l.take k);simp only[List.length_take]at this;omega
theorem ycar(l:List Int)(hl:l.length<=1000):Returns zD 250 [ybc l] (.i .i64 (countP l)):=by
 refine Returns.of (ydck _ _ ?_);simp only[c250,ycsq,yczy,ycrg,ybc,go_sem,zB,↓reduceIte,reduceCtorEq];refine ybd (σ:=Nat) (fun k=>⟨[(8,.i .i64 k),(3,.i .i64 (countP (l.take k))),(6,ybc l),(7,.i .i64 l.length)],[]⟩) (fun k=>k<=l.length) (fun k=>l.length-k) 0 (zN _) ?_ ?_
 .refine yh [] [] [] ?_;simp only[ybc,allQ,live,yc,yx,zJ,go_sem,zA,↓reduceIte,reduceCtorEq];simp[countP]
 .intro k hk;simp only[ydae,ycuc,yclz,ycxs,ycto,ycvz,ybc,yx,go_sem,zA,zB,↓reduceIte,reduceCtorEq];have hb:=ybhq (l:=l) k;refine⟨fun hlt=>⟨by omega,fun h0=>⟨ikw (by omega) (by omega),ikw (by omega) (by omega),?_⟩,fun h0=>⟨ikw (by omega) (by omega),?_⟩⟩,fun hlt=>?_⟩
  .have hk':k<l.length:=by omega
   refine yj (k+1) (by omega) (by omega) ?_
   refine yh [] [] [] ?_;simp only[ytx hk',if_pos h0,allQ,live,yc,yx,go_sem,zA,↓reduceIte,reduceCtorEq];simp
  .have hk':k<l.length:=by omega
   refine yj (k+1) (by omega) (by omega) ?_
   refine yh [] [] [] ?_;simp only[ytx hk',if_neg (not_not_intro h0),allQ,live,yc,yx,go_sem,zA,↓reduceIte,reduceCtorEq];simp
  .rw[zO (by omega)]
theorem yqt{l:List Int}{k:Nat}(h:k<l.length):ydq (l.take (k+1))=(if l.getD k 0>(ydq (l.take k)).1 then(l.getD k 0,(ydq (l.take k)).1)else((ydq (l.take k)).1,max (ydq (l.take k)).2 (l.getD k 0))):=by
 unfold ydq;rw[zF h,zW,getD_at h];rfl
theorem yti(l:List Int)(hl:l.length<=1000):Returns zD 253 [ybc l] (.tp [.i .i64 (ydq l).1,.i .i64 (ydq l).2]):=by
 refine Returns.of (ydel _ _ ?_);simp only[c253,yctn,ycyj,ycol,ybc,go_sem,zB,↓reduceIte,reduceCtorEq];refine ybd (σ:=Nat) (fun k=>⟨[(8,.i .i64 k),(2,.i .i64 (ydq (l.take k)).1),(3,.i .i64 (ydq (l.take k)).2),(6,ybc l),(7,.i .i64 l.length)],[]⟩) (fun k=>k<=l.length) (fun k=>l.length-k) 0 (zN _) ?_ ?_
 .refine yh [] [] [] ?_;simp only[ybc,allQ,live,yc,yx,zJ,go_sem,zA,↓reduceIte,reduceCtorEq];simp[ydq]
 .intro k hk;simp only[ydao,ycpt,ycmd,ycmm,ydan,ycql,ycsj,ybc,go_sem,zA,zB,↓reduceIte,reduceCtorEq];refine⟨fun hlt=>⟨by omega,fun h0=>⟨ikw (by omega) (by omega),?_⟩,fun h0=>⟨ikw (by omega) (by omega),?_⟩⟩,fun hlt=>?_⟩
  .have hk':k<l.length:=by omega
   refine yj (k+1) (by omega) (by omega) ?_
   refine yh [] [] [] ?_;simp only[yqt hk',if_pos h0,allQ,live,yc,yx,go_sem,zA,↓reduceIte,reduceCtorEq];simp
  .have hk':k<l.length:=by omega
   refine yj (k+1) (by omega) (by omega) ?_
   refine yh [] [] [] ?_;simp only[yqt hk',if_neg h0,allQ,live,yc,yx,go_sem,zA,↓reduceIte,reduceCtorEq];simp
  .rw[zO (by omega)]
   exact Sim.refl _
theorem ybei(l:List Int)(x:Int)(hl:l.length<=100000):Returns zD 258 [ybc l,.i .i64 x] (.b (l.elem x)):=by
 refine Returns.of (ydfx _ _ ?_);simp only[c258,ycyc,ycpr,ybc,go_sem,zA,zB,↓reduceIte,reduceCtorEq];refine(ybvi l x hl).use ?_;simp only[ybg,ytr,go_sem,zA,zB,↓reduceIte,reduceCtorEq];unfold idxP;cases h:l.findIdx? (fun y=>x==y)with
 | none =>
   rw[zX]at h
   have:l.elem x=false:=by
    rw[zAI,decide_eq_false_iff_not];intro hm;have:=h x hm;simp at this
   rw[this];simp
 | some i =>
   obtain⟨h1,h2,_⟩:=List.findIdx?_eq_some_iff_getElem.1 h
   have:l.elem x=true:=by
    rw[zAI,decide_eq_true_eq];have:x=l[i]:=by simpa using h2
    rw[this];exact zK h1
   rw[this];simp
theorem ybps{l:List Int}{n:Nat}{r:Int}(h:l.elem r=true):yuz l (n+1) r=yuz l n (r+1):=by
 show(if l.elem r then _ else _)=_;rw[if_pos h]
theorem ybnk{l:List Int}{n:Nat}{r:Int}(h:l.elem r=false):yuz l n r=r:=by
 cases n with
 |zero=>rfl
 |succ n=>show(if l.elem r then _ else _)=_;rw[if_neg (by rw[h];simp)]
theorem ybbq{l:List Int}{k:Nat}(h:∀j:Nat,j<k->l.elem (j:Int)=true):k<=l.length:=by
 have h1:((zAJ k).map fun(j:Nat)=>(j:Int)).Nodup:=by
  rw[List.Nodup,List.pairwise_map];exact List.nodup_range.imp fun {a b} hab e=>hab (by omega)
 have h2:((zAJ k).map fun(j:Nat)=>(j:Int)) ⊆ l:=fun x hx=>by
  obtain⟨j,hj,rfl⟩:=List.mem_map.1 hx;have:=h j (List.mem_range.1 hj)
  simpa using this
 have:=List.Nodup.length_le_of_subset h1 h2
 simpa using this
theorem ydiu(l:List Int)(hl:l.length<=1000):Returns zD 254 [ybc l] (.i .i64 (mexP l)):=by
 refine Returns.of (ydjg _ _ ?_);simp only[c254,ycma,ycpf,ybc,go_sem];refine ybd (σ:=Nat) (fun k=>⟨[(3,.i .i64 k),(0,ybc l)],[]⟩) (fun k=>(∀j:Nat,j<k->l.elem (j:Int)=true)/\mexP l=yuz l (l.length+1-k) k) (fun k=>l.length+1-k) 0 ⟨fun j h=>absurd h (Nat.not_lt_zero _),rfl⟩ ?_ ?_
 .refine yh [] [] [] ?_;simp only[ybc,allQ,live,yc,zJ,go_sem,↓reduceIte,reduceCtorEq]
 .intro k ⟨hk,he⟩;have hb:=ybbq hk;simp only[yclp,yczj,ycsz,ybc,go_sem,zA,zB,↓reduceIte,reduceCtorEq];refine(ybei l k (by omega)).use ?_
  simp only[ybg,yx,go_sem,zA,zB,↓reduceIte,reduceCtorEq];refine⟨fun h=>⟨ikw (by omega) (by omega),?_⟩,fun h=>?_⟩
  .have hk2:∀j:Nat,j<k+1->l.elem (j:Int)=true:=fun j hj=>by
    by_cases q:j<k
    .exact hk j q
    .obtain rfl:j=k:=by omega
     exact h
   have hb2:=ybbq hk2;refine yj (k+1) ⟨hk2,?_⟩ (by omega) ?_
   .rw[he,show l.length+1-k=(l.length+1-(k+1))+1 by omega,ybps h];simp
   .refine yh [] [] [] ?_;simp only[allQ,live,yc,yx,go_sem,↓reduceIte,reduceCtorEq];simp
  .rw[he,ybnk h]
theorem ycay(x:Int):Returns zD 252 [.i .i64 x] (.b (x != 0)):=by
 refine Returns.of (ydgf _ _ ?_);simp only[c252,yclu,ycsx,ytr,go_sem,zA,zB,↓reduceIte,reduceCtorEq]
theorem yzb(l:List Int)(hl:l.length<=1000):Returns zD 251 [ybc l,.fn 252 [] []] (.i .i64 (ygh l)):=by
 refine Returns.of (ydev _ _ ?_);simp only[c251,ycsr,ycxo,ybc,go_sem,zB,↓reduceIte,reduceCtorEq];refine ybd (σ:=Nat) (fun k=>⟨[(8,.i .i64 k),(0,ybc l),(1,.fn 252 [] []),(7,.i .i64 l.length)],[]⟩) (fun k=>k<=l.length/\(l.take k).findIdx? (· != 0)=none) (fun k=>l.length-k) 0 ⟨zN _,by simp⟩ ?_ ?_
 .refine yh [] [] [] ?_;simp only[ybc,allQ,live,yc,zJ,go_sem,zA,↓reduceIte,reduceCtorEq]
 .intro k ⟨hk,hno⟩;simp only[ycok,ycuz,ydac,ydba,ycvu,ycqa,ybc,yx,go_sem,zA,zB,↓reduceIte,reduceCtorEq];refine⟨fun hlt=>⟨by omega,(ycay _).use ?_⟩,fun hlt=>?_⟩
  .have hlt:k<l.length:=by omega
   simp only[ybg,yx,go_sem,zA,zB,↓reduceIte,reduceCtorEq];rw[getD_at hlt];refine⟨fun ha=>?_,fun ha=>⟨ikw (by omega) (by omega),?_⟩⟩
   .have:l.findIdx? (· != 0)=some k:=by
     rw[List.findIdx?_eq_some_iff_getElem];refine⟨hlt,by simpa using ha,fun j hj=>?_⟩
     rw[zX]at hno;have:=hno l[j] (List.mem_take_iff_getElem.2 ⟨j,by omega,rfl⟩)
     simpa using this
    unfold ygh;rw[this]
   .refine yj (k+1) ⟨by omega,?_⟩ (by omega) ?_
    .rw[zF hlt,List.findIdx?_append,hno];simp[ha]
    .refine yh [] [] [] ?_;simp only[allQ,live,yc,yx,go_sem,zA,↓reduceIte,reduceCtorEq];simp
  .obtain rfl:k=l.length:=by omega
   rw[zAF]at hno;unfold ygh;rw[hno]
end Sh
end
section
namespace Sh
open Go Ev
theorem ybhw{l:List Int}{k:Nat}(h:k<l.length):yqy (l.take (k+1))=min (yqy (l.take k)) (l.getD k 0):=by
 unfold yqy;rw[zF h,zW,getD_at h];rfl
theorem yyj{l:List Int}{k:Nat}(h:k<l.length):(l.take (k+1)).sum=(l.take k).sum+l.getD k 0:=by
 rw[zF h,List.sum_append,getD_at h];simp
theorem ybsi{l:List Int}(h:∀x∈l,InB x):∀k,k<=l.length -> -1073741824*(k:Int)<=(l.take k).sum/\(l.take k).sum<=1073741824*(k:Int)
 |0,_=>by simp
 | k+1,hk=>by
   have ih:=ybsi h k (by omega)
   rw[yyj (by omega)]
   have:=h l[k] (zK (by omega))
   rw[<-getD_at (d:=0) (show k<l.length by omega)]at this
   unfold InB at this;omega
theorem ycfs(op:Int)(l:List Int)(hl:l.length<=24)(hb:∀x∈l,InB x):Returns zD 241 [.i .i64 op,ybc l] (.i .i64 (yje op l)):=by
 refine Returns.of (ydih _ _ ?_);have hin:∀k,k<l.length->InB (l.getD k 0):=fun k hk=>by rw[getD_at hk];exact hb _ (zK hk)
 obtain⟨L,hL⟩:∃L,ybc l=L:=⟨_,rfl⟩;have hLs:L = .sl 1 l.length (fun k=>[.i .i64 (l.getD k 0)]):=hL.symm;simp only[c241,ycnb,ycvb,ycpx,yctr,ycpe,ycwe,ycws,ycvy,yctp,ycya,yccd,yced,ycbm,yccr,ycaf,ybst,ybvd,ybtp,ybzv,ybza,ybsd,ycag,ycdp,ycak,ybuz,yccf,ycbj,ycdj,ybvz,yccu,ybzm,ybye,ycck,ycax,ybyp,ybxf,ybuh,ybc,go_sem,zAK,zA,zB,↓reduceIte,reduceCtorEq];have hcount:=ycar l (by omega)
 have htwo:=yti l (by omega)
 simp only[ybc]at hcount htwo;refine⟨fun h20=>hcount.use ?_,fun h20=>⟨fun h21=>hcount.use ?_,fun h21=>⟨fun h22=>hcount.use ?_,fun h22=>⟨fun h23=>?_,fun h23=>⟨fun h24=>?_,fun h24=>⟨fun h25=>htwo.use ?_,fun h25=>⟨fun h26=>?_,fun h26=>⟨fun h27=>?_,fun h27=>⟨fun h28=>htwo.use ?_,fun h28=>?_⟩⟩⟩⟩⟩⟩⟩⟩⟩
 .simp only[ybg,go_sem,zA,zB,↓reduceIte,reduceCtorEq];refine(yel _).use ?_;simp only[yx,go_sem];simp[yje,h20]
 .simp only[ybg,go_sem,zA,zB,↓reduceIte,reduceCtorEq];refine(yel _).use ?_;simp only[yx,go_sem];simp[yje,h21]
 .simp only[ybg,yx,go_sem,zA,zB,↓reduceIte,reduceCtorEq];simp[yje,h22]
 .have:=yzb l (by omega)
  simp only[ybc]at this;refine this.use ?_;simp only[ybg,yx,go_sem,zA,zB,↓reduceIte,reduceCtorEq];simp[yje,h23]
 .refine ybd (σ:=Nat) (fun k=>⟨[(42,.i .i64 k),(5,.i .i64 (yqy (l.take k))),(40,ybc l),(41,.i .i64 l.length)],[]⟩) (fun k=>k<=l.length) (fun k=>l.length-k) 0 (zN _) ?_ ?_
  .refine yh [] [] [] ?_;simp only[ybc,allQ,live,yc,yx,zJ,go_sem,zA,↓reduceIte,reduceCtorEq];simp[yqy]
  .intro k hk;simp only[ybc,yx,go_sem,zA,zB,↓reduceIte,reduceCtorEq];refine⟨fun hlt=>⟨by omega,ikw (by omega) (by omega),?_⟩,fun hlt=>?_⟩
   .have hk':k<l.length:=by omega
    refine yj (k+1) (by omega) (by omega) ?_
    refine yh [] [] [] ?_;simp only[ybhw hk',allQ,live,yc,yx,go_sem,zA,↓reduceIte,reduceCtorEq];simp
   .rw[zO (by omega)]
    simp[yje,h24]
 .simp only[ybg,yx,go_sem,zA,zB,↓reduceIte,reduceCtorEq];simp[yje,h25]
 .refine ybd (σ:=Nat) (fun k=>⟨[(63,.i .i64 k),(10,.i .i64 (l.take k).sum),(61,ybc l),(62,.i .i64 l.length)],[]⟩) (fun k=>k<=l.length) (fun k=>l.length-k) 0 (zN _) ?_ ?_
  .refine yh [] [] [] ?_;simp only[ybc,allQ,live,yc,yx,zJ,go_sem,zA,↓reduceIte,reduceCtorEq];simp
  .intro k hk;simp only[ybc,go_sem,zA,zB,↓reduceIte,reduceCtorEq];have hs:=ybsi hb k hk;refine⟨fun hlt=>?_,fun hlt=>(yeg _).use ?_⟩
   .have hk':k<l.length:=by omega
    have hs2:=ybsi hb (k+1) hk';rw[yyj hk']at hs2;refine⟨by omega,ikw (by omega) (by omega),ikw (by omega) (by omega),?_⟩
    refine yj (k+1) (by omega) (by omega) ?_
    refine yh [] [] [] ?_;simp only[yyj hk',allQ,live,yc,yx,go_sem,zA,↓reduceIte,reduceCtorEq];simp
   .simp only[ybg,yx,go_sem,zA,zB,↓reduceIte,reduceCtorEq];rw[zO (by omega)]
    simp[yje,h26]
 .have:=ydiu l (by omega)
  simp only[ybc]at this;refine this.use ?_;simp only[ybg,yx,go_sem,zA,zB,↓reduceIte,reduceCtorEq];simp[yje,h27]
 .simp only[ybg,yx,go_sem,zA,zB,↓reduceIte,reduceCtorEq];simp[yje,h28]
 .refine⟨fun h0=>?_,fun h0=>⟨by omega,?_⟩⟩
  .simp only[yx,go_sem];have:l=[]:=List.eq_nil_of_length_eq_zero (by omega)
   simp[yje,h20,h21,h22,h23,h24,h25,h26,h27,h28,this]
  .cases l with
   |nil=>simp at h0
   | cons x l=>
     simp only[yx,go_sem];simp[yje,h20,h21,h22,h23,h24,h25,h26,h27,h28]
end Sh
end
end Go.Proofs.YthclbjjgfcgbgaaGreatDoor
