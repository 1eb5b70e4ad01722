/- Lemmas, joined: GraphC SgD ScLd PlainI Pm SgN GraphD LdB BfsA LdC RefC RefD LdV ScSt SgE. -/
import Derived.Test.YtiejahgklcjhkaaGreatDoorPkJ11
import Derived.Test.YtiejahgklcjhkaaGreatDoorPkJ8
set_option linter.unusedSimpArgs false
set_option linter.unusedVariables false
namespace Go.Proofs.YtiejahgklcjhkaaGreatDoor
open Go.RowKit

theorem yxf:Tryz.zeroCells195=Array.replicate 256 (.bool false):=by kernel_rfl

def Seen(w:World)(g:Nat)(S:List Int):Prop:=∃ cur,w.heap[g]? = some (.cells cur 195 (0,0))/\cur.size=256 /\ ∀ i:Nat,i<256->cur[i]? = some (.bool (decide ((i:Int) ∈ S)))

theorem Seen.cell{w:World}{g:Nat}{S:List Int}(h:Seen w g S){i:Nat}(hi:i<256):w.cell? ⟨g,i,none⟩=some (.bool (decide ((i:Int) ∈ S))):=by
 obtain⟨cur,h1,h2,h3⟩:=h;simp[World.cell?,h1,h3 i hi]
theorem Seen.frozen{w:World}{g:Nat}{S:List Int}(h:Seen w g S)(i:Nat):w.frozen? ⟨g,i,none⟩=false:=by
 obtain⟨cur,h1,h2,h3⟩:=h;simp[World.frozen?,h1]
theorem Seen.set_{w:World}{g:Nat}{S:List Int}(h:Seen w g S){i:Nat}:Seen (w.setCell ⟨g,i,none⟩ (.bool true)) g (S ++ [(i:Int)]):=by
 obtain⟨cur,h1,h2,h3⟩:=h;refine⟨cur.setIfInBounds i (.bool true),by simp[World.setCell,Array.getElem?_modify,h1],by simp[h2],fun j hj=>?_⟩
 rw[Array.getElem?_setIfInBounds];split
 ·subst_vars
  rw[if_pos (by omega)]
  simp
 ·rw[h3 j hj];congr 3;simp;omega

theorem Seen.start(w:World):Seen (w.alloc (.cells Tryz.zeroCells195 195)) w.heap.size []:=by
 refine⟨_,heap_alloc_new w _,by rw[yxf];simp,fun i hi=>?_⟩
 rw[yxf];simp[hi]

def yzt(ids:List Int):Bool:=decide ((∀ x ∈ ids,0<=x/\x<=255)/\ids.Nodup)
def ypy(ids:List Int)(k:Nat):Prop:=(∀ x ∈ ids.take k,0<=x/\x<=255)/\(ids.take k).Nodup
theorem ybug{ids:List Int}{k:Nat}(hk:k<ids.length):ypy ids (k+1) ↔ ypy ids k/\(0<=ids[k]/\ids[k]<=255)/\ids[k] ∉ ids.take k:=by
 unfold ypy;rw[take_snoc ids k hk,List.nodup_append];constructor
 ·rintro⟨h1,h2,_,h3⟩;exact⟨⟨fun x hx=>h1 x (List.mem_append_left _ hx),h2⟩,h1 _ (List.mem_append_right _ (by simp)),fun hm=>h3 _ hm _ (by simp) rfl⟩
 ·rintro⟨⟨h1,h2⟩,h3,h4⟩;refine⟨fun x hx=>?_,h2,by simp,fun a ha b hb e=>?_⟩
  ·rcases List.mem_append.1 hx with hx | hx
   ·exact h1 x hx
   ·simp at hx;subst hx;exact h3
  ·simp at hb;subst hb e;exact h4 ha
theorem ybbs{ids:List Int}{k:Nat}(h:¬ ypy ids k):yzt ids=false:=by
 unfold yzt;rw[decide_eq_false_iff_not];exact fun hd=>h ⟨fun x hx=>hd.1 x (List.mem_of_mem_take hx),hd.2.sublist (List.take_sublist _ _)⟩
theorem ybhi{ids:List Int}(h:ypy ids ids.length):yzt ids=true:=by
 unfold ypy at h;rw[List.take_length]at h;exact decide_eq_true h

set_option maxRecDepth 100000 in
set_option maxHeartbeats 1000000 in
theorem yny(iv:Value)(ids:List Int)(w:World)(hi:yjk w iv ids) :
  Calls Tryz.prog 152 #[iv] w fun e w'=>e = .returned (.bool (yzt ids))/\Below w.heap.size w w':=by
 obtain⟨A,c,rfl,hA1,hA2⟩:=ybm hi;have Hi:=Lib.hid hi
 clear hi
 go_enter Tryz.func152,Tryz.ntmps152
 go_wp2
 go_loopg [8] ids.length (fun q t wr=>∃ k:Nat,q+k=ids.length/\t = .int .i64 k/\Hid (Below w.heap.size w wr)/\Hid (Seen wr w.heap.size (ids.take k))/\Hid (ypy ids k))
 case atStart=>exact⟨0,by omega,rfl,Lib.hid ((Below.refl _ _).alloc (Nat.le_refl _) _),Lib.hid (Seen.start w),Lib.hid ⟨by simp,by simp⟩⟩
 case round =>
  obtain⟨k,hq,rfl,hbel,hseen,hok⟩:=hrel
  by_cases hlt:k<ids.length
  ·obtain⟨b,off,rfl,hb,hcid,hr⟩:=yke (Hi.out.below Stable.int hbel.out) hlt;obtain⟨x,hx⟩:∃ x,ids[k]=x:=⟨_,rfl⟩;have Hsn:=Lib.hid (ybug hlt);rw[hx]at hcid hr Hsn;obtain⟨hr1,hr2⟩:=hr;have Hbad:=Lib.hid (fun h=>ybbs (ids:=ids) (k:=k+1) h);have Hts:=Lib.hid (take_snoc ids k hlt);rw[hx]at Hts
   clear hx
   by_cases c1:0<=x/\x<=255
   ·obtain⟨c1a,c1b⟩:=c1;obtain⟨n,rfl⟩:=Int.eq_ofNat_of_zero_le c1a;have hcs:=hseen.out.cell (i:=n) (by omega)
    have hfs:=hseen.out.frozen n
    by_cases c2:(n:Int) ∈ ids.take k
    ·rw[decide_eq_true c2]at hcs;have Hf:=Lib.hid (Hbad.out (fun h=>(Hsn.out.1 h).2.2 c2))
     clear c2
     go_wp2
     go_ret
     exact⟨ybf Hf.out.symm,hbel.out⟩
    ·rw[decide_eq_false c2]at hcs;have Hn:=Lib.hid (Hsn.out.2 ⟨hok.out,⟨by omega,by omega⟩,c2⟩)
     clear c2
     go_wp2
     go_roundg (gk - 1)
     case measure=>omega
     case rel =>
      refine⟨k+1,by omega,by go_num,Lib.hid (hbel.out.setCell (Nat.le_refl _) _),Lib.hid ?_,Hn⟩
      rw[Hts.out];exact hseen.out.set_
   ·have Hf:=Lib.hid (Hbad.out (fun h=>c1 (Hsn.out.1 h).2.1))
    by_cases c3:x<0
    ·clear c1
     go_wp2
     go_ret
     exact⟨ybf Hf.out.symm,hbel.out⟩
    ·have c4:255<x:=by omega
     clear c1
     go_wp2
     go_ret
     exact⟨ybf Hf.out.symm,hbel.out⟩
  ·obtain rfl:k=ids.length:=by omega
   have Ht:=Lib.hid (ybhi hok.out)
   go_wp2
   go_ret
   exact⟨ybf Ht.out.symm,hbel.out⟩

theorem ybls(g:Gr)(h1:1<=g.ids.length)(h2:g.ids.length<=24)(h3:g.ports.length=g.ids.length):yfi g=(yzt g.ids && symB g.ports):=by
 unfold yfi yzt symB;rw[<- Bool.decide_and];congr 1;apply propext;unfold ybb ybvc;constructor
 ·rintro⟨_,_,_,h4,h5,h6,h7⟩;exact⟨⟨h4,h5⟩,h6,h7⟩
 ·rintro⟨⟨h4,h5⟩,h6,h7⟩;exact⟨by omega,by omega,by omega,h4,h5,h6,h7⟩

set_option maxHeartbeats 1000000 in
theorem ypt(gv:Value)(g:Gr)(w:World)(hg:GrAt w gv g) :
  Calls Tryz.prog 96 #[gv] w fun e w'=>e = .returned (.bool (yfi g))/\Below w.heap.size w w':=by
 obtain⟨i,p,rfl,hi,hp⟩:=hg;obtain⟨A,c,rfl,hA1,hA2⟩:=ybm hi;obtain⟨A2,c2,rfl,hB1,hB2⟩:=ybm hp;have Hi:=Lib.hid hi;have Hp:=Lib.hid hp
 clear hi hp
 by_cases n1:1<=g.ids.length
 ·by_cases n2:g.ids.length<=24
  ·by_cases n3:g.ports.length=g.ids.length
   ·have n3':((g.ports.length:Int) != (g.ids.length:Int))=false:=by simp[n3]
    have He:=Lib.hid (ybls g n1 n2 n3);have n3a:g.ports.length<=24:=by omega
    clear n3
    go_enter Tryz.func96,Tryz.ntmps96
    go_wp2_with fail
    refine(yny _ g.ids _ (Hi.out.below Stable.int ((Below.refl _ _).alloc (Nat.le_refl _) _))).mono ?_;rintro e w1 ⟨rfl,hb1⟩;have Hb1:=Lib.hid (yboc hb1);obtain⟨q0,q1⟩:=ydbr hb1
    clear hb1
    cases hd:yzt g.ids with
    | false =>
     have Hv:=Lib.hid (show yfi g=false by rw[He.out,hd];rfl)
     go_wp2_with fail
     go_ret
     exact⟨ybf Hv.out.symm,Hb1.out⟩
    | true =>
     have Hv:=Lib.hid (show yfi g=symB g.ports by rw[He.out,hd];rfl)
     go_wp2_with fail
     refine(ylh _ g.ports _ (Hp.out.below (Stable.sl Stable.link) Hb1.out) (by omega)).mono ?_
     rintro e w2 ⟨rfl,hb2⟩
     go_wp2_with fail
     go_ret
     exact⟨ybf Hv.out.symm,Hb1.out.trans (hb2.mono Hb1.out.size)⟩
   ·have n3':((g.ports.length:Int) != (g.ids.length:Int))=true:=by simp;omega
    have Hf:=Lib.hid (ygi (g:=g) (fun h=>n3 h.2.2.symm))
    clear n3
    go_enter Tryz.func96,Tryz.ntmps96
    go_wp2
    go_ret
    exact⟨ybf Hf.out.symm,(Below.refl _ _).alloc (Nat.le_refl _) _⟩
  ·have Hf:=Lib.hid (ygi (g:=g) (fun h=>n2 (by omega)))
   go_enter Tryz.func96,Tryz.ntmps96
   go_wp2
   go_ret
   exact⟨ybf Hf.out.symm,(Below.refl _ _).alloc (Nat.le_refl _) _⟩
 ·have Hf:=Lib.hid (ygi (g:=g) (fun h=>n1 (by omega)))
  go_enter Tryz.func96,Tryz.ntmps96
  go_wp2
  go_ret
  exact⟨ybf Hf.out.symm,(Below.refl _ _).alloc (Nat.le_refl _) _⟩
end Go.Proofs.YtiejahgklcjhkaaGreatDoor

namespace Go.Proofs.YtiejahgklcjhkaaGreatDoor
namespace Sh
open Go Ev Go.RowKit
set_option maxRecDepth 8000
theorem yej{x:Int}(h:-4611686018427387904<=x/\x<=4611686018427387904):I64 x:=by
 unfold I64;omega
theorem yblv{g:Gr}(hg:ybb g):GrI g:=by
 obtain⟨h1,h2,h3,h4,h5,h6,h7⟩:=hg;refine⟨fun x hx=>yej (by have:=h4 x hx;omega),fun ls hls l hl=>?_⟩
 obtain⟨v,hv,rfl⟩:=List.getElem_of_mem hls;obtain⟨a1,a2,a3,a4,a5⟩:=(h6 ⟨v,hv⟩).1 l hl;exact⟨yej (by omega),yej (by omega)⟩
theorem ymt{g:Gr}(hI:GrI g):Returns Tryz.prog 96 [grV g] (.b (yfi g)):=by
 refine ybfe ⟨_,_,Tryz.func96,rfl⟩ (fun _=>.b) (fun _=>.simple rfl) fun G m us hG hr φ M w us' hR hs hv=>?_;obtain⟨u,rfl,h1⟩:=rvl1 hr;obtain⟨u',rfl,h2⟩:=yfk hv;exact ypt u' g w (ycul hG h1 h2 hR hs hI)
end Sh
end Go.Proofs.YtiejahgklcjhkaaGreatDoor

namespace Go.Proofs.YtiejahgklcjhkaaGreatDoor
namespace Sh
open Go Ev
def yczc:LO:=[o3 (.alloc 87 1 [.a (.string (ByteArray.mk #[])),.i .i64 0,.i .i64 0,.i .i64 0,.i .i64 0,.i .i64 0]) 8 0]
def ydcm:LO:=[mv' 0 9 0,mv' 1 10 0,mv' 2 11 0,mv' 3 12 0,o3 (.build [.a (.string (ByteArray.mk #[])),.i .i64 0,.i .i64 0,.i .i64 0,.i .i64 0,.i .i64 0] [(0,1,(.tmp 9)),(1,1,(ci' 1)),(3,1,(.tmp 10)),(4,1,(.tmp 11)),(5,1,(.tmp 12))]) 13 15,o0 (.store 6 (.tmp 8) (.tmp 13)) 31]
def c79:SC:=(.seq (.reg false yczc) (.seq (.reg false ydcm) .ret))
theorem ycvy:Fn 79 c79 [.c 8 true 6]:=fn_0 Tryz.func79 (by kernel_rfl) (by kernel_rfl)
end Sh
end Go.Proofs.YtiejahgklcjhkaaGreatDoor

namespace Go.Proofs.YtiejahgklcjhkaaGreatDoor

structure VarR where
 name:ByteArray
 kind:Int
 lo:Int
 hi:Int
 perNode:Int
 perID:Int

def varE:Elem VarR:=fun w b o x=>w.cell? ⟨b,o,none⟩=some (.string x.name)/\w.cell? ⟨b,o+1,none⟩=some (.int .i64 x.kind)/\w.cell? ⟨b,o+2,none⟩=some (.int .i64 x.lo)/\w.cell? ⟨b,o+3,none⟩=some (.int .i64 x.hi) /\
 w.cell? ⟨b,o+4,none⟩=some (.int .i64 x.perNode)/\w.cell? ⟨b,o+5,none⟩=some (.int .i64 x.perID)
theorem Stable.var:Stable varE:=fun _ _ _ _ _ h _ hx=>⟨h _ _ hx.1,h _ _ hx.2.1,h _ _ hx.2.2.1,h _ _ hx.2.2.2.1,h _ _ hx.2.2.2.2.1,h _ _ hx.2.2.2.2.2⟩
theorem ybjj(ids:List Int)(k:Nat)(hk:k<ids.length):(ids.take (k+1)).foldl max 0=max ((ids.take k).foldl max 0) ids[k]:=by
 rw[take_snoc ids k hk,List.foldl_append];rfl
theorem yys(D:List Int)(m:Int)(h:∀ x ∈ D,x<=m):∀ a:Int,a<=m->D.foldl max a<=m:=by
 induction D with
 | nil=>intro a ha;exact ha
 | cons x D ih=>intro a ha;exact ih (fun y hy=>h y (by simp[hy])) _ (Int.max_le.2 ⟨ha,h x (by simp)⟩)
theorem ypa{g:Gr}(hg:ybb g):0<=ybcu g/\ybcu g<=255:=⟨yxe _ _,yys _ _ (fun x hx=>(hg.2.2.2.1 x hx).2) _ (by omega)⟩
end Go.Proofs.YtiejahgklcjhkaaGreatDoor

namespace Go.Proofs.YtiejahgklcjhkaaGreatDoor

abbrev Tm:=Int × Int
structure SetR where
 var:Int
 val:List Tm
structure RuleR where
 name:ByteArray
 guard:List Tm
 sets:List SetR
structure ProgR where
 name:ByteArray
 vars:List VarR
 rules:List RuleR
instance:Inhabited VarR:=⟨⟨.empty,0,0,0,0,0⟩⟩
instance:Inhabited SetR:=⟨⟨0,[]⟩⟩
instance:Inhabited RuleR:=⟨⟨.empty,[],[]⟩⟩

inductive Ex where
 | leaf (op arg:Int)
 | un (op:Int) (a:Ex)
 | agg (op:Int) (a:Ex)
 | bin (op:Int) (a b:Ex)
 | ite (c a b:Ex)
def Ex.ser:Ex->List Tm
 | .leaf op arg=>[(op,arg)]
 | .un op a=>(op,0) :: a.ser
 | .agg op a=>(op,0) :: a.ser
 | .bin op a b=>(op,0) :: (a.ser ++ b.ser)
 | .ite c a b=>(43,0) :: (c.ser ++ (a.ser ++ b.ser))

def satP(a:Int):Int:=max (-1073741824) (min a 1073741824)
def yer(b:Bool):Int:=if b then 1 else 0
def yrm(a b:Int):Int:=if b=0 then 0 else if a.tmod b ≠ 0/\(decide (a<0) ≠ decide (b<0))then a.tdiv b - 1 else a.tdiv b
def unP(op a:Int):Int:=if op=18 then -a else yer (a == 0)
def cmpP(op a b:Int):Bool:=if op=35 then a == b else if op=36 then a != b else if op=37 then decide (a<b)else if op=38 then decide (a<=b)else if op=39 then decide (a > b)else decide (a >= b)
def binP(op a b:Int):Int :=
 if op=30 then satP (a * b)else if op=31 then satP (yrm a b)else if op=32 then(if b=0 then 0 else satP (a - b * yrm a b))else if op=33 then satP (a+b)else if op=34 then satP (a - b)
 else if op=41 then yer (a != 0 && b != 0)else if op=42 then yer (a != 0 || b != 0)else yer (cmpP op a b)
def countP(l:List Int):Int:=((l.filter (· != 0)).length:Int)
def ymz(l:List Int):Int:=l.foldl min 1073741824
def ycl(l:List Int):Int × Int:=l.foldl (fun p a=>if a > p.1 then(a,p.1)else(p.1,max p.2 a)) (-1073741824,-1073741824)
def yrf(l:List Int):Nat->Int->Int
 | 0,r=>r
 | n+1,r=>if l.elem r then yrf l n (r+1)else r
def mexP(l:List Int):Int:=yrf l (l.length+1) 0
def yel(l:List Int):Int:=match l.findIdx? (· != 0)with | some i=>i | none=>-1
def yhn(op:Int)(l:List Int):Int :=
 if op=20 then yer (countP l == l.length)else if op=21 then yer (decide (countP l > 0))else if op=22 then countP l else if op=23 then yel l else if op=24 then ymz l else if op=25 then(ycl l).1
 else if op=26 then satP l.sum else if op=27 then mexP l else if op=28 then(ycl l).2 else l.headD 0

structure Sc where
 g:Gr
 c:Conf
def yby(g:Gr)(v port:Nat):Int × Int:=(g.ports.getD v []).getD port (0,0)
def yie(g:Gr)(v:Nat):List Int:=(g.ports.getD v []).map fun l=>yfv (g.ports.getD l.1.toNat []) v
def ykw(g:Gr)(op:Int)(v:Nat)(port:Int):Int :=
 if op=6 then g.ids.length else if op=7 then ybcu g else if op=8 then g.ids.getD v 0 else if op=9 then((g.ports.getD v []).length:Int)else if op=10 then yer ((v:Int) == 0)else if op=11 then port
 else(let l:=yby g v port.toNat
  if op=13 then g.ids.getD l.1.toNat 0 else if op=14 then((g.ports.getD l.1.toNat []).length:Int)else if op=15 then yer (l.1 == 0)else if op=16 then l.2 else(yie g v).getD port.toNat 0)
def yqv(g:Gr)(c:Conf)(op arg:Int)(v:Nat)(port:Int):Int :=
 if op=1 then arg else if op=2 then 1 else if op=3 then 0 else if op=4 then -1 else if op=5 then(c.getD v []).getD arg.toNat 0 else if op=12 then(c.getD (yby g v port.toNat).1.toNat []).getD arg.toNat 0
 else ykw g op v port
def yea(g:Gr)(c:Conf)(v:Nat):Ex->Int->Int
 | .leaf op arg,p=>yqv g c op arg v p
 | .un op a,p=>unP op (yea g c v a p)
 | .agg op a,_=>yhn op ((List.range (g.ports.getD v []).length).map fun(q:Nat)=>yea g c v a (q:Int))
 | .bin op a b,p=>binP op (yea g c v a p) (yea g c v b p)
 | .ite x a b,p=>if yea g c v x p ≠ 0 then yea g c v a p else yea g c v b p

def Ex.ok(nv:Int)(bnd:Bool):Ex->Bool
 | .leaf op arg=>decide (1<=op/\op<=17) && (if op=1 then decide (0<=arg/\arg<=1073741824)else if op=5\/op=12 then decide (0<=arg/\arg<nv)else true) && (if 11<=op then bnd else true)
 | .un op a=>decide (op=18\/op=19) && a.ok nv bnd
 | .agg op a=>decide (20<=op/\op<=29) && a.ok nv true
 | .bin op a b=>decide (30<=op/\op<=42) && a.ok nv bnd && b.ok nv bnd
 | .ite x a b=>x.ok nv bnd && a.ok nv bnd && b.ok nv bnd

def InB(x:Int):Prop:=-1073741824<=x/\x<=1073741824
theorem ylj(a:Int):InB (satP a):=by unfold InB satP;omega
theorem yeo(b:Bool):InB (yer b):=by unfold InB yer;cases b<;>simp
theorem ydcw{op a:Int}(h:InB a):InB (unP op a):=by
 unfold unP;split
 ·unfold InB at *;omega
 ·exact yeo _
theorem ycvd(op a b:Int):InB (binP op a b):=by
 unfold binP;split;· exact ylj _
 split;· exact ylj _
 split
 ·split
  ·unfold InB;omega
  ·exact ylj _
 split;· exact ylj _
 split;· exact ylj _
 split;· exact yeo _
 split;· exact yeo _
 exact yeo _
theorem countP_le(l:List Int):0<=countP l/\countP l<=l.length:=by
 unfold countP;have:=List.length_filter_le (· != 0) l;omega
theorem ybst(l:List Int)(h:∀ x ∈ l,InB x):InB (ymz l):=by
 unfold ymz
 have:∀ (l:List Int) (a:Int),InB a->(∀ x ∈ l,InB x)->InB (l.foldl min a):=by
  intro l
  induction l with
  | nil=>intro a ha _;exact ha
  | cons x l ih =>
   intro a ha hl;refine ih _ ?_ fun y hy=>hl y (List.mem_cons_of_mem _ hy);have:=hl x List.mem_cons_self;unfold InB at *;omega
 exact this l _ (by unfold InB;omega) h
theorem ysd(l:List Int)(h:∀ x ∈ l,InB x):InB (ycl l).1/\InB (ycl l).2:=by
 unfold ycl
 have:∀ (l:List Int) (p:Int × Int),InB p.1/\InB p.2->(∀ x ∈ l,InB x)->InB (l.foldl (fun p a=>if a > p.1 then(a,p.1)else(p.1,max p.2 a)) p).1/\InB (l.foldl (fun p a=>if a > p.1 then(a,p.1)else(p.1,max p.2 a)) p).2:=by
  intro l
  induction l with
  | nil=>intro p hp _;exact hp
  | cons x l ih =>
   intro p hp hl;refine ih _ ?_ fun y hy=>hl y (List.mem_cons_of_mem _ hy);have:=hl x List.mem_cons_self;unfold InB at *
   dsimp only
   split<;>dsimp only<;>omega
 exact this l _ (by unfold InB;simp) h
theorem ybfd(l:List Int):∀ (n:Nat) (r:Int),r<=yrf l n r/\yrf l n r<=r+n
 | 0,r=>by unfold yrf;omega
 | n+1,r=>by
  unfold yrf;have:=ybfd l n (r+1);split<;>omega
theorem yvq(l:List Int):-1<=yel l/\yel l<l.length\/yel l = -1:=by
 unfold yel;split
 ·rename_i i hi
  obtain⟨h,_⟩:=List.findIdx?_eq_some_iff_getElem.1 hi;left;omega
 ·exact .inr rfl
theorem ybun{op:Int}{l:List Int}(hl:l.length<=1000)(h:∀ x ∈ l,InB x):InB (yhn op l):=by
 have hc:=countP_le l;unfold yhn;split;· exact yeo _
 split;· exact yeo _
 split;· unfold InB;omega
 split;· have:=yvq l;unfold InB;omega
 split;· exact ybst l h
 split;· exact(ysd l h).1
 split;· exact ylj _
 split;· have:=ybfd l (l.length+1) 0;unfold mexP InB;omega
 split;· exact(ysd l h).2
 cases l with
 | nil=>unfold InB;simp
 | cons x l=>exact h x List.mem_cons_self

structure ConfIn(n nv:Nat)(c:Conf):Prop where
 len:c.length=n
 row:∀ s ∈ c,s.length=nv /\ ∀ x ∈ s,InB x

theorem ConfIn.at_{n nv:Nat}{c:Conf}(h:ConfIn n nv c){v:Nat}(hv:v<n):(c.getD v []).length=nv /\ ∀ k,InB ((c.getD v []).getD k 0):=by
 have hlt:v<c.length:=by rw[h.len];exact hv
 have e:c.getD v []=c[v]:=by simp[List.getD,hlt]
 obtain⟨h1,h2⟩:=h.row c[v] (List.getElem_mem hlt);rw[e];refine⟨h1,fun k=>?_⟩;rw[List.getD_eq_getElem?_getD];cases hk:c[v][k]? with
 | none=>simp;unfold InB;omega
 | some x=>simp;exact h2 x (List.mem_of_getElem? hk)
theorem ybb.yby{g:Gr}(hg:ybb g){v p:Nat}(hv:v<g.ports.length)(hp:p<(g.ports.getD v []).length):0<=(yby g v p).1/\(yby g v p).1<g.ports.length/\1<=(yby g v p).2/\(yby g v p).2<=15:=by
 have e:g.ports.getD v []=g.ports[v]:=by simp[List.getD,hv]
 have h1:=hg.2.2.2.2.2.1 ⟨v,hv⟩;rw[e]at hp;have hm:(g.ports[v])[p] ∈ g.ports[v]:=List.getElem_mem hp;have h2:=h1.1 _ hm;unfold yjc at h2;have e2:Go.Proofs.YtiejahgklcjhkaaGreatDoor.yby g v p=(g.ports[v])[p]:=by unfold Go.Proofs.YtiejahgklcjhkaaGreatDoor.yby;rw[e];simp[List.getD,hp]
 rw[e2];omega
theorem ybb.deg_lt{g:Gr}(hg:ybb g){v:Nat}:(g.ports.getD v []).length<24:=by
 by_cases hv:v<g.ports.length
 ·have h1:=hg.2.2.2.2.2.1 ⟨v,hv⟩;have:=yqc hv h1;have e:g.ports.getD v []=g.ports[v]:=by simp[List.getD,hv]
  rw[e];have:=hg.2.1;have h3:g.ports[(⟨v,hv⟩:Fin g.ports.length)].length=g.ports[v].length:=rfl;omega
 ·rw[List.getD_eq_getElem?_getD,List.getElem?_eq_none (by omega)]
  simp
theorem ybb.id_in{g:Gr}(hg:ybb g)(v:Nat):0<=g.ids.getD v 0/\g.ids.getD v 0<=255:=by
 rw[List.getD_eq_getElem?_getD];cases h:g.ids[v]? with
 | none=>simp
 | some x=>exact hg.2.2.2.1 x (List.mem_of_getElem? h)
theorem ybwk{g:Gr}{c:Conf}{n nv:Nat}(hg:ybb g)(hn:g.ports.length=n)(hc:ConfIn n nv c){op arg:Int}{bnd:Bool}(ho:(Ex.leaf op arg).ok nv bnd=true){v:Nat}(hv:v<n){p:Int}(hp:bnd=true->0<=p/\p<(g.ports.getD v []).length)(hpi:InB p):InB (yqv g c op arg v p):=by
 subst hn;have h24:=hg.2.1;have hd:=hg.deg_lt (v:=v);unfold yqv;simp only[Ex.ok,Bool.and_eq_true,decide_eq_true_eq]at ho;obtain⟨⟨ho1,ho2⟩,ho3⟩:=ho;split
 ·rename_i h;rw[if_pos h]at ho2;simp at ho2;unfold InB;omega
 split;· unfold InB;omega
 split;· unfold InB;omega
 split;· unfold InB;omega
 split;· exact(hc.at_ hv).2 _
 split
 ·rename_i h
  rw[if_pos (by omega)]at ho3
  obtain⟨q1,q2⟩:=hp ho3;have hl:=hg.yby hv (p:=p.toNat) (by omega)
  exact(hc.at_ (v:=(yby g v p.toNat).1.toNat) (by omega)).2 _
 ·unfold ykw;split;· rw[hg.2.2.1];unfold InB;omega
  split;· have:=ypa hg;unfold InB;omega
  split;· have:=hg.id_in v;unfold InB;omega
  split;· unfold InB;omega
  split;· exact yeo _
  split;· exact hpi
  rename_i h6 h7 h8 h9 h10 h11
  rw[if_pos (by omega)]at ho3
  obtain⟨q1,q2⟩:=hp ho3;have hl:=hg.yby hv (p:=p.toNat) (by omega)
  simp only;split;· have:=hg.id_in (yby g v p.toNat).1.toNat;unfold InB;omega
  split;· have:=hg.deg_lt (v:=(yby g v p.toNat).1.toNat);unfold InB;omega
  split;· exact yeo _
  split;· unfold InB;omega
  ·unfold yie;rw[List.getD_eq_getElem?_getD,List.getElem?_map];cases hk:(g.ports.getD v [])[p.toNat]? with
   | none=>simp;unfold InB;omega
   | some l =>
    simp;have hd2:=hg.deg_lt (v:=l.1.toNat);rcases yue (ls:=g.ports.getD l.1.toNat []) (u:=(v:Int))with e | ⟨k,e,hk⟩
    ·simp at e;rw[e];unfold InB;omega
    ·simp at e hk hd2;rw[e];unfold InB;omega
theorem ygb{g:Gr}{c:Conf}{n nv:Nat}(hg:ybb g)(hn:g.ports.length=n)(hc:ConfIn n nv c){v:Nat}(hv:v<n):∀ (x:Ex) {bnd:Bool} {p:Int},x.ok nv bnd=true->(bnd=true->0<=p/\p<(g.ports.getD v []).length)->InB p->InB (yea g c v x p)
 | .leaf op arg,bnd,p,h,hp,hpi=>ybwk hg hn hc h hv hp hpi
 | .un op a,bnd,p,h,hp,hpi=>by
  simp only[Ex.ok,Bool.and_eq_true]at h;exact ydcw (ygb hg hn hc hv a h.2 hp hpi)
 | .agg op a,bnd,p,h,hp,hpi=>by
  simp only[Ex.ok,Bool.and_eq_true]at h;have:=hg.deg_lt (v:=v);refine ybun (by simp;simp at this;omega) fun x hx=>?_
  obtain⟨q,hq,rfl⟩:=List.mem_map.1 hx;have hq:=List.mem_range.1 hq;exact ygb hg hn hc hv a h.2 (fun _=>by omega) (by unfold InB;omega)
 | .bin op a b,bnd,p,h,hp,hpi=>ycvd _ _ _
 | .ite x a b,bnd,p,h,hp,hpi=>by
  simp only[Ex.ok,Bool.and_eq_true]at h;unfold yea;split
  ·exact ygb hg hn hc hv a h.1.2 hp hpi
  ·exact ygb hg hn hc hv b h.2 hp hpi
end Go.Proofs.YtiejahgklcjhkaaGreatDoor

namespace Go.Proofs.YtiejahgklcjhkaaGreatDoor
namespace Sh
open Go Ev
def varC(x:VarR):List SV:=[.a (.string x.name),.i .i64 x.kind,.i .i64 x.lo,.i .i64 x.hi,.i .i64 x.perNode,.i .i64 x.perID]
def ych(l:List VarR):SV:=.sl 6 l.length (fun k=>varC (l.getD k default))
def ygs(l:List SetR):SV:=.sl 2 l.length (fun k=>[.i .i64 (l.getD k default).var,yba (l.getD k default).val])
def yca(l:List RuleR):SV:=.sl 3 l.length (fun k=>[.a (.string (l.getD k default).name),yba (l.getD k default).guard,ygs (l.getD k default).sets])
def ykf(p:ProgR):List SV:=[.a (.string p.name),ych p.vars,yca p.rules]
def ycp(g:Gr):SV:=.sl 1 g.ports.length (fun v=>[yj (yie g v)])
def yei(p:ProgR)(g:Gr):List SV:=[.a (.string p.name),ych p.vars,yca p.rules,yj g.ids,yw g.ports,.i .i64 (ybcu g),ycp g]
def yhg(p:ProgR)(g:Gr)(c:Conf)(v:Nat)(e:List Tm):List SV:=[.rf (yei p g),ybe c,.i .i64 v,yba e]
theorem ybgt(l:List Int):one1 (yj l)=true:=rfl
theorem ybaw{n:Nat}(l:List Int):owned (n+1) (yj l)=false:=rfl
theorem yze{n:Nat}(l:List Int):scalar (n+1) (yj l)=false:=rfl
theorem ybgq{n:Nat}(o:Own)(l:List Int):view o (n+1) (yj l)=yj l:=rfl
theorem ybss{n:Nat}(o:Own)(l:List Int):vok o (n+1) (yj l)=True:=rfl
theorem ybrp{n:Nat}(h:Nm->Nm)(l:List Int):ren h (n+1) (yj l)=yj l:=rfl
theorem ybsb{n:Nat}(L:Nm->Bool)(l:List Int):cln L (n+1) (yj l)=true:=rfl
theorem ybaf(l:List (Int × Int)):one1 (yba l)=true:=rfl
theorem yxq{n:Nat}(l:List (Int × Int)):owned (n+1) (yba l)=false:=rfl
theorem ytz{n:Nat}(l:List (Int × Int)):scalar (n+1) (yba l)=false:=rfl
theorem ybcw{n:Nat}(o:Own)(l:List (Int × Int)):view o (n+1) (yba l)=yba l:=rfl
theorem ybhh{n:Nat}(o:Own)(l:List (Int × Int)):vok o (n+1) (yba l)=True:=rfl
theorem ybhd{n:Nat}(h:Nm->Nm)(l:List (Int × Int)):ren h (n+1) (yba l)=yba l:=rfl
theorem ybja{n:Nat}(L:Nm->Bool)(l:List (Int × Int)):cln L (n+1) (yba l)=true:=rfl
theorem ybcf(l:List (List (Int × Int))):one1 (yw l)=true:=rfl
theorem ywu{n:Nat}(l:List (List (Int × Int))):owned (n+1) (yw l)=false:=rfl
theorem yup{n:Nat}(l:List (List (Int × Int))):scalar (n+1) (yw l)=false:=rfl
theorem yzl{n:Nat}(o:Own)(l:List (List (Int × Int))):view o (n+1) (yw l)=yw l:=rfl
theorem ybip{n:Nat}(o:Own)(l:List (List (Int × Int))):vok o (n+1) (yw l)=True:=rfl
theorem ybgw{n:Nat}(h:Nm->Nm)(l:List (List (Int × Int))):ren h (n+1) (yw l)=yw l:=rfl
theorem ybhz{n:Nat}(L:Nm->Bool)(l:List (List (Int × Int))):cln L (n+1) (yw l)=true:=rfl
theorem ybim(l:List (List Int)):one1 (ybe l)=true:=rfl
theorem ybbr{n:Nat}(l:List (List Int)):owned (n+1) (ybe l)=false:=rfl
theorem ywm{n:Nat}(l:List (List Int)):scalar (n+1) (ybe l)=false:=rfl
theorem ybhj{n:Nat}(o:Own)(l:List (List Int)):view o (n+1) (ybe l)=ybe l:=rfl
theorem ybtn{n:Nat}(o:Own)(l:List (List Int)):vok o (n+1) (ybe l)=True:=rfl
theorem ybjy{n:Nat}(h:Nm->Nm)(l:List (List Int)):ren h (n+1) (ybe l)=ybe l:=rfl
theorem ybqx{n:Nat}(L:Nm->Bool)(l:List (List Int)):cln L (n+1) (ybe l)=true:=rfl
theorem ybfx(l:List VarR):one1 (ych l)=true:=rfl
theorem ybap{n:Nat}(l:List VarR):owned (n+1) (ych l)=false:=rfl
theorem yvv{n:Nat}(l:List VarR):scalar (n+1) (ych l)=false:=rfl
theorem ybjf{n:Nat}(o:Own)(l:List VarR):view o (n+1) (ych l)=ych l:=rfl
theorem ybjr{n:Nat}(o:Own)(l:List VarR):vok o (n+1) (ych l)=True:=rfl
theorem ybku{n:Nat}(h:Nm->Nm)(l:List VarR):ren h (n+1) (ych l)=ych l:=rfl
theorem ybso{n:Nat}(L:Nm->Bool)(l:List VarR):cln L (n+1) (ych l)=true:=rfl
theorem ybil(l:List SetR):one1 (ygs l)=true:=rfl
theorem yzp{n:Nat}(l:List SetR):owned (n+1) (ygs l)=false:=rfl
theorem yyl{n:Nat}(l:List SetR):scalar (n+1) (ygs l)=false:=rfl
theorem ybgv{n:Nat}(o:Own)(l:List SetR):view o (n+1) (ygs l)=ygs l:=rfl
theorem yblt{n:Nat}(o:Own)(l:List SetR):vok o (n+1) (ygs l)=True:=rfl
theorem ybng{n:Nat}(h:Nm->Nm)(l:List SetR):ren h (n+1) (ygs l)=ygs l:=rfl
theorem ybro{n:Nat}(L:Nm->Bool)(l:List SetR):cln L (n+1) (ygs l)=true:=rfl
theorem ybcn(l:List RuleR):one1 (yca l)=true:=rfl
theorem yzd{n:Nat}(l:List RuleR):owned (n+1) (yca l)=false:=rfl
theorem yvk{n:Nat}(l:List RuleR):scalar (n+1) (yca l)=false:=rfl
theorem ybaz{n:Nat}(o:Own)(l:List RuleR):view o (n+1) (yca l)=yca l:=rfl
theorem ybjk{n:Nat}(o:Own)(l:List RuleR):vok o (n+1) (yca l)=True:=rfl
theorem ybgn{n:Nat}(h:Nm->Nm)(l:List RuleR):ren h (n+1) (yca l)=yca l:=rfl
theorem ybgi{n:Nat}(L:Nm->Bool)(l:List RuleR):cln L (n+1) (yca l)=true:=rfl
theorem ybbz(l:Gr):one1 (ycp l)=true:=rfl
theorem yvw{n:Nat}(l:Gr):owned (n+1) (ycp l)=false:=rfl
theorem yuv{n:Nat}(l:Gr):scalar (n+1) (ycp l)=false:=rfl
theorem ybcc{n:Nat}(o:Own)(l:Gr):view o (n+1) (ycp l)=ycp l:=rfl
theorem ybix{n:Nat}(o:Own)(l:Gr):vok o (n+1) (ycp l)=True:=rfl
theorem ybgk{n:Nat}(h:Nm->Nm)(l:Gr):ren h (n+1) (ycp l)=ycp l:=rfl
theorem ybgf{n:Nat}(L:Nm->Bool)(l:Gr):cln L (n+1) (ycp l)=true:=rfl
theorem ybab{n:Nat}(fr:List Nm)(o:Own)(l:List Int):ycf fr o (n+1) (yj l)=yj l:=rfl
theorem ybpc{n:Nat}(fr:List Nm)(o:Own)(l:List Int):pok fr o (n+1) (yj l)=True:=rfl
theorem yxv{n:Nat}(fr:List Nm)(o:Own)(l:List (Int × Int)):ycf fr o (n+1) (yba l)=yba l:=rfl
theorem ybgm{n:Nat}(fr:List Nm)(o:Own)(l:List (Int × Int)):pok fr o (n+1) (yba l)=True:=rfl
theorem yzg{n:Nat}(fr:List Nm)(o:Own)(l:List (List (Int × Int))):ycf fr o (n+1) (yw l)=yw l:=rfl
theorem ybfy{n:Nat}(fr:List Nm)(o:Own)(l:List (List (Int × Int))):pok fr o (n+1) (yw l)=True:=rfl
theorem ybbj{n:Nat}(fr:List Nm)(o:Own)(l:List (List Int)):ycf fr o (n+1) (ybe l)=ybe l:=rfl
theorem ybmi{n:Nat}(fr:List Nm)(o:Own)(l:List (List Int)):pok fr o (n+1) (ybe l)=True:=rfl
theorem ybat{n:Nat}(fr:List Nm)(o:Own)(l:List VarR):ycf fr o (n+1) (ych l)=ych l:=rfl
theorem ybli{n:Nat}(fr:List Nm)(o:Own)(l:List VarR):pok fr o (n+1) (ych l)=True:=rfl
theorem ybbc{n:Nat}(fr:List Nm)(o:Own)(l:List SetR):ycf fr o (n+1) (ygs l)=ygs l:=rfl
theorem yblg{n:Nat}(fr:List Nm)(o:Own)(l:List SetR):pok fr o (n+1) (ygs l)=True:=rfl
theorem yza{n:Nat}(fr:List Nm)(o:Own)(l:List RuleR):ycf fr o (n+1) (yca l)=yca l:=rfl
theorem ybgz{n:Nat}(fr:List Nm)(o:Own)(l:List RuleR):pok fr o (n+1) (yca l)=True:=rfl
theorem ywk{n:Nat}(fr:List Nm)(o:Own)(l:Gr):ycf fr o (n+1) (ycp l)=ycp l:=rfl
theorem ybho{n:Nat}(fr:List Nm)(o:Own)(l:Gr):pok fr o (n+1) (ycp l)=True:=rfl
theorem ybca(l:List Int):SV.cells (yj l) = [yj l]:=rfl
theorem yvs(l:List (Int × Int)):SV.cells (yba l) = [yba l]:=rfl
theorem yym(l:List (List (Int × Int))):SV.cells (yw l) = [yw l]:=rfl
theorem ybbw(l:List (List Int)):SV.cells (ybe l) = [ybe l]:=rfl
theorem yzj(l:List VarR):SV.cells (ych l) = [ych l]:=rfl
theorem yzn(l:List SetR):SV.cells (ygs l) = [ygs l]:=rfl
theorem yyy(l:List RuleR):SV.cells (yca l) = [yca l]:=rfl
theorem yyf(l:Gr):SV.cells (ycp l) = [ycp l]:=rfl
attribute [go_sem] ybgt ybaw yze ybgq ybss ybrp ybsb ybaf yxq ytz ybcw ybhh ybhd ybja
attribute [go_sem] ybcf ywu yup yzl ybip ybgw ybhz ybim ybbr ywm ybhj ybtn ybjy
attribute [go_sem] ybqx ybfx ybap yvv ybjf ybjr ybku ybso ybil yzp yyl ybgv yblt ybng
attribute [go_sem] ybro ybcn yzd yvk ybaz ybjk ybgn ybgi ybbz yvw yuv ybcc ybix
attribute [go_sem] ybgk ybgf ybab ybpc yxv ybgm yzg ybfy ybbj ybmi ybat ybli ybbc yblg
attribute [go_sem] yza ybgz ywk ybho ybca yvs yym ybbw yzj yzn yyy yyf
end Sh
end Go.Proofs.YtiejahgklcjhkaaGreatDoor

namespace Go.Proofs.YtiejahgklcjhkaaGreatDoor
open Go.RowKit

theorem yul(gv:Value)(g:Gr)(w:World)(hg:GrAt w gv g) :
  Calls Tryz.prog 137 #[gv] w fun e w'=>e = .returned (.bool (yee g))/\Below w.heap.size w w':=by
 have hg0:=Lib.hid hg;obtain⟨i,p,rfl,hi,hp⟩:=hg
 clear hi hp
 cases hv:yfi g with
 | false =>
  have Hf:=Lib.hid (show yee g=false by unfold yee;rw[hv];rfl)
  go_enter Tryz.func137,Tryz.ntmps137
  go_wp2_with fail
  refine(ypt _ g _ (hg0.out.below ((Below.refl _ _).alloc (Nat.le_refl _) _))).mono ?_;rintro e w1 ⟨rfl,hb1⟩
  go_wp2_with fail
  go_ret
  exact⟨ybf Hf.out.symm,yboc hb1⟩
 | true =>
  have hgood:=(ycw g).1 hv;have hn1:=hgood.1;have hn24:=hgood.2.1;have Hgood:=Lib.hid hgood;have Hd:=Lib.hid (ynk hgood (a:=0) (by omega))
  have Hc:=Lib.hid (show yee g=(ybs g 0).all (fun x=>decide (0<=x))by unfold yee;rw[hv];rfl)
  clear hgood
  go_enter Tryz.func137,Tryz.ntmps137
  go_wp2_with fail
  refine(ypt _ g _ (hg0.out.below ((Below.refl _ _).alloc (Nat.le_refl _) _))).mono ?_;rintro e w1 ⟨rfl,hb1⟩;obtain⟨q0,q1⟩:=ydbr hb1;have Hb1:=Lib.hid (yboc hb1)
  clear hb1
  go_wp2_with fail
  refine(ybic _ g 0 _ (hg0.out.below Hb1.out) Hgood.out (by omega)).mono ?_
  rintro e w2 ⟨v,rfl,hv2,hb2⟩;have Hb2:=Lib.hid (Hb1.out.trans (hb2.mono Hb1.out.size));obtain⟨A,c,rfl,hA1,hA2⟩:=ybm hv2;have Hv2:=Lib.hid hv2
  clear hb2 hv2
  obtain⟨D,hD⟩:∃ D,ybs g 0=D:=⟨_,rfl⟩;rw[hD]at Hv2 Hd hA1 Hc ⊢
  clear hD
  go_wp2
  go_loopg [11] D.length (fun q t wr=>∃ k:Nat,q+k=D.length/\t = .int .i64 k/\wr=w2/\Hid (∀ j (hj:j<D.length),j<k->0<=D[j]))
  case atStart=>exact⟨0,by omega,rfl,rfl,Lib.hid (fun j _ hj=>absurd hj (by omega))⟩
  case round =>
   obtain⟨k,hq,rfl,rfl,hall⟩:=hrel
   by_cases hlt:k<D.length
   ·obtain⟨b,off,rfl,hb,hc,hr⟩:=yke Hv2.out hlt
    by_cases c1:D[k]<0
    ·have Hf:=Lib.hid (show yee g=false by
      rw[Hc.out,List.all_eq_false];exact⟨D[k],List.getElem_mem hlt,by simp;omega⟩)
     go_wp2
     go_ret
     exact⟨ybf Hf.out.symm,Hb2.out⟩
    ·go_wp2
     go_roundg (gk - 1)
     case measure=>omega
     case rel =>
      refine⟨k+1,by omega,by go_num,rfl,Lib.hid (fun j hj hjk=>?_)⟩
      by_cases e:j=k
      ·subst e;omega
      ·exact hall.out j hj (by omega)
   ·obtain rfl:k=D.length:=by omega
    have Ht:=Lib.hid (show yee g=true by
     rw[Hc.out,List.all_eq_true];intro x hx;obtain⟨j,hj,rfl⟩:=List.mem_iff_getElem.1 hx;exact decide_eq_true (hall.out j hj hj))
    go_wp2
    go_ret
    exact⟨ybf Ht.out.symm,Hb2.out⟩

theorem yjn{g:Gr}(h:yee g=true):yfi g=true:=(Bool.and_eq_true _ _ ▸ h).1

end Go.Proofs.YtiejahgklcjhkaaGreatDoor

namespace Go.Proofs.YtiejahgklcjhkaaGreatDoor
open Go
namespace Sh
open Ev Go.RowKit
set_option maxRecDepth 8000
theorem ybrd{g:Gr}(hI:GrI g):Returns Tryz.prog 137 [grV g] (.b (yee g)):=by
 refine ybfe ⟨_,_,Tryz.func137,rfl⟩ (fun _=>.b) (fun _=>.simple rfl) fun G m us hG hr φ M w us' hRl hs hv=>?_;obtain⟨u,rfl,h1⟩:=rvl1 hr;obtain⟨u',rfl,h2⟩:=yfk hv;exact yul u' g w (ycul hG h1 h2 hRl hs hI)
end Sh
end Go.Proofs.YtiejahgklcjhkaaGreatDoor

namespace Go.Proofs.YtiejahgklcjhkaaGreatDoor
open Go.RowKit

theorem yje(g:Gr)(G:List Int)(v:Nat):(yda g G v).length=G.length:=by simp[yda]

set_option maxHeartbeats 2000000 in
theorem ylk(gv cv Gv:Value)(g:Gr)(c:Conf)(G:List Int)(w:World)(hg:GrAt w gv g)(hc:ycah w cv c)(hG:yjk w Gv G)(hgood:ybb g) :
  Calls Tryz.prog 102 #[gv,cv,Gv] w fun e w'=>e = .returned (.bool (ynw g.ports.length (yda g G) c))/\Below w.heap.size w w':=by
 have hn24:=hgood.2.1;have hid:=hgood.2.2.1;have Hid':=Lib.hid hid
 clear hgood
 obtain⟨i,p,rfl,hi,hp⟩:=hg;obtain⟨A,c0,rfl,hA1,hA2⟩:=ybm hi;obtain⟨A2,c2,rfl,hB1,hB2⟩:=ybm hp;obtain⟨A3,c3,rfl,hC1,hC2⟩:=ybm hc;obtain⟨A4,c4,rfl,hD1,hD2⟩:=ybm hG;have Hp:=Lib.hid hp;have Hc:=Lib.hid hc;have HG:=Lib.hid hG
 clear hi hp hc hG
 by_cases n1:c.length=g.ids.length
 ·have n1':((c.length:Int) != (g.ids.length:Int))=false:=by simp[n1]
  have Hn:=Lib.hid (n1.trans hid);have hcn:c.length<=24:=by omega
  clear n1 hid
  go_enter Tryz.func102,Tryz.ntmps102
  go_wp2
  obtain⟨W1,hW1⟩:∃ W,W=w.alloc (.cells #[.slice A g.ids.length c0,.slice A2 g.ports.length c2] 27):=⟨_,rfl⟩;have hbox:W1.cell? ⟨w.heap.size,1,none⟩=some (.slice A2 g.ports.length c2):=by subst hW1;simp
  have HbW:=Lib.hid (show Below w.heap.size w W1 by subst hW1;exact(Below.refl _ _).alloc (Nat.le_refl _) _)
  rw[<- hW1]
  clear hW1
  go_loopg [21] c.length (fun q t wr=>∃ v n:Nat,q+v=c.length/\t = .int .i64 v/\wr=W1.drewN n/\Hid (∀ (u:Nat) s,u<v->c[u]? = some s->ydp (yda g G u) s))
  case atStart=>exact⟨0,0,by omega,rfl,rfl,Lib.hid (fun u s hu=>absurd hu (by omega))⟩
  case round =>
   obtain⟨v,n,hq,rfl,rfl,hok⟩:=hrel
   by_cases hlt:v<c.length
   ·obtain⟨b3,off3,sv,rfl,hb3,hcs,hs⟩:=ykt (Hc.out.below (Stable.sl Stable.int) HbW.out) (List.getElem?_eq_getElem hlt);obtain⟨A5,c5,rfl,hE1,hE2⟩:=ybm hs;obtain⟨s,hse⟩:∃ s,c[v]=s:=⟨_,rfl⟩;have Hs?:=Lib.hid (show c[v]? = some s by rw[List.getElem?_eq_getElem hlt,hse])
    rw[hse]at hs hcs hE1;have Hbad:=Lib.hid (show ¬ ydp (yda g G v) s->ynw g.ports.length (yda g G) c=false from fun h=>yhi (fun hc=>h (hc.2 v s Hs?.out)))
    have Hs:=Lib.hid hs
    clear hs hse
    by_cases c1:s.length=G.length
    ·have c1':((s.length:Int) != (G.length:Int))=false:=by simp[c1]
     have Hsl:=Lib.hid c1
     clear c1
     have hvp:v<g.ports.length:=by rw[<- Hn.out];exact hlt
     go_wp2
     obtain⟨go,rfl⟩:∃ go,go=gk:=⟨_,rfl⟩
     go_loopg [33] s.length (fun q t wr=>∃ x n:Nat,q+x=s.length/\t = .int .i64 x/\wr=W1.drewN n/\Hid (∀ (j:Nat) b z,j<x->(yda g G v)[j]? = some b->s[j]? = some z->b.1<=z/\z<=b.2))
     case atStart=>exact⟨0,n,by omega,rfl,rfl,Lib.hid (fun j b z hj=>absurd hj (by omega))⟩
     case round =>
      obtain⟨x,n,hqx,rfl,rfl,hst⟩:=hrel
      by_cases hxl:x<s.length
      ·have hxG:x<G.length:=by rw[<- Hsl.out];exact hxl
       obtain⟨b5,o5,rfl,hb5,hc5,hr5⟩:=yke (Hs.out) hxl;obtain⟨b6,o6,rfl,hb6,hc6,hr6⟩:=yke (HG.out.below Stable.int HbW.out) hxG;obtain⟨b7,o7,lv,rfl,hb7,hc7,hl7⟩:=ykt (Hp.out.below (Stable.sl Stable.link) HbW.out) (List.getElem?_eq_getElem hvp);obtain⟨A8,c8,rfl,hF1,hF2⟩:=ybm hl7;obtain⟨ds,hds⟩:∃ ds,g.ports[v]=ds:=⟨_,rfl⟩;have hdeg:ycut g v=ds.length:=by simp[ycut,List.getD,List.getElem?_eq_getElem hvp,hds]
       rw[hds]at hc7 hF1;obtain⟨y,hy⟩:∃ y,s[x]=y:=⟨_,rfl⟩;obtain⟨h,hh⟩:∃ h,G[x]=h:=⟨_,rfl⟩;have Hy?:=Lib.hid (show s[x]? = some y by rw[List.getElem?_eq_getElem hxl,hy])
       have hb?:(yda g G v)[x]? = some (if h = -1 then(-1,(ds.length:Int) - 1)else(0,h)):=by
        simp[yda,hxG,hh,hdeg]
       rw[hy]at hc5 hr5;rw[hh]at hc6 hr6;obtain⟨hr5a,hr5b⟩:=hr5;obtain⟨hr6a,hr6b⟩:=hr6
       clear hl7 hds hdeg hy hh
       by_cases c2:h = -1
       ·have c2':(h == -1)=true:=by simp[c2]
        rw[if_pos c2]at hb?;have Hb?:=Lib.hid hb?
        clear hb? c2
        by_cases c3:y < -1
        ·have Hf:=Lib.hid (Hbad.out (fun h=>by have:=h.2 x _ y Hb?.out Hy?.out;simp only at this;omega))
         go_wp2
         go_quiet (fail)
         go_wp2
         go_quiet (fail)
         go_wp2
         go_ret
         exact⟨ybf Hf.out.symm,below_drewN HbW.out _⟩
        ·by_cases c4:(ds.length:Int) - 1<y
         ·have Hf:=Lib.hid (Hbad.out (fun h=>by have:=h.2 x _ y Hb?.out Hy?.out;simp only at this;omega))
          go_wp2
          go_quiet (fail)
          go_wp2
          go_quiet (fail)
          go_wp2
          go_ret
          exact⟨ybf Hf.out.symm,below_drewN HbW.out _⟩
         ·have c4d:decide ((ds.length:Int) - 1<y)=false:=by simp;omega
          go_wp2
          go_quiet (fail)
          go_wp2
          go_quiet (fail)
          go_wp2
          go_roundg (gk - 1)
          case measure=>omega
          case rel =>
           refine⟨x+1,_,by omega,by go_num,rfl,Lib.hid (fun j b z hj hb hz=>?_)⟩
           by_cases hjx:j<x
           ·exact hst.out j b z hjx hb hz
           ·obtain rfl:j=x:=by omega
            rw[Hb?.out]at hb;rw[Hy?.out]at hz;cases hb
            cases hz
            simp only;omega
       ·have c2':(h == -1)=false:=by simp[c2]
        rw[if_neg c2]at hb?;have Hb?:=Lib.hid hb?
        clear hb? c2
        by_cases c3:y<0
        ·have Hf:=Lib.hid (Hbad.out (fun h=>by have:=h.2 x _ y Hb?.out Hy?.out;simp only at this;omega))
         go_wp2
         go_quiet (fail)
         go_wp2
         go_ret
         exact⟨ybf Hf.out.symm,below_drewN HbW.out _⟩
        ·by_cases c4:h<y
         ·have Hf:=Lib.hid (Hbad.out (fun h=>by have:=h.2 x _ y Hb?.out Hy?.out;simp only at this;omega))
          go_wp2
          go_quiet (fail)
          go_wp2
          go_ret
          exact⟨ybf Hf.out.symm,below_drewN HbW.out _⟩
         ·have c4d:decide (h<y)=false:=by simp;omega
          go_wp2
          go_quiet (fail)
          go_wp2
          go_roundg (gk - 1)
          case measure=>omega
          case rel =>
           refine⟨x+1,_,by omega,by go_num,rfl,Lib.hid (fun j b z hj hb hz=>?_)⟩
           by_cases hjx:j<x
           ·exact hst.out j b z hjx hb hz
           ·obtain rfl:j=x:=by omega
            rw[Hb?.out]at hb;rw[Hy?.out]at hz;cases hb
            cases hz
            simp only;omega
      ·obtain rfl:x=s.length:=by omega
       go_wp2
       go_roundg (go - 1)
       case measure=>omega
       case rel =>
        refine⟨v+1,_,by omega,by go_num,rfl,Lib.hid (fun u s' hu hs'=>?_)⟩
        by_cases huv:u<v
        ·exact hok.out u s' huv hs'
        ·obtain rfl:u=v:=by omega
         rw[Hs?.out]at hs';cases hs'
         refine⟨by rw[yje,Hsl.out],fun j b z hb hz=>hst.out j b z (List.getElem?_eq_some_iff.1 hz).1 hb hz⟩
    ·have c1':((s.length:Int) != (G.length:Int))=true:=by simp;omega
     have Hf:=Lib.hid (Hbad.out (fun h=>c1 (by rw[h.1,yje])))
     clear c1
     go_wp2
     go_ret
     exact⟨ybf Hf.out.symm,below_drewN HbW.out _⟩
   ·obtain rfl:v=c.length:=by omega
    have Ht:=Lib.hid (ysy (n:=g.ports.length) (bs:=yda g G) (c:=c) ⟨Hn.out,fun v s hs=>hok.out v s (List.getElem?_eq_some_iff.1 hs).1 hs⟩)
    go_wp2
    go_ret
    exact⟨ybf Ht.out.symm,below_drewN HbW.out _⟩
 ·have n1':((c.length:Int) != (g.ids.length:Int))=true:=by simp;omega
  have Hf:=Lib.hid (yhi (n:=g.ports.length) (bs:=yda g G) (c:=c) (fun h=>n1 (h.1.trans hid.symm)))
  clear n1 hid
  go_enter Tryz.func102,Tryz.ntmps102
  go_wp2
  go_ret
  exact⟨ybf Hf.out.symm,(Below.refl _ _).alloc (Nat.le_refl _) _⟩
end Go.Proofs.YtiejahgklcjhkaaGreatDoor

namespace Go.Proofs.YtiejahgklcjhkaaGreatDoor
open Go
namespace Sh
open Ev Go.RowKit
set_option maxRecDepth 8000
theorem ybzt{g:Gr}(hg:ybb g){c:Conf}(hR:ybkh c){G:List Int}(hG:∀ x ∈ G,I64 x):Returns Tryz.prog 102 [grV g,ybe c,yj G] (.b (ynw g.ports.length (yda g G) c)):=by
 refine ybfe ⟨_,_,Tryz.func102,rfl⟩ (fun _=>.b) (fun _=>.simple rfl) fun H m us hH hr φ M w us' hRl hs hv=>?_
 obtain⟨u,us2,rfl,h1,h2⟩:∃ u us2,us=u :: us2/\RV H om0 (grV g) u/\RVL H om0 [ybe c,yj G] us2:=by
  cases hr with | cons x y=>exact⟨_,_,rfl,x,y⟩
 obtain⟨u2,u3,rfl,h3,h4⟩:=rvl2 h2
 obtain⟨u',us3,rfl,h5,h6⟩:∃ u' us3,us'=u' :: us3/\VR φ u u'/\VRL φ [u2,u3] us3:=by
  cases hv with | cons x y=>exact⟨_,_,rfl,x,y⟩
 obtain⟨u2',u3',rfl,h7,h8⟩:=ytr h6;exact ylk u' u2' u3' g c G w (ycul hH h1 h5 hRl hs (yblv hg)) (ycsq hH h3 h7 hRl hs hR) (ints_at hH h4 h8 hRl hs hG) hg
end Sh
end Go.Proofs.YtiejahgklcjhkaaGreatDoor

namespace Go.Proofs.YtiejahgklcjhkaaGreatDoor
open Go.RowKit

end Go.Proofs.YtiejahgklcjhkaaGreatDoor

namespace Go.Proofs.YtiejahgklcjhkaaGreatDoor
open Go.RowKit

end Go.Proofs.YtiejahgklcjhkaaGreatDoor

namespace Go.Proofs.YtiejahgklcjhkaaGreatDoor
open Go
namespace Sh
open Ev Go.RowKit
set_option maxRecDepth 8000
theorem ybio(nm:ByteArray)(hi pn pi:Int):Returns Tryz.prog 79 [.a (.string nm),.i .i64 hi,.i .i64 pn,.i .i64 pi] (.ag (varC ⟨nm,1,0,hi,pn,pi⟩)):=by
 refine Returns.of (ycvy _ _ ?_);simp only[c79,yczc,ydcm,varC,go_sem,Nat.reduceEqDiff,Nat.reduceAdd,Nat.reduceLeDiff,Nat.reduceLT,↓reduceIte,reduceCtorEq];exact Sim.refl _
end Sh
end Go.Proofs.YtiejahgklcjhkaaGreatDoor

namespace Go.Proofs.YtiejahgklcjhkaaGreatDoor
namespace Sh
open Go Ev
def yte:List Nat:=[0,1,1,2,1,2,2,3,1,2,2,3,2,3,3,4,1,2,2,3,2,3,3,4,2,3,3,4,3,4,4,5,1,2,2,3,2,3,3,4,2,3,3,4,3,4,4,5,2,3,3,4,3,4,4,5,3,4,4,5,4,5,5,6,1,2,2,3,2,3,3,4,2,3,3,4,3,4,4,5,2,3,3,4,3,4,4,5,3,4,4,5,4,5,5,6,2,3,3,4,3,4,4,5,3,4,4,5,4,5,5,6,3,4,4,5,4,5,5,6,4,5,5,6,5,6,6,7,1,2,2,3,2,3,3,4,2,3,3,4,3,4,4,5,2,3,3,4,3,4,4,5,3,4,4,5,4,5,5,6,2,3,3,4,3,4,4,5,3,4,4,5,4,5,5,6,3,4,4,5,4,5,5,6,4,5,5,6,5,6,6,7,2,3,3,4,3,4,4,5,3,4,4,5,4,5,5,6,3,4,4,5,4,5,5,6,4,5,5,6,5,6,6,7,3,4,4,5,4,5,5,6,4,5,5,6,5,6,6,7,4,5,5,6,5,6,6,7,5,6,6,7,6,7,7,8]
def yces:LO:=[o3 (.box 87 (.tmp 0)) 3 0,o3 (.box 27 (.tmp 1)) 4 0,o3 (.mv (ci' 0)) 6 0,o3 (.mv (ci' 0)) 7 4]
def ycbe:LO:=[o3 (.build [.i .i64 0,.a (.nilFunc)] [(0,1,(ci' 1)),(1,1,(.func 198))]) 11 0,o3 (.build [.i .i64 0,.a (.nilFunc)] [(0,1,(ci' 2)),(1,1,(.func 199))]) 12 0,o3 (.build [.i .i64 0,.a (.nilFunc)] [(0,1,(ci' 3)),(1,1,(.func 200))]) 13 0,o3 (.bslice 209 2 3 [.i .i64 0,.a (.nilFunc),.i .i64 0,.a (.nilFunc),.i .i64 0,.a (.nilFunc)] [(0,2,(.tmp 11)),(2,2,(.tmp 12)),(4,2,(.tmp 13))]) 14 7,mv' 14 8 15]
def ycaf:LO:=[mv' 8 15 0,ln' 15 16 1,o3 (.mv (ci' 0)) 17 0]
def ybff:LO:=[bn' .lss 17 16 18 0]
def ybcz:LO:=[ix' 2 15 17 19 0,ld' true 2 19 20 1,o3 (.alloc 209 1 [.i .i64 0,.a (.nilFunc)]) 10 0,o0 (.store 2 (.tmp 10) (.tmp 20)) 7]
def ybec:LO:=[fa' 0 1 10 21 0,ld' false 1 21 22 1,fa' 1 1 3 23 0,ld' false 1 23 24 4,bn' .eql 22 24 25 15]
def ybdz:LO:=[fa' 1 1 10 26 0,ld' false 1 26 27 1,ld' true 6 3 28 0,ld' true 2 4 29 0,mv' 2 30 0,o3 (.call (.tmp 27) [(.tmp 28),(.tmp 29),(.tmp 30)]) 31 31,xt' 31 0 32 63,xt' 31 1 33 63,mv' 32 6 255,mv' 33 7 511]
def ybem:LO:=[o3 (.bin .add (.tmp 17) (ci' 1)) 34 0,mv' 34 17 1]
def yben:LO:=[o3 (.mv (ci' 0)) 6 0,o3 (.mv (.const (.int .i64 (-1)))) 7 1]
def c171:SC:=(.seq (.reg false yces) (.seq (.reg false ycbe) (.seq (.seq (.reg false ycaf) (.block 0 (.loop (.seq (.reg false ybff) (.seq (.cond (.tmp 18) .skip (.exit 0)) (.seq (.block 1 (.seq (.reg false ybcz) (.seq (.reg false ybec) (.cond (.tmp 25) (.seq (.reg false ybdz) .ret) .skip)))) (.reg false ybem))))))) (.seq (.reg false yben) .ret))))
theorem ycqy:Fn 171 c171 [.t 6,.t 7]:=fn_0 Tryz.func171 (by kernel_rfl) (by kernel_rfl)
def ycja:LO:=[o3 (.box 87 (.tmp 0)) 3 0,o3 (.box 27 (.tmp 1)) 4 0,o3 (.mv (ci' 0)) 6 0,o3 (.mv (ci' 0)) 7 4]
def ycon:LO:=[fa' 2 1 3 8 0,ld' false 1 8 9 1,fa' 3 1 3 10 0,ld' false 1 10 11 4,fa' 4 1 3 12 0,ld' false 1 12 13 16,fa' 0 1 4 14 0,ld' false 1 14 15 64,ln' 15 16 192,bn' .mul 13 16 17 496,bn' .add 11 17 18 1020,fa' 5 1 3 19 0,ld' false 1 19 20 2048,fa' 0 1 4 21 0,ld' false 1 21 22 8192,cl' 160 [22] 23 24576,bn' .mul 20 23 24 63488,bn' .add 18 24 25 131068,mv' 9 6 57347,mv' 25 7 524287]
def c198:SC:=(.seq (.reg false ycja) (.seq (.reg true ycon) .ret))
theorem ycrh:Fn 198 c198 [.t 6,.t 7]:=fn_0 Tryz.func198 (by kernel_rfl) (by kernel_rfl)
def ycfg:LO:=[o3 (.box 87 (.tmp 0)) 3 0,o3 (.box 27 (.tmp 1)) 4 0,o3 (.mv (ci' 0)) 6 0,o3 (.mv (ci' 0)) 7 4]
def yckw:LO:=[o3 (.mv (ci' 0)) 6 0,o3 (.mv (ci' 1)) 7 1]
def c199:SC:=(.seq (.reg false ycfg) (.seq (.reg false yckw) .ret))
theorem ycta:Fn 199 c199 [.t 6,.t 7]:=fn_0 Tryz.func199 (by kernel_rfl) (by kernel_rfl)
def ycnp:LO:=[o3 (.box 87 (.tmp 0)) 3 0,o3 (.box 27 (.tmp 1)) 4 0,o3 (.mv (ci' 0)) 6 0,o3 (.mv (ci' 0)) 7 4]
def ycab:LO:=[fa' 1 1 4 8 0,ld' false 1 8 9 1,mv' 2 10 0,ix' 1 9 10 11 7,ld' false 1 11 12 15,ln' 12 13 31,o3 (.bin .sub (.tmp 13) (ci' 1)) 14 63,o3 (.mv (.const (.int .i64 (-1)))) 6 0,mv' 14 7 255]
def c200:SC:=(.seq (.reg false ycnp) (.seq (.reg true ycab) .ret))
theorem ycru:Fn 200 c200 [.t 6,.t 7]:=fn_0 Tryz.func200 (by kernel_rfl) (by kernel_rfl)
def yccm:LO:=[o3 (.box 58 (.tmp 0)) 2 0,o3 (.box 27 (.tmp 1)) 3 0,o3 (.mv (.const (.slice none 0 0))) 4 0]
def ycbt:LO:=[fa' 0 1 3 9 0,ld' false 1 9 10 1,ln' 10 11 3,o3 (.mk 73 1 24 [.a (.slice none 0 0)] (.tmp 11) (.tmp 11)) 12 7,mv' 12 5 15]
def ychg:LO:=[mv' 5 13 0,ln' 13 14 1,o3 (.mv (ci' 0)) 15 0]
def yclc:LO:=[bn' .lss 15 14 16 0]
def ycce:LO:=[mv' 15 17 0,mv' 17 6 1]
def ycdf:LO:=[mv' 5 18 0,mv' 6 19 0,fa' 1 1 2 20 0,ld' false 1 20 21 4,ln' 21 22 12,o3 (.mk 75 2 16 [.i .i64 0,.i .i64 0] (.tmp 22) (.tmp 22)) 23 28,ix' 1 18 19 24 63,o0 (.store 1 (.tmp 24) (.tmp 23)) 127]
def ycky:LO:=[fa' 1 1 2 25 0,ld' false 1 25 26 1,ln' 26 27 3,o3 (.mv (ci' 0)) 28 0]
def ycio:LO:=[bn' .lss 28 27 29 0]
def ychw:LO:=[mv' 28 30 0,ix' 6 26 28 31 0,ld' true 6 31 32 2,o3 (.alloc 87 1 [.a (.string (ByteArray.mk #[])),.i .i64 0,.i .i64 0,.i .i64 0,.i .i64 0,.i .i64 0]) 8 0,mv' 30 7 15,o0 (.store 6 (.tmp 8) (.tmp 32)) 31]
def ycgt:LO:=[mv' 5 34 0,mv' 6 35 0,ix' 1 34 35 36 3,ld' false 1 36 37 7,mv' 7 38 0,mv' 5 39 0,mv' 6 40 0,ix' 1 39 40 41 96,ld' false 1 41 42 224,mv' 7 43 0,ld' true 6 8 44 0,ld' true 2 3 45 0,mv' 6 46 0,cl' 171 [44,45,46] 47 7168,mv' 47 33 15360,xt' 33 0 48 31744,xt' 33 1 49 31744,ix' 2 37 38 50 31,o3 (.idxA 2 1 (.tmp 50) (ci' 0)) 51 196095,o0 (.store 1 (.tmp 51) (.tmp 48)) 458239,ix' 2 42 43 52 992,o3 (.idxA 2 1 (.tmp 52) (ci' 1)) 53 2097151,o0 (.store 1 (.tmp 53) (.tmp 49)) 4194303]
def ybmo:LO:=[o3 (.bin .add (.tmp 28) (ci' 1)) 54 0,mv' 54 28 1]
def ybqz:LO:=[o3 (.bin .add (.tmp 15) (ci' 1)) 55 0,mv' 55 15 1]
def ybtj:LO:=[mv' 5 56 0,mv' 56 4 1]
def c144:SC:=(.seq (.reg false yccm) (.seq (.reg false ycbt) (.seq (.seq (.reg false ychg) (.block 0 (.loop (.seq (.reg false yclc) (.seq (.cond (.tmp 16) .skip (.exit 0)) (.seq (.block 1 (.seq (.reg false ycce) (.seq (.reg false ycdf) (.seq (.reg false ycky) (.block 2 (.loop (.seq (.reg false ycio) (.seq (.cond (.tmp 29) .skip (.exit 2)) (.seq (.block 3 (.seq (.reg false ychw) (.reg true ycgt))) (.reg false ybmo)))))))))) (.reg false ybqz))))))) (.seq (.reg false ybtj) .ret))))
theorem ycvh:Fn 144 c144 [.t 4]:=fn_0 Tryz.func144 (by kernel_rfl) (by kernel_rfl)
def ycdi:LO:=[o3 (.box 75 (.tmp 1)) 4 0,o3 (.mv (ci' 0)) 6 0]
def ycai:LO:=[mv' 2 8 0,o3 (.idxA 2 1 (.tmp 4) (ci' 0)) 9 0,ld' false 1 9 10 2,bn' .geq 8 10 11 7,mv' 11 12 15,⟨.mv (.tmp 2),some 13,some (12,true),31⟩,⟨.idxA 2 1 (.tmp 4) (ci' 1),some 14,some (12,true),31⟩,⟨.load false 1 (.tmp 14),some 15,some (12,true),95⟩,⟨.bin .leq (.tmp 13) (.tmp 15),some 16,some (12,true),255⟩,o3 (.pick (.tmp 12) (.tmp 16) (.const (.bool false))) 17 511,mv' 17 7 1023]
def ycnl:LO:=[mv' 2 18 0,mv' 18 6 1]
def ychu:LO:=[mv' 0 20 0,o3 (.bin .eql (.tmp 20) (ci' 3)) 21 1,mv' 21 19 3]
def ychn:LO:=[o3 (.mv (.const (.int .i64 (-1)))) 6 0]
def ycbz:LO:=[mv' 2 23 0,o3 (.idxA 2 1 (.tmp 4) (ci' 0)) 24 0,ld' false 1 24 25 2,bn' .lss 23 25 26 7,mv' 26 22 15]
def yccj:LO:=[o3 (.idxA 2 1 (.tmp 4) (ci' 0)) 27 0,ld' false 1 27 28 1,mv' 28 6 3]
def ycow:LO:=[o3 (.idxA 2 1 (.tmp 4) (ci' 1)) 29 0,ld' false 1 29 30 1,mv' 30 6 3]
def c194:SC:=(.seq (.reg false ycdi) (.seq (.block 0 (.seq (.reg false ycai) (.cond (.tmp 7) (.seq (.reg false ycnl) .ret) (.seq (.reg false ychu) (.cond (.tmp 19) (.seq (.reg false ychn) .ret) (.seq (.reg false ycbz) (.cond (.tmp 22) (.seq (.reg false yccj) .ret) .skip))))))) (.seq (.reg false ycow) .ret)))
theorem ycuz:Fn 194 c194 [.t 6]:=fn_0 Tryz.func194 (by kernel_rfl) (by kernel_rfl)
def ychj:LO:=[o3 (.box 58 (.tmp 0)) 2 0,o3 (.box 27 (.tmp 1)) 3 0,o3 (.mv (ci' 0)) 4 0]
def ycjo:LO:=[ld' true 3 2 9 0,cl' 191 [9] 10 1,o3 (.un .not (.tmp 10)) 11 3]
def ycig:LO:=[o3 (.mv (ci' 8)) 4 0]
def ycmx:LO:=[ld' true 2 3 12 0,cl' 96 [12] 13 1,o3 (.un .not (.tmp 13)) 14 3]
def yccg:LO:=[o3 (.mv (ci' 1)) 4 0]
def ycco:LO:=[fa' 1 1 2 15 0,ld' false 1 15 16 1,ln' 16 17 3,o3 (.mv (ci' 0)) 18 0]
def ycdp:LO:=[bn' .lss 18 17 19 0]
def ycjy:LO:=[ix' 6 16 18 20 0,ld' true 6 20 21 1,o3 (.alloc 87 1 [.a (.string (ByteArray.mk #[])),.i .i64 0,.i .i64 0,.i .i64 0,.i .i64 0,.i .i64 0]) 6 0,o0 (.store 6 (.tmp 6) (.tmp 21)) 7]
def ycch:LO:=[fa' 1 1 6 22 0,ld' false 1 22 23 1,o3 (.bin .neq (.tmp 23) (ci' 1)) 24 3]
def yckd:LO:=[ld' true 6 6 26 0,ld' true 2 3 27 0,o3 (.call (.func 171) [(.tmp 26),(.tmp 27),(ci' 0)]) 28 3,mv' 28 25 7,xt' 25 0 29 15,xt' 25 1 30 15,mv' 29 7 31,mv' 30 8 127]
def yblw:LO:=[mv' 8 31 0,mv' 7 32 0,bn' .lss 31 32 33 3,mv' 33 34 7,⟨.mv (.tmp 8),some 35,some (34,false),15⟩,⟨.mv (.tmp 7),some 36,some (34,false),15⟩,⟨.bin .sub (.tmp 35) (.tmp 36),some 37,some (34,false),63⟩,⟨.bin .add (.tmp 37) (ci' 1),some 38,some (34,false),127⟩,⟨.bin .gtr (.tmp 38) (ci' 4096),some 39,some (34,false),255⟩,o3 (.pick (.tmp 34) (.const (.bool true)) (.tmp 39)) 40 511]
def ybti:LO:=[o3 (.mv (ci' 9)) 4 0]
def ybps:LO:=[o3 (.bin .add (.tmp 18) (ci' 1)) 41 0,mv' 41 18 1]
def yblk:LO:=[o3 (.mv (ci' 0)) 4 0]
def c155:SC:=(.seq (.reg false ychj) (.seq (.seq (.reg false ycjo) (.cond (.tmp 11) (.seq (.reg false ycig) .ret) .skip)) (.seq (.seq (.reg false ycmx) (.cond (.tmp 14) (.seq (.reg false yccg) .ret) .skip)) (.seq (.seq (.reg false ycco) (.block 0 (.loop (.seq (.reg false ycdp) (.seq (.cond (.tmp 19) .skip (.exit 0)) (.seq (.block 1 (.seq (.reg false ycjy) (.seq (.seq (.reg false ycch) (.cond (.tmp 24) (.exit 1) .skip)) (.seq (.reg false yckd) (.seq (.reg false yblw) (.cond (.tmp 40) (.seq (.reg false ybti) .ret) .skip)))))) (.reg false ybps))))))) (.seq (.reg false yblk) .ret)))))
theorem ycse:Fn 155 c155 [.t 4]:=fn_0 Tryz.func155 (by kernel_rfl) (by kernel_rfl)
def yceh:LO:=[o3 (.box 58 (.tmp 0)) 3 0,o3 (.box 27 (.tmp 1)) 4 0,o3 (.mv (ci' 0)) 6 0]
def yclg:LO:=[ld' true 3 3 8 0,ld' true 2 4 9 0,cl' 155 [8,9] 10 3,mv' 10 7 7]
def ycdt:LO:=[mv' 7 11 0,o3 (.bin .neq (.tmp 11) (ci' 0)) 12 1]
def ycaw:LO:=[mv' 7 13 0,mv' 13 6 1]
def ycbq:LO:=[ld' true 3 3 14 0,ld' true 2 4 15 0,cl' 144 [14,15] 16 3,mv' 2 17 0,cl' 156 [16,17] 18 15,o3 (.un .not (.tmp 18)) 19 31]
def ycgy:LO:=[o3 (.mv (ci' 10)) 6 0]
def ycly:LO:=[o3 (.mv (ci' 0)) 6 0]
def c112:SC:=(.seq (.reg false yceh) (.seq (.seq (.reg false yclg) (.seq (.reg false ycdt) (.cond (.tmp 12) (.seq (.reg false ycaw) .ret) .skip))) (.seq (.seq (.reg false ycbq) (.cond (.tmp 19) (.seq (.reg false ycgy) .ret) .skip)) (.seq (.reg false ycly) .ret))))
theorem ycte:Fn 112 c112 [.t 6]:=fn_0 Tryz.func112 (by kernel_rfl) (by kernel_rfl)
def ycee:LO:=[o3 (.mv (.const (.bool false))) 4 0]
def ycgi:LO:=[mv' 1 7 0,ln' 7 8 1,mv' 0 9 0,ln' 9 10 4,bn' .neq 8 10 11 15]
def ychd:LO:=[o3 (.mv (.const (.bool false))) 4 0]
def yccr:LO:=[mv' 0 12 0,ln' 12 13 1,o3 (.mv (ci' 0)) 14 0]
def ycap:LO:=[bn' .lss 14 13 15 0]
def ycoh:LO:=[mv' 14 16 0,ix' 1 12 14 17 0,ld' false 1 17 18 2,mv' 16 5 7,mv' 18 6 15]
def ycim:LO:=[mv' 6 19 0,mv' 1 20 0,mv' 5 21 0,ix' 1 20 21 22 6,ld' false 1 22 23 14,cl' 192 [19,23] 24 31,o3 (.un .not (.tmp 24)) 25 63]
def ycau:LO:=[o3 (.mv (.const (.bool false))) 4 0]
def ycmt:LO:=[o3 (.bin .add (.tmp 14) (ci' 1)) 26 0,mv' 26 14 1]
def ycnc:LO:=[o3 (.mv (.const (.bool true))) 4 0]
def c156:SC:=(.seq (.reg false ycee) (.seq (.seq (.reg false ycgi) (.cond (.tmp 11) (.seq (.reg false ychd) .ret) .skip)) (.seq (.seq (.reg false yccr) (.block 0 (.loop (.seq (.reg false ycap) (.seq (.cond (.tmp 15) .skip (.exit 0)) (.seq (.block 1 (.seq (.reg false ycoh) (.seq (.reg false ycim) (.cond (.tmp 25) (.seq (.reg false ycau) .ret) .skip)))) (.reg false ycmt))))))) (.seq (.reg false ycnc) .ret))))
theorem yctg:Fn 156 c156 [.t 4]:=fn_0 Tryz.func156 (by kernel_rfl) (by kernel_rfl)
def yckv:LO:=[o3 (.mv (.const (.bool false))) 4 0]
def ycca:LO:=[mv' 1 7 0,ln' 7 8 1,mv' 0 9 0,ln' 9 10 4,bn' .neq 8 10 11 15]
def yclb:LO:=[o3 (.mv (.const (.bool false))) 4 0]
def ycnv:LO:=[mv' 1 12 0,ln' 12 13 1,o3 (.mv (ci' 0)) 14 0]
def yclo:LO:=[bn' .lss 14 13 15 0]
def yccq:LO:=[mv' 14 16 0,ix' 1 12 14 17 0,ld' false 1 17 18 2,mv' 16 5 7,mv' 18 6 15]
def ycop:LO:=[mv' 6 19 0,mv' 0 20 0,mv' 5 21 0,ix' 2 20 21 22 6,o3 (.idxA 2 1 (.tmp 22) (ci' 0)) 23 14,ld' false 1 23 24 30,bn' .lss 19 24 25 63,mv' 25 26 127,⟨.mv (.tmp 6),some 27,some (26,false),255⟩,⟨.mv (.tmp 0),some 28,some (26,false),255⟩,⟨.mv (.tmp 5),some 29,some (26,false),255⟩,⟨.idx 2 (.tmp 28) (.tmp 29),some 30,some (26,false),1791⟩,⟨.idxA 2 1 (.tmp 30) (ci' 1),some 31,some (26,false),3839⟩,⟨.load false 1 (.tmp 31),some 32,some (26,false),7935⟩,⟨.bin .gtr (.tmp 27) (.tmp 32),some 33,some (26,false),16383⟩,o3 (.pick (.tmp 26) (.const (.bool true)) (.tmp 33)) 34 32767]
def ycom:LO:=[o3 (.mv (.const (.bool false))) 4 0]
def ycea:LO:=[o3 (.bin .add (.tmp 14) (ci' 1)) 35 0,mv' 35 14 1]
def ycfl:LO:=[o3 (.mv (.const (.bool true))) 4 0]
def c192:SC:=(.seq (.reg false yckv) (.seq (.seq (.reg false ycca) (.cond (.tmp 11) (.seq (.reg false yclb) .ret) .skip)) (.seq (.seq (.reg false ycnv) (.block 0 (.loop (.seq (.reg false yclo) (.seq (.cond (.tmp 15) .skip (.exit 0)) (.seq (.block 1 (.seq (.reg false yccq) (.seq (.reg false ycop) (.cond (.tmp 34) (.seq (.reg false ycom) .ret) .skip)))) (.reg false ycea))))))) (.seq (.reg false ycfl) .ret))))
theorem ycre:Fn 192 c192 [.t 4]:=fn_0 Tryz.func192 (by kernel_rfl) (by kernel_rfl)
def ybud:LO:=[o3 (.mv (.const (.slice none 0 0))) 2 0]
def ybkf:LO:=[mv' 0 6 0,ln' 6 7 1,o3 (.mk 22 1 24 [.a (.slice none 0 0)] (.tmp 7) (.tmp 7)) 8 3,mv' 8 3 7]
def yboz:LO:=[mv' 0 9 0,ln' 9 10 1,o3 (.mv (ci' 0)) 11 0]
def yxx:LO:=[bn' .lss 11 10 12 0]
def ywh:LO:=[mv' 11 13 0,ix' 1 9 11 14 0,ld' false 1 14 15 2,mv' 13 4 7,mv' 15 5 15]
def yxz:LO:=[mv' 3 16 0,mv' 4 17 0,mv' 5 18 0,o3 (.app 3 1 8 (.const (.slice none 0 0)) (.tmp 18)) 19 4,ix' 1 16 17 20 15,o0 (.store 1 (.tmp 20) (.tmp 19)) 31]
def yvt:LO:=[o3 (.bin .add (.tmp 11) (ci' 1)) 21 0,mv' 21 11 1]
def ywq:LO:=[mv' 3 22 0,mv' 22 2 1]
def c132:SC:=(.seq (.reg false ybud) (.seq (.reg false ybkf) (.seq (.seq (.reg false yboz) (.block 0 (.loop (.seq (.reg false yxx) (.seq (.cond (.tmp 12) .skip (.exit 0)) (.seq (.block 1 (.seq (.reg false ywh) (.reg false yxz))) (.reg false yvt))))))) (.seq (.reg false ywq) .ret))))
theorem ycty:Fn 132 c132 [.t 2]:=fn_0 Tryz.func132 (by kernel_rfl) (by kernel_rfl)
theorem ybvu:FnM 132 c132 [.t 2]:=fn_m Tryz.func132 (by kernel_rfl) (by kernel_rfl)
def yddd:LO:=[o3 (.box 58 (.tmp 0)) 2 0,o3 (.box 27 (.tmp 1)) 3 0,o3 (.mv (.const (.pointer none))) 4 0]
def ydaq:LO:=[ld' true 3 2 5 0,ld' true 3 2 6 0,ld' true 2 3 7 0,cl' 143 [6,7] 8 6,ld' true 3 2 9 0,ld' true 2 3 10 0,cl' 144 [9,10] 11 62,o3 (.build [.a (.string (ByteArray.mk #[])),.a (.slice none 0 0),.a (.slice none 0 0),.a (.pointer none),.a (.slice none 0 0)] [(0,3,(.tmp 5)),(3,1,(.tmp 8)),(4,1,(.tmp 11))]) 12 127,o3 (.box 140 (.tmp 12)) 13 255,mv' 13 4 511]
def c93:SC:=(.seq (.reg false yddd) (.seq (.reg true ydaq) .ret))
theorem ycvs:Fn 93 c93 [.t 4]:=fn_0 Tryz.func93 (by kernel_rfl) (by kernel_rfl)
def yckx:LO:=[o3 (.mv (ci' 0)) 6 0]
def ycac:LO:=[mv' 0 8 0,o3 (.nilck (.tmp 8)) 9 1,fa' 0 3 9 10 3,fa' 2 1 10 11 7,ld' false 1 11 12 15,ln' 12 13 31,o3 (.mv (ci' 0)) 14 0]
def ycdx:LO:=[bn' .lss 14 13 15 0]
def ycfr:LO:=[mv' 14 16 0,mv' 16 7 1]
def ycaj:LO:=[mv' 0 17 0,o3 (.nilck (.tmp 17)) 18 1,fa' 3 1 18 19 3,ld' false 1 19 20 7,mv' 1 21 0,mv' 2 22 0,mv' 7 23 0,cl' 172 [20,21,22,23] 24 127]
def ycji:LO:=[mv' 7 25 0,mv' 25 6 1]
def yckh:LO:=[o3 (.bin .add (.tmp 14) (ci' 1)) 26 0,mv' 26 14 1]
def ycew:LO:=[o3 (.mv (.const (.int .i64 (-1)))) 6 0]
def c147:SC:=(.seq (.reg false yckx) (.seq (.seq (.reg false ycac) (.block 0 (.loop (.seq (.reg false ycdx) (.seq (.cond (.tmp 15) .skip (.exit 0)) (.seq (.block 1 (.seq (.reg false ycfr) (.seq (.reg false ycaj) (.cond (.tmp 24) (.seq (.reg false ycji) .ret) .skip)))) (.reg false yckh))))))) (.seq (.reg false ycew) .ret)))
theorem yctu:Fn 147 c147 [.t 6]:=fn_0 Tryz.func147 (by kernel_rfl) (by kernel_rfl)
def ycvu:LO:=[o3 (.box 99 (.tmp 0)) 2 0,o3 (.box 34 (.tmp 1)) 3 0,o3 (.mv (.const (.int .u32 0))) 4 0]
def ycxj:LO:=[ld' false 1 2 5 0,o3 (.nilck (.tmp 5)) 6 1,fa' 4 1 6 7 3,ld' false 1 7 8 7,ln' 8 9 15,o3 (.mkfn 146 [] [(.tmp 2),(.tmp 3)]) 10 0,cl' 145 [9,10] 11 63,mv' 11 4 127]
def c94:SC:=(.seq (.reg false ycvu) (.seq (.reg false ycxj) .ret))
theorem ycxg:Fn 94 c94 [.t 4]:=fn_0 Tryz.func94 (by kernel_rfl) (by kernel_rfl)
def ycmm:LO:=[o3 (.mv (.const (.bool false))) 4 0]
def yciy:LO:=[ld' false 1 1 5 0,ld' false 1 2 6 0,mv' 0 7 0,cl' 147 [5,6,7] 8 7,o3 (.bin .geq (.tmp 8) (ci' 0)) 9 15,mv' 9 4 31]
def c146:SC:=(.seq (.reg false ycmm) (.seq (.reg false yciy) .ret))
theorem ycsb:Fn 146 c146 [.t 4]:=fn_0 Tryz.func146 (by kernel_rfl) (by kernel_rfl)
def ycfp:LO:=[o3 (.mv (.const (.slice none 0 0))) 8 0]
def ycla:LO:=[mv' 1 13 0,mv' 2 14 0,ix' 1 13 14 15 3,ld' false 1 15 16 7,o3 (.app 3 1 8 (.const (.slice none 0 0)) (.tmp 16)) 17 15,mv' 17 9 31]
def ycbj:LO:=[mv' 0 18 0,o3 (.nilck (.tmp 18)) 19 1,fa' 0 3 19 20 3,fa' 2 1 20 21 7,ld' false 1 21 22 15,mv' 3 23 0,ix' 3 22 23 24 63,fa' 2 1 24 25 127,ld' false 1 25 26 255,ln' 26 27 511,o3 (.mv (ci' 0)) 28 0]
def ycks:LO:=[bn' .lss 28 27 29 0]
def ycfz:LO:=[ix' 2 26 28 30 0,ld' true 2 30 31 1,o3 (.alloc 200 1 [.i .i64 0,.a (.slice none 0 0)]) 11 0,o0 (.store 2 (.tmp 11) (.tmp 31)) 7]
def ycoi:LO:=[mv' 0 32 0,o3 (.nilck (.tmp 32)) 33 1,fa' 3 1 33 34 3,ld' false 1 34 35 7,mv' 1 36 0,mv' 2 37 0,fa' 1 1 11 38 0,ld' false 1 38 39 64,cl' 193 [35,36,37,39] 40 255,mv' 40 12 511]
def ycld:LO:=[mv' 9 41 0,fa' 0 1 11 42 0,ld' false 1 42 43 2,mv' 0 44 0,o3 (.nilck (.tmp 44)) 45 8,fa' 0 3 45 46 24,fa' 1 1 46 47 56,ld' false 1 47 48 120,fa' 0 1 11 49 0,ld' false 1 49 50 256,ix' 6 48 50 51 1016,fa' 1 1 51 52 2040,ld' false 1 52 53 4088,mv' 0 54 0,o3 (.nilck (.tmp 54)) 55 8192,fa' 4 1 55 56 24576,ld' false 1 56 57 57344,mv' 2 58 0,ix' 1 57 58 59 253952,ld' false 1 59 60 516096,fa' 0 1 11 61 0,ld' false 1 61 62 1048576,ix' 2 60 62 63 4186112,ld' true 2 63 64 8380416,mv' 12 65 0,cl' 194 [53,64,65] 66 33554424,ix' 1 41 43 67 67108863,o0 (.store 1 (.tmp 67) (.tmp 66)) 134217727]
def ycmr:LO:=[o3 (.bin .add (.tmp 28) (ci' 1)) 68 0,mv' 68 28 1]
def ycas:LO:=[mv' 9 69 0,mv' 69 8 1]
def c157:SC:=(.seq (.reg false ycfp) (.seq (.reg false ycla) (.seq (.seq (.reg false ycbj) (.block 0 (.loop (.seq (.reg false ycks) (.seq (.cond (.tmp 29) .skip (.exit 0)) (.seq (.block 1 (.seq (.reg false ycfz) (.seq (.reg true ycoi) (.reg true ycld)))) (.reg false ycmr))))))) (.seq (.reg false ycas) .ret))))
theorem ycun:Fn 157 c157 [.t 8]:=fn_0 Tryz.func157 (by kernel_rfl) (by kernel_rfl)
def ycej:LO:=[o3 (.mv (.const (.slice none 0 0))) 6 0]
def ychm:LO:=[mv' 1 9 0,cl' 132 [9] 10 1,mv' 10 7 3]
def ycoo:LO:=[mv' 1 11 0,ln' 11 12 1,o3 (.mv (ci' 0)) 13 0]
def ycer:LO:=[bn' .lss 13 12 14 0]
def ycdb:LO:=[mv' 13 15 0,mv' 15 8 1]
def ycal:LO:=[mv' 2 16 0,mv' 8 17 0,bn' .shr 16 17 18 3,o3 (.bin .and (.tmp 18) (.const (.int .u32 1))) 19 7,o3 (.bin .eql (.tmp 19) (.const (.int .u32 1))) 20 15]
def ycdk:LO:=[mv' 7 21 0,mv' 8 22 0,mv' 0 23 0,mv' 1 24 0,mv' 8 25 0,mv' 0 26 0,mv' 1 27 0,mv' 8 28 0,cl' 147 [26,27,28] 29 224,cl' 157 [23,24,25,29] 30 508,ix' 1 21 22 31 1023,o0 (.store 1 (.tmp 31) (.tmp 30)) 2047]
def ycmu:LO:=[o3 (.bin .add (.tmp 13) (ci' 1)) 32 0,mv' 32 13 1]
def ycel:LO:=[mv' 7 33 0,mv' 33 6 1]
def c113:SC:=(.seq (.reg false ycej) (.seq (.reg false ychm) (.seq (.seq (.reg false ycoo) (.block 0 (.loop (.seq (.reg false ycer) (.seq (.cond (.tmp 14) .skip (.exit 0)) (.seq (.block 1 (.seq (.reg false ycdb) (.seq (.reg false ycal) (.cond (.tmp 20) (.reg false ycdk) .skip)))) (.reg false ycmu))))))) (.seq (.reg false ycel) .ret))))
theorem ybwy:FnU 113 c113 [.t 6]:=fn_u Tryz.func113 (by kernel_rfl) (by kernel_rfl)
def ycfj:LO:=[o3 (.mv (.const (.int .u32 0))) 4 0]
def ycip:LO:=[o3 (.mv (.const (.int .u32 0))) 5 0]
def ybzz:LO:=[mv' 0 7 0,o3 (.mv (ci' 0)) 8 0]
def ycgx:LO:=[bn' .lss 8 7 9 0]
def ycfw:LO:=[mv' 8 10 0,mv' 10 6 1]
def ycod:LO:=[mv' 1 11 0,mv' 6 12 0,o3 (.call (.tmp 11) [(.tmp 12)]) 13 3]
def ycaa:LO:=[mv' 5 14 0,mv' 6 15 0,o3 (.bin .shl (.const (.int .u32 1)) (.tmp 15)) 16 2,bn' .or 14 16 17 7,mv' 17 5 15]
def ycjw:LO:=[o3 (.bin .add (.tmp 8) (ci' 1)) 18 0,mv' 18 8 1]
def ycav:LO:=[mv' 5 19 0,mv' 19 4 1]
def c145:SC:=(.seq (.reg false ycfj) (.seq (.reg false ycip) (.seq (.seq (.reg false ybzz) (.block 0 (.loop (.seq (.reg false ycgx) (.seq (.cond (.tmp 9) .skip (.exit 0)) (.seq (.block 1 (.seq (.reg false ycfw) (.seq (.reg false ycod) (.cond (.tmp 13) (.reg false ycaa) .skip)))) (.reg false ycjw))))))) (.seq (.reg false ycav) .ret))))
theorem ycsi:Fn 145 c145 [.t 4]:=fn_0 Tryz.func145 (by kernel_rfl) (by kernel_rfl)
def ycna:LO:=[o3 (.mv (.const (.bool false))) 2 0]
def ycjj:LO:=[mv' 0 5 0,ln' 5 6 1,o3 (.mv (ci' 0)) 7 0]
def ycdc:LO:=[bn' .lss 7 6 8 0]
def yceo:LO:=[ix' 1 5 7 9 0,ld' false 1 9 10 1,mv' 10 4 3]
def ycgm:LO:=[mv' 4 11 0,o3 (.bin .andNot (.tmp 11) (.const (.int .u32 16777215))) 12 1,o3 (.bin .neq (.tmp 12) (.const (.int .u32 0))) 13 3]
def ycan:LO:=[o3 (.mv (.const (.bool false))) 2 0]
def ycmh:LO:=[o3 (.bin .add (.tmp 7) (ci' 1)) 14 0,mv' 14 7 1]
def ycaq:LO:=[o3 (.mv (.const (.bool true))) 2 0]
def c223:SC:=(.seq (.reg false ycna) (.seq (.seq (.reg false ycjj) (.block 0 (.loop (.seq (.reg false ycdc) (.seq (.cond (.tmp 8) .skip (.exit 0)) (.seq (.block 1 (.seq (.reg false yceo) (.seq (.reg false ycgm) (.cond (.tmp 13) (.seq (.reg false ycan) .ret) .skip)))) (.reg false ycmh))))))) (.seq (.reg false ycaq) .ret)))
theorem ycub:Fn 223 c223 [.t 2]:=fn_0 Tryz.func223 (by kernel_rfl) (by kernel_rfl)
def c222_0:LO:=[o3 (.box 48 (.tmp 0)) 1 0,o3 (.mv (.const (.bool false))) 2 0]
def c222_1:LO:=[fa' 0 1 1 3 0,ld' false 1 3 4 1,o3 (.bin .lss (.tmp 4) (ci' 0)) 5 3,mv' 5 6 7,⟨.faddr 0 1 (.tmp 1),some 7,some (6,false),15⟩,⟨.load false 1 (.tmp 7),some 8,some (6,false),31⟩,⟨.bin .gtr (.tmp 8) (ci' 4096),some 9,some (6,false),63⟩,o3 (.pick (.tmp 6) (.const (.bool true)) (.tmp 9)) 10 127,mv' 10 11 255,⟨.faddr 2 1 (.tmp 1),some 12,some (11,false),511⟩,⟨.load false 1 (.tmp 12),some 13,some (11,false),1023⟩,⟨.bin .lss (.tmp 13) (ci' 0),some 14,some (11,false),2047⟩,o3 (.pick (.tmp 11) (.const (.bool true)) (.tmp 14)) 15 4095,mv' 15 16 8191,⟨.faddr 2 1 (.tmp 1),some 17,some (16,false),16383⟩,⟨.load false 1 (.tmp 17),some 18,some (16,false),32767⟩,⟨.faddr 3 1 (.tmp 1),some 19,some (16,false),16383⟩,⟨.load false 1 (.tmp 19),some 20,some (16,false),81919⟩,⟨.bin .gtr (.tmp 18) (.tmp 20),some 21,some (16,false),262143⟩,o3 (.pick (.tmp 16) (.const (.bool true)) (.tmp 21)) 22 524287,mv' 22 23 1048575,⟨.faddr 3 1 (.tmp 1),some 24,some (23,false),2097151⟩,⟨.load false 1 (.tmp 24),some 25,some (23,false),4194303⟩,⟨.faddr 0 1 (.tmp 1),some 26,some (23,false),2097151⟩,⟨.load false 1 (.tmp 26),some 27,some (23,false),10485759⟩,⟨.bin .gtr (.tmp 25) (.tmp 27),some 28,some (23,false),33554431⟩,o3 (.pick (.tmp 23) (.const (.bool true)) (.tmp 28)) 29 67108863]
def yczz:LO:=[o3 (.mv (.const (.bool false))) 2 0]
def c222_3:LO:=[fa' 3 1 1 30 0,ld' false 1 30 31 1,fa' 2 1 1 32 0,ld' false 1 32 33 4,o3 (.bin .add (.tmp 33) (ci' 1)) 34 12,bn' .gtr 31 34 35 31]
def ycvl:LO:=[o3 (.mv (.const (.bool false))) 2 0]
def c222_5:LO:=[fa' 0 1 1 36 0,ld' false 1 36 37 1,fa' 1 1 1 38 0,ld' false 1 38 39 4,bn' .leq 37 39 40 15,mv' 40 41 31,⟨.faddr 1 1 (.tmp 1),some 42,some (41,true),63⟩,⟨.load false 1 (.tmp 42),some 43,some (41,true),127⟩,⟨.faddr 0 1 (.tmp 1),some 44,some (41,true),63⟩,⟨.load false 1 (.tmp 44),some 45,some (41,true),319⟩,⟨.bin .mul (ci' 24) (.tmp 45),some 46,some (41,true),831⟩,⟨.bin .leq (.tmp 43) (.tmp 46),some 47,some (41,true),2047⟩,o3 (.pick (.tmp 41) (.tmp 47) (.const (.bool false))) 48 4095,mv' 48 49 8191,⟨.faddr 4 1 (.tmp 1),some 50,some (49,true),16383⟩,⟨.load false 1 (.tmp 50),some 51,some (49,true),32767⟩,⟨.bslice 40 1 1 [.i .u32 0] [(0,1,(.tmp 51))],some 52,some (49,true),65535⟩,⟨.call (.func 223) [(.tmp 52)],some 53,some (49,true),131071⟩,o3 (.pick (.tmp 49) (.tmp 53) (.const (.bool false))) 54 262143,mv' 54 2 524287]
def c222:SC:=(.seq (.reg false c222_0) (.seq (.seq (.reg false c222_1) (.cond (.tmp 29) (.seq (.reg false yczz) .ret) .skip)) (.seq (.seq (.reg false c222_3) (.cond (.tmp 35) (.seq (.reg false ycvl) .ret) .skip)) (.seq (.reg false c222_5) .ret))))
theorem c222_ok:Fn 222 c222 [.t 2]:=fn_0 Tryz.func222 (by kernel_rfl) (by kernel_rfl)
def yceq:LO:=[o3 (.alloc 48 1 [.i .i64 0,.i .i64 0,.i .i64 0,.i .i64 0,.i .u32 0]) 2 0]
def ycev:LO:=[mv' 0 3 0,o3 (.bin .and (.tmp 3) (.const (.int .u32 16777215))) 4 1,o3 (.build [.i .i64 0,.i .i64 0,.i .i64 0,.i .i64 0,.i .u32 0] [(4,1,(.tmp 4))]) 5 3,o0 (.store 5 (.tmp 2) (.tmp 5)) 7]
def c195:SC:=(.seq (.reg false yceq) (.seq (.reg false ycev) .ret))
theorem ycpm:Fn 195 c195 [.c 2 true 5]:=fn_0 Tryz.func195 (by kernel_rfl) (by kernel_rfl)
def ycgz:LO:=[o3 (.box 48 (.tmp 0)) 3 0,o3 (.alloc 48 1 [.i .i64 0,.i .i64 0,.i .i64 0,.i .i64 0,.i .u32 0]) 6 0,o3 (.mv (ci' 0)) 7 0]
def ycbo:LO:=[ld' true 5 3 8 0,cl' 222 [8] 9 1,o3 (.un .not (.tmp 9)) 10 3]
def ycxt:LO:=[o3 (.build [.i .i64 0,.i .i64 0,.i .i64 0,.i .i64 0,.i .u32 0] []) 11 0,o0 (.store 5 (.tmp 6) (.tmp 11)) 1,o3 (.mv (ci' 7)) 7 3]
def ycll:LO:=[mv' 1 12 0,o3 (.bin .eql (.tmp 12) (.const (.int .u32 0))) 13 1,mv' 13 14 3,⟨.mv (.tmp 1),some 15,some (14,false),7⟩,⟨.mv (.tmp 2),some 16,some (14,false),7⟩,⟨.bslice 40 1 2 [.i .u32 0,.i .u32 0] [(0,1,(.tmp 15)),(1,1,(.tmp 16))],some 17,some (14,false),31⟩,⟨.call (.func 223) [(.tmp 17)],some 18,some (14,false),63⟩,⟨.un .not (.tmp 18),some 19,some (14,false),127⟩,o3 (.pick (.tmp 14) (.const (.bool true)) (.tmp 19)) 20 255]
def ydaf:LO:=[o3 (.build [.i .i64 0,.i .i64 0,.i .i64 0,.i .i64 0,.i .u32 0] []) 21 0,o0 (.store 5 (.tmp 6) (.tmp 21)) 1,o3 (.mv (ci' 11)) 7 3]
def ycdq:LO:=[fa' 0 1 3 22 0,ld' false 1 22 23 1,o3 (.bin .eql (.tmp 23) (ci' 4096)) 24 3]
def yddl:LO:=[o3 (.build [.i .i64 0,.i .i64 0,.i .i64 0,.i .i64 0,.i .u32 0] []) 25 0,o0 (.store 5 (.tmp 6) (.tmp 25)) 1,o3 (.mv (ci' 3)) 7 3]
def ycfo:LO:=[fa' 0 1 3 26 0,ld' false 1 26 27 1,o3 (.bin .add (.tmp 27) (ci' 1)) 28 3,fa' 0 1 3 29 7,o0 (.store 1 (.tmp 29) (.tmp 28)) 15]
def ychc:LO:=[fa' 1 1 3 30 0,ld' false 1 30 31 1,mv' 1 32 0,cl' 104 [32] 33 4,bn' .add 31 33 34 15,fa' 1 1 3 35 31,o0 (.store 1 (.tmp 35) (.tmp 34)) 63]
def yccn:LO:=[fa' 2 1 3 36 0,ld' false 1 36 37 1,o3 (.bin .add (.tmp 37) (ci' 1)) 38 3,fa' 3 1 3 39 7,o0 (.store 1 (.tmp 39) (.tmp 38)) 15]
def ybqj:LO:=[fa' 4 1 3 40 0,ld' false 1 40 41 1,mv' 1 42 0,bn' .andNot 41 42 43 7,mv' 2 44 0,bn' .and 43 44 45 31,fa' 4 1 3 46 63,o0 (.store 1 (.tmp 46) (.tmp 45)) 127]
def yblx:LO:=[fa' 4 1 3 47 0,ld' false 1 47 48 1,o3 (.bin .eql (.tmp 48) (.const (.int .u32 0))) 49 3]
def ybta:LO:=[fa' 3 1 3 50 0,ld' false 1 50 51 1,fa' 2 1 3 52 3,o0 (.store 1 (.tmp 52) (.tmp 51)) 7]
def ybqs:LO:=[mv' 2 53 0,fa' 4 1 3 54 1,o0 (.store 1 (.tmp 54) (.tmp 53)) 3]
def yzx:LO:=[ld' true 5 3 55 0,o0 (.store 5 (.tmp 6) (.tmp 55)) 1,o3 (.mv (ci' 0)) 7 3]
def c197:SC:=(.seq (.reg false ycgz) (.seq (.seq (.reg false ycbo) (.cond (.tmp 10) (.seq (.reg false ycxt) .ret) .skip)) (.seq (.seq (.reg false ycll) (.cond (.tmp 20) (.seq (.reg false ydaf) .ret) .skip)) (.seq (.seq (.reg false ycdq) (.cond (.tmp 24) (.seq (.reg false yddl) .ret) .skip)) (.seq (.reg false ycfo) (.seq (.reg true ychc) (.seq (.reg false yccn) (.seq (.reg false ybqj) (.seq (.seq (.reg false yblx) (.cond (.tmp 49) (.seq (.reg false ybta) (.reg false ybqs)) .skip)) (.seq (.reg false yzx) .ret))))))))))
theorem yctn:Fn 197 c197 [.c 6 true 5,.t 7]:=fn_0 Tryz.func197 (by kernel_rfl) (by kernel_rfl)
def ycjq:LO:=[o3 (.mv (ci' 0)) 2 0]
def ycjm:LO:=[mv' 0 3 0,o3 (.bin .shr (.tmp 3) (.const (.int .u64 24))) 4 1,o3 (.stri yte (.tmp 4)) 5 3,mv' 0 6 0,o3 (.bin .shr (.tmp 6) (.const (.int .u64 16))) 7 8,o3 (.bin .and (.tmp 7) (.const (.int .u32 255))) 8 24,o3 (.stri yte (.tmp 8)) 9 56,bn' .add 5 9 10 127,mv' 0 11 0,o3 (.bin .shr (.tmp 11) (.const (.int .u64 8))) 12 256,o3 (.bin .and (.tmp 12) (.const (.int .u32 255))) 13 768,o3 (.stri yte (.tmp 13)) 14 1792,bn' .add 10 14 15 4095,mv' 0 16 0,o3 (.bin .and (.tmp 16) (.const (.int .u32 255))) 17 8192,o3 (.stri yte (.tmp 17)) 18 24576,bn' .add 15 18 19 65535,o3 (.conv .i64 (.tmp 19)) 20 131071,mv' 20 2 262143]
def c104:SC:=(.seq (.reg false ycjq) (.seq (.reg true ycjm) .ret))
theorem ycts:Fn 104 c104 [.t 2]:=fn_0 Tryz.func104 (by kernel_rfl) (by kernel_rfl)
def ychz:LO:=[o3 (.box 27 (.tmp 0)) 1 0,o3 (.mv (.const (.slice none 0 0))) 2 0]
def ycgw:LO:=[fa' 1 1 1 8 0,ld' false 1 8 9 1,ln' 9 10 3,o3 (.mk 40 1 4 [.i .u32 0] (.tmp 10) (.tmp 10)) 11 7,mv' 11 3 15]
def ycdg:LO:=[fa' 1 1 1 12 0,ld' false 1 12 13 1,ln' 13 14 3,o3 (.mv (ci' 0)) 15 0]
def yccw:LO:=[bn' .lss 15 14 16 0]
def ycov:LO:=[mv' 15 17 0,ix' 1 13 15 18 0,ld' false 1 18 19 2,mv' 17 4 7,mv' 19 5 15]
def ycgf:LO:=[mv' 5 20 0,ln' 20 21 1,o3 (.mv (ci' 0)) 22 0]
def ycnb:LO:=[bn' .lss 22 21 23 0]
def ycnz:LO:=[ix' 2 20 22 24 0,ld' true 2 24 25 1,o3 (.alloc 95 1 [.i .i64 0,.i .i64 0]) 7 0,o0 (.store 2 (.tmp 7) (.tmp 25)) 7]
def ycds:LO:=[mv' 3 26 0,mv' 4 27 0,ix' 1 26 27 28 3,ld' false 1 28 29 7,fa' 0 1 7 30 0,ld' false 1 30 31 16,o3 (.bin .shl (.const (.int .u32 1)) (.tmp 31)) 32 48,bn' .or 29 32 33 127,ix' 1 26 27 34 255,o0 (.store 1 (.tmp 34) (.tmp 33)) 511]
def ycbi:LO:=[o3 (.bin .add (.tmp 22) (ci' 1)) 35 0,mv' 35 22 1]
def ybtk:LO:=[o3 (.bin .add (.tmp 15) (ci' 1)) 36 0,mv' 36 15 1]
def ybnd:LO:=[mv' 3 37 0,mv' 37 2 1]
def c110:SC:=(.seq (.reg false ychz) (.seq (.reg false ycgw) (.seq (.seq (.reg false ycdg) (.block 0 (.loop (.seq (.reg false yccw) (.seq (.cond (.tmp 16) .skip (.exit 0)) (.seq (.block 1 (.seq (.reg false ycov) (.seq (.reg false ycgf) (.block 2 (.loop (.seq (.reg false ycnb) (.seq (.cond (.tmp 23) .skip (.exit 2)) (.seq (.block 3 (.seq (.reg false ycnz) (.reg true ycds))) (.reg false ycbi))))))))) (.reg false ybtk))))))) (.seq (.reg false ybnd) .ret))))
theorem ycqh:Fn 110 c110 [.t 2]:=fn_0 Tryz.func110 (by kernel_rfl) (by kernel_rfl)
def yclp:LO:=[o3 (.mv (.const (.bool false))) 8 0]
def ybzx:LO:=[mv' 3 9 0,o3 (.bin .eql (.tmp 9) (.const (.int .u32 0))) 10 1,mv' 10 11 3,⟨.mv (.tmp 3),some 12,some (11,false),7⟩,⟨.mv (.tmp 2),some 13,some (11,false),7⟩,⟨.bin .andNot (.tmp 12) (.tmp 13),some 14,some (11,false),31⟩,⟨.bin .neq (.tmp 14) (.const (.int .u32 0)),some 15,some (11,false),63⟩,o3 (.pick (.tmp 11) (.const (.bool true)) (.tmp 15)) 16 127]
def ydcs:LO:=[o3 (.mv (.const (.bool false))) 8 0]
def ycba:LO:=[mv' 1 17 0]
def ycbl:LO:=[o3 (.bin .eql (.tmp 17) (ci' 1)) 19 0,mv' 19 18 1]
def yddc:LO:=[mv' 3 20 0,mv' 3 21 0,o3 (.bin .sub (.tmp 21) (.const (.int .u32 1))) 22 2,bn' .and 20 22 23 7,o3 (.bin .eql (.tmp 23) (.const (.int .u32 0))) 24 15,mv' 24 8 31]
def ycgs:LO:=[o3 (.bin .eql (.tmp 17) (ci' 2)) 26 0,mv' 26 25 1]
def ycyt:LO:=[mv' 0 27 0,mv' 3 28 0,cl' 221 [27,28] 29 3,mv' 29 8 7]
def ycjc:LO:=[o3 (.bin .eql (.tmp 17) (ci' 4)) 31 0,mv' 31 30 1]
def ycjl:LO:=[mv' 3 32 0,mv' 2 33 0,bn' .eql 32 33 34 3,mv' 34 8 7]
def ybld:LO:=[o3 (.mv (.const (.bool true))) 8 0]
def c196:SC:=(.seq (.reg false yclp) (.seq (.seq (.reg false ybzx) (.cond (.tmp 16) (.seq (.reg false ydcs) .ret) .skip)) (.seq (.seq (.reg false ycba) (.block 0 (.seq (.reg false ycbl) (.cond (.tmp 18) (.seq (.reg false yddc) .ret) (.seq (.reg false ycgs) (.cond (.tmp 25) (.seq (.reg false ycyt) .ret) (.seq (.reg false ycjc) (.cond (.tmp 30) (.seq (.reg false ycjl) .ret) .skip)))))))) (.seq (.reg false ybld) .ret))))
theorem ycuc:Fn 196 c196 [.t 8]:=fn_0 Tryz.func196 (by kernel_rfl) (by kernel_rfl)
def ybnw:LO:=[o3 (.box 110 (.tmp 0)) 4 0,o3 (.mv (.const (.int .u32 0))) 8 0]
def ybsg:LO:=[mv' 3 11 0,mv' 2 12 0,bn' .and 11 12 13 3,mv' 13 3 7]
def ybrz:LO:=[mv' 3 14 0,o3 (.bin .eql (.tmp 14) (.const (.int .u32 0))) 15 1]
def ybtq:LO:=[mv' 2 16 0,mv' 2 17 0,o3 (.un .neg (.tmp 17)) 18 2,bn' .and 16 18 19 7,mv' 19 3 15]
def ybdy:LO:=[mv' 1 20 0]
def ybeo:LO:=[o3 (.bin .eql (.tmp 20) (ci' 1)) 22 0,mv' 22 21 1]
def ydac:LO:=[mv' 3 23 0,mv' 3 24 0,o3 (.un .neg (.tmp 24)) 25 2,bn' .and 23 25 26 7,mv' 26 8 15]
def ybfm:LO:=[o3 (.bin .eql (.tmp 20) (ci' 2)) 28 0,mv' 28 27 1]
def ydbf:LO:=[o3 (.alloc 40 1 [.i .u32 0]) 9 0,o0 (.store 1 (.tmp 9) (.const (.int .u32 0))) 1]
def ycxf:LO:=[mv' 3 29 0,cl' 154 [29] 30 1]
def ycso:LO:=[mv' 31 10 0]
def ycri:LO:=[ld' false 1 4 32 0,mv' 10 33 0,ix' 1 32 33 34 3,ld' false 1 34 35 7,ld' false 1 9 36 0,bn' .and 35 36 37 31,o3 (.bin .eql (.tmp 37) (.const (.int .u32 0))) 38 63]
def ycus:LO:=[ld' false 1 9 39 0,mv' 10 40 0,o3 (.bin .shl (.const (.int .u32 1)) (.tmp 40)) 41 2,bn' .or 39 41 42 7,o0 (.store 1 (.tmp 9) (.tmp 42)) 15]
def ycpq:LO:=[ld' false 1 9 43 0,mv' 43 8 1]
def yvd:LO:=[o3 (.bin .eql (.tmp 20) (ci' 4)) 45 0,mv' 45 44 1]
def yvl:LO:=[mv' 2 46 0,mv' 46 8 1]
def ycoy:LO:=[mv' 3 47 0,mv' 47 8 1]
def c111:SC:=(.seq (.reg false ybnw) (.seq (.reg false ybsg) (.seq (.seq (.reg false ybrz) (.cond (.tmp 15) (.reg false ybtq) .skip)) (.seq (.seq (.reg false ybdy) (.block 0 (.seq (.reg false ybeo) (.cond (.tmp 21) (.seq (.reg false ydac) .ret) (.seq (.reg false ybfm) (.cond (.tmp 27) (.seq (.reg false ydbf) (.seq (.seq (.reg false ycxf) (.block 1 (.range (.tmp 30) [31] (.reg false ycso) (.block 2 (.seq (.reg true ycri) (.cond (.tmp 38) (.reg true ycus) .skip)))))) (.seq (.reg false ycpq) .ret))) (.seq (.reg false yvd) (.cond (.tmp 44) (.seq (.reg false yvl) .ret) .skip)))))))) (.seq (.reg false ycoy) .ret)))))
theorem ybtg:Fn 111 c111 [.t 8]:=fn_0 Tryz.func111 (by kernel_rfl) (by kernel_rfl)
def ycae:LO:=[o3 (.mv (.const (.bool false))) 2 0]
def ycoj:LO:=[mv' 0 3 0,o3 (.bin .geq (.tmp 3) (ci' 1)) 4 1,mv' 4 5 3,⟨.mv (.tmp 0),some 6,some (5,true),7⟩,⟨.bin .leq (.tmp 6) (ci' 4),some 7,some (5,true),15⟩,o3 (.pick (.tmp 5) (.tmp 7) (.const (.bool false))) 8 31,mv' 8 2 63]
def c108:SC:=(.seq (.reg false ycae) (.seq (.reg false ycoj) .ret))
theorem ycrc:Fn 108 c108 [.t 2]:=fn_0 Tryz.func108 (by kernel_rfl) (by kernel_rfl)
def ychs:LO:=[o3 (.box 58 (.tmp 0)) 5 0,o3 (.box 27 (.tmp 1)) 6 0,o3 (.mv (ci' 0)) 10 0]
def ycbc:LO:=[ld' true 3 5 12 0,ld' true 2 6 13 0,mv' 3 14 0,cl' 112 [12,13,14] 15 7,mv' 15 11 15]
def ycek:LO:=[mv' 11 16 0,o3 (.bin .neq (.tmp 16) (ci' 0)) 17 1]
def ycyn:LO:=[mv' 11 18 0,mv' 18 10 1]
def ycki:LO:=[mv' 2 19 0,cl' 108 [19] 20 1,o3 (.un .not (.tmp 20)) 21 3]
def ycyu:LO:=[o3 (.mv (ci' 12)) 10 0]
def ycdw:LO:=[mv' 4 22 0,o3 (.bin .gtr (.tmp 22) (ci' 4096)) 23 1]
def ydct:LO:=[o3 (.mv (ci' 3)) 10 0]
def ycke:LO:=[o3 (.mv (ci' 0)) 10 0]
def c129:SC:=(.seq (.reg false ychs) (.seq (.seq (.reg false ycbc) (.seq (.reg false ycek) (.cond (.tmp 17) (.seq (.reg false ycyn) .ret) .skip))) (.seq (.seq (.reg false ycki) (.cond (.tmp 21) (.seq (.reg false ycyu) .ret) .skip)) (.seq (.seq (.reg false ycdw) (.cond (.tmp 23) (.seq (.reg false ydct) .ret) .skip)) (.seq (.reg false ycke) .ret)))))
theorem ycuy:Fn 129 c129 [.t 10]:=fn_0 Tryz.func129 (by kernel_rfl) (by kernel_rfl)
def ycgp:LO:=[o3 (.box 58 (.tmp 0)) 4 0,o3 (.box 27 (.tmp 1)) 5 0,o3 (.alloc 126 1 [.a (.pointer none),.a (.slice none 0 0),.i .i64 0,.i .u32 0,.a (.nilFunc)]) 8 0]
def ycef:LO:=[ld' true 3 4 9 0,ld' true 2 5 10 0,cl' 93 [9,10] 11 3,ld' true 2 5 12 0,cl' 110 [12] 13 15,mv' 2 14 0,ld' true 2 5 15 0,cl' 109 [15] 16 95,mv' 3 17 0,o3 (.build [.a (.pointer none),.a (.slice none 0 0),.i .i64 0,.i .u32 0,.a (.nilFunc)] [(0,1,(.tmp 11)),(1,1,(.tmp 13)),(2,1,(.tmp 14)),(3,1,(.tmp 16)),(4,1,(.tmp 17))]) 18 511,o0 (.store 5 (.tmp 8) (.tmp 18)) 1023]
def c130:SC:=(.seq (.reg false ycgp) (.seq (.reg true ycef) .ret))
theorem ybzr:FnM 130 c130 [.c 8 true 5]:=fn_m Tryz.func130 (by kernel_rfl) (by kernel_rfl)
def yciv:LO:=[o3 (.box 126 (.tmp 0)) 4 0,o3 (.alloc 130 1 [.a (.slice none 0 0),.a (.slice none 0 0),.a (.slice none 0 0),.i .i64 0,.i .i64 0,.i .i64 0,.i .i64 0,.i .u32 0]) 8 0,o3 (.mv (ci' 0)) 9 0]
def ycni:LO:=[o3 (.alloc 130 1 [.a (.slice none 0 0),.a (.slice none 0 0),.a (.slice none 0 0),.i .i64 0,.i .i64 0,.i .i64 0,.i .i64 0,.i .u32 0]) 10 0]
def ycih:LO:=[mv' 1 16 0,cl' 132 [16] 17 1,mv' 17 1 3]
def ycob:LO:=[fa' 0 1 4 18 0,ld' false 1 18 19 1,mv' 1 20 0,cl' 94 [19,20] 21 7,fa' 3 1 4 22 0,ld' false 1 22 23 16,bn' .and 21 23 24 63,mv' 24 11 127]
def yclq:LO:=[mv' 11 25 0,cl' 195 [25] 26 1,o3 (.alloc 48 1 [.i .i64 0,.i .i64 0,.i .i64 0,.i .i64 0,.i .u32 0]) 12 0,o0 (.store 5 (.tmp 12) (.tmp 26)) 7]
def yche:LO:=[fa' 4 1 4 27 0,ld' false 1 27 28 1,mv' 1 29 0,mv' 11 30 0,ld' true 5 12 31 0,o3 (.call (.tmp 28) [(.tmp 29),(.tmp 30),(.tmp 31)]) 32 31]
def ycln:LO:=[fa' 1 1 10 33 0,ld' false 1 33 34 1,mv' 11 35 0,o3 (.bslice 40 1 1 [.i .u32 0] [(0,1,(.tmp 35))]) 36 4,o3 (.app 40 1 4 (.tmp 34) (.tmp 36)) 37 15,fa' 1 1 10 38 31,o0 (.store 1 (.tmp 38) (.tmp 37)) 63]
def ycjd:LO:=[mv' 2 39 0,o3 (.mv (ci' 0)) 40 0]
def ycgg:LO:=[bn' .lss 40 39 41 0]
def yccx:LO:=[mv' 40 42 0,mv' 42 13 1]
def ybon:LO:=[mv' 3 44 0,mv' 13 45 0,mv' 11 46 0,o3 (.call (.tmp 44) [(.tmp 45),(.tmp 46)]) 47 7,mv' 47 43 15,xt' 43 0 48 31,xt' 43 1 49 31,mv' 48 14 63,mv' 49 15 255]
def yzh:LO:=[mv' 15 50 0,o3 (.un .not (.tmp 50)) 51 1]
def ybjt:LO:=[fa' 1 1 4 52 0,ld' false 1 52 53 1,fa' 2 1 4 54 0,ld' false 1 54 55 4,mv' 11 56 0,mv' 14 57 0,cl' 196 [53,55,56,57] 58 63,o3 (.un .not (.tmp 58)) 59 127]
def ycqg:LO:=[o3 (.build [.a (.slice none 0 0),.a (.slice none 0 0),.a (.slice none 0 0),.i .i64 0,.i .i64 0,.i .i64 0,.i .i64 0,.i .u32 0] []) 60 0,o0 (.store 8 (.tmp 8) (.tmp 60)) 1,o3 (.mv (ci' 11)) 9 3]
def ybqd:LO:=[fa' 0 1 4 61 0,ld' false 1 61 62 1,mv' 1 63 0,mv' 14 64 0,cl' 113 [62,63,64] 65 15,mv' 65 1 31]
def ybkd:LO:=[fa' 0 1 4 66 0,ld' false 1 66 67 1,mv' 1 68 0,cl' 94 [67,68] 69 7,fa' 3 1 4 70 0,ld' false 1 70 71 16,bn' .and 69 71 72 63,mv' 72 11 127]
def ybmb:LO:=[ld' true 5 12 74 0,mv' 14 75 0,mv' 11 76 0,cl' 197 [74,75,76] 77 7,mv' 77 73 15,xt' 73 0 78 31,xt' 73 1 79 31,o0 (.store 5 (.tmp 12) (.tmp 78)) 63]
def ybjx:LO:=[fa' 4 1 4 80 0,ld' false 1 80 81 1,mv' 1 82 0,mv' 11 83 0,ld' true 5 12 84 0,o3 (.call (.tmp 81) [(.tmp 82),(.tmp 83),(.tmp 84)]) 85 31]
def ybkj:LO:=[fa' 0 1 10 86 0,ld' false 1 86 87 1,mv' 14 88 0,o3 (.bslice 40 1 1 [.i .u32 0] [(0,1,(.tmp 88))]) 89 4,o3 (.app 40 1 4 (.tmp 87) (.tmp 89)) 90 15,fa' 0 1 10 91 31,o0 (.store 1 (.tmp 91) (.tmp 90)) 63]
def ybns:LO:=[fa' 1 1 10 92 0,ld' false 1 92 93 1,mv' 11 94 0,o3 (.bslice 40 1 1 [.i .u32 0] [(0,1,(.tmp 94))]) 95 4,o3 (.app 40 1 4 (.tmp 93) (.tmp 95)) 96 15,fa' 1 1 10 97 31,o0 (.store 1 (.tmp 97) (.tmp 96)) 63]
def yboj:LO:=[o3 (.bin .add (.tmp 40) (ci' 1)) 98 0,mv' 98 40 1]
def ybco:LO:=[mv' 1 99 0,ld' true 5 12 100 0,fa' 2 1 10 101 1,o0 (.store 1 (.tmp 101) (.tmp 99)) 5,fa' 3 5 10 102 15,o0 (.store 5 (.tmp 102) (.tmp 100)) 31]
def ybaa:LO:=[ld' true 8 10 103 0,o0 (.store 8 (.tmp 8) (.tmp 103)) 1,o3 (.mv (ci' 0)) 9 3]
def c168:SC:=(.seq (.reg false yciv) (.seq (.reg false ycni) (.seq (.reg false ycih) (.seq (.reg true ycob) (.seq (.reg false yclq) (.seq (.reg false yche) (.seq (.reg false ycln) (.seq (.seq (.reg false ycjd) (.block 0 (.loop (.seq (.reg false ycgg) (.seq (.cond (.tmp 41) .skip (.exit 0)) (.seq (.block 1 (.seq (.reg false yccx) (.seq (.reg false ybon) (.seq (.seq (.reg false yzh) (.cond (.tmp 51) (.exit 0) .skip)) (.seq (.seq (.reg false ybjt) (.cond (.tmp 59) (.seq (.reg false ycqg) .ret) .skip)) (.seq (.reg false ybqd) (.seq (.reg true ybkd) (.seq (.reg false ybmb) (.seq (.reg false ybjx) (.seq (.reg false ybkj) (.reg false ybns))))))))))) (.reg false yboj))))))) (.seq (.reg true ybco) (.seq (.reg false ybaa) .ret))))))))))
theorem ybyo:FnM 168 c168 [.c 8 true 8,.t 9]:=fn_m Tryz.func168 (by kernel_rfl) (by kernel_rfl)
def ycbn:LO:=[o3 (.box 126 (.tmp 0)) 3 0,o3 (.box 38 (.tmp 2)) 5 0,o3 (.alloc 130 1 [.a (.slice none 0 0),.a (.slice none 0 0),.a (.slice none 0 0),.i .i64 0,.i .i64 0,.i .i64 0,.i .i64 0,.i .u32 0]) 6 0,o3 (.mv (ci' 0)) 7 0]
def ycle:LO:=[ld' true 5 3 8 0,mv' 1 9 0,ld' false 1 5 10 0,ln' 10 11 4,o3 (.mkfn 169 [] [(.tmp 3),(.tmp 5)]) 12 0,cl' 168 [8,9,11,12] 13 31,xt' 13 0 14 63,xt' 13 1 15 63,o0 (.store 8 (.tmp 6) (.tmp 14)) 255,mv' 15 7 511]
def c133:SC:=(.seq (.reg false ycbn) (.seq (.reg false ycle) .ret))
theorem ybwz:FnM 133 c133 [.c 6 true 8,.t 7]:=fn_m Tryz.func133 (by kernel_rfl) (by kernel_rfl)
def ybnb:LO:=[o3 (.mv (.const (.int .u32 0))) 6 0,o3 (.mv (.const (.bool false))) 7 1]
def ybky:LO:=[fa' 1 1 2 8 0,ld' false 1 8 9 1,fa' 2 1 2 10 0,ld' false 1 10 11 4,mv' 1 12 0,ld' false 1 3 13 0,mv' 0 14 0,ix' 1 13 14 15 96,ld' false 1 15 16 224,cl' 111 [9,11,12,16] 17 511,mv' 1 18 0,o3 (.bin .neq (.tmp 18) (.const (.int .u32 0))) 19 1024,mv' 17 6 1023,mv' 19 7 8191]
def c169:SC:=(.seq (.reg false ybnb) (.seq (.reg true ybky) .ret))
theorem ybov:Fn 169 c169 [.t 6,.t 7]:=fn_0 Tryz.func169 (by kernel_rfl) (by kernel_rfl)
def ycvq:LO:=[o3 (.box 58 (.tmp 0)) 5 0,o3 (.box 27 (.tmp 1)) 6 0,o3 (.mv (.const (.slice none 0 0))) 10 0,o3 (.mv (.const (.slice none 0 0))) 11 4,o3 (.mv (ci' 0)) 12 12]
def ycxc:LO:=[ld' true 3 5 19 0,ld' true 2 6 20 0,mv' 2 21 0,mv' 3 22 0,mv' 4 23 0,ln' 23 24 16,cl' 129 [19,20,21,22,24] 25 63,mv' 25 13 127]
def ycwz:LO:=[mv' 13 26 0,o3 (.bin .neq (.tmp 26) (ci' 0)) 27 1]
def ydee:LO:=[mv' 13 28 0,o3 (.mv (.const (.slice none 0 0))) 10 0,o3 (.mv (.const (.slice none 0 0))) 11 2,mv' 28 12 7]
def ydbm:LO:=[o3 (.alloc 29 1 [.a (.slice none 0 0)]) 14 0]
def ycxa:LO:=[o3 (.alloc 30 1 [.a (.slice none 0 0)]) 15 0]
def yddf:LO:=[ld' true 3 5 29 0,ld' true 2 6 30 0,mv' 2 31 0,o3 (.mkfn 131 [] [(.tmp 14),(.tmp 15)]) 32 0,cl' 130 [29,30,31,32] 33 15,o3 (.alloc 126 1 [.a (.pointer none),.a (.slice none 0 0),.i .i64 0,.i .u32 0,.a (.nilFunc)]) 16 0,o0 (.store 5 (.tmp 16) (.tmp 33)) 63]
def yczm:LO:=[ld' true 5 16 35 0,mv' 3 36 0,mv' 4 37 0,cl' 133 [35,36,37] 38 7,mv' 38 34 15,xt' 34 0 39 31,xt' 34 1 40 31,o3 (.alloc 130 1 [.a (.slice none 0 0),.a (.slice none 0 0),.a (.slice none 0 0),.i .i64 0,.i .i64 0,.i .i64 0,.i .i64 0,.i .u32 0]) 17 0,o0 (.store 8 (.tmp 17) (.tmp 39)) 191,mv' 40 18 511]
def ydde:LO:=[mv' 18 41 0,o3 (.bin .neq (.tmp 41) (ci' 0)) 42 1]
def ydga:LO:=[mv' 18 43 0,o3 (.mv (.const (.slice none 0 0))) 10 0,o3 (.mv (.const (.slice none 0 0))) 11 2,mv' 43 12 7]
def yceg:LO:=[ld' false 1 14 44 0,ld' false 1 15 45 0,mv' 44 10 1,mv' 45 11 7,o3 (.mv (ci' 0)) 12 15]
def c78:SC:=(.seq (.reg false ycvq) (.seq (.seq (.reg false ycxc) (.seq (.reg false ycwz) (.cond (.tmp 27) (.seq (.reg false ydee) .ret) .skip))) (.seq (.reg false ydbm) (.seq (.reg false ycxa) (.seq (.reg false yddf) (.seq (.seq (.reg false yczm) (.seq (.reg false ydde) (.cond (.tmp 42) (.seq (.reg false ydga) .ret) .skip))) (.seq (.reg true yceg) .ret)))))))
theorem ycpe:FnU 78 c78 [.t 10,.t 11,.t 12]:=fn_u Tryz.func78 (by kernel_rfl) (by kernel_rfl)
def ybtp:LO:=[o3 (.box 48 (.tmp 2)) 7 0]
def ybqi:LO:=[ld' false 1 3 8 0,mv' 0 9 0,cl' 132 [9] 10 2,o3 (.bslice 34 1 1 [.a (.slice none 0 0)] [(0,1,(.tmp 10))]) 11 6,o3 (.app 34 1 24 (.tmp 8) (.tmp 11)) 12 15,o0 (.store 1 (.tmp 3) (.tmp 12)) 31]
def ybqt:LO:=[ld' false 1 4 13 0,ld' true 5 7 14 0,o3 (.bslice 48 5 1 [.i .i64 0,.i .i64 0,.i .i64 0,.i .i64 0,.i .u32 0] [(0,5,(.tmp 14))]) 15 2,o3 (.app 48 5 40 (.tmp 13) (.tmp 15)) 16 7,o0 (.store 1 (.tmp 4) (.tmp 16)) 15]
def c131:SC:=(.seq (.reg false ybtp) (.seq (.reg true ybqi) (.reg false ybqt)))
theorem ybea:FnM 131 c131 []:=fn_m Tryz.func131 (by kernel_rfl) (by kernel_rfl)
end Sh
end Go.Proofs.YtiejahgklcjhkaaGreatDoor

namespace Go.Proofs.YtiejahgklcjhkaaGreatDoor
namespace Sh
open Go Ev
theorem mulB{a b:Int}(ha:InB a)(hb:InB b):-1152921504606846976<=a * b/\a * b<=1152921504606846976:=by
 unfold InB at *
 have h:(a * b).natAbs<=1073741824 * 1073741824:=by
  rw[Int.natAbs_mul];exact Nat.mul_le_mul (by omega) (by omega)
 omega
set_option maxRecDepth 8000

theorem ydg(b:Bool):Returns Tryz.prog 256 [.b b] (.i .i64 (yer b)):=by
 refine Returns.of (ycpz _ _ ?_);simp only[c256,ycnm,ycmp,ycnj,ycfe,yu,yer,go_sem,↓reduceIte,reduceCtorEq];cases b<;>simp
theorem yct(a:Int):Returns Tryz.prog 258 [.i .i64 a] (.i .i64 (satP a)):=by
 refine Returns.of (yctk _ _ ?_);simp only[c258,ycmc,ycex,yu,satP,go_sem,Nat.reduceEqDiff,Nat.reduceAdd,↓reduceIte,reduceCtorEq]
theorem ycym{a b:Int}(ha:InB a):-1073741824<=a.tdiv b/\a.tdiv b<=1073741824:=by
 have h1:(a.tdiv b).natAbs=a.natAbs / b.natAbs:=Int.natAbs_tdiv a b;have h2:a.natAbs / b.natAbs<=a.natAbs:=Nat.div_le_self _ _;rw[<- h1]at h2;unfold InB at ha;omega
theorem ybwc{a b:Int}(ha:InB a):-1073741825<=yrm a b/\yrm a b<=1073741824:=by
 have:=ycym (b:=b) ha;unfold yrm;split
 ·omega
 ·split<;>omega
theorem ybma{a b:Int}(ha:InB a)(hb:InB b):-1152921505680588800<=b * yrm a b/\b * yrm a b<=1152921505680588800:=by
 have h1:=ybwc (b:=b) ha
 have h:(b * yrm a b).natAbs<=1073741824 * 1073741825:=by
  unfold InB at *;rw[Int.natAbs_mul];exact Nat.mul_le_mul (by omega) (by omega)
 omega
theorem ybqh(op a:Int)(ha:InB a):Returns Tryz.prog 237 [.i .i64 op,.i .i64 a] (.i .i64 (unP op a)):=by
 refine Returns.of (yctt _ _ ?_);simp only[c237,yckb,ycad,yckc,yckr,yu,unP,IntKind.signed,go_sem,Nat.reduceEqDiff,Nat.reduceAdd,↓reduceIte,reduceCtorEq];unfold InB at ha;refine⟨fun h=>⟨ikw (by omega) (by omega),by rw[if_pos h];omega⟩,fun h=>(ydg _).use ?_⟩
 simp only[thenO,yu,go_sem,Nat.reduceEqDiff,Nat.reduceAdd,↓reduceIte,reduceCtorEq];rw[if_neg h]
theorem ymx(a b:Int)(ha:InB a):Returns Tryz.prog 259 [.i .i64 a,.i .i64 b] (.i .i64 (yrm a b)):=by
 refine Returns.of (ycph _ _ ?_);simp only[c259,yccu,ycbb,ycgh,yccl,yclh,ycno,ycit,yu,yrm,go_sem,Nat.reduceEqDiff,Nat.reduceAdd,↓reduceIte,reduceCtorEq];have:=ycym (b:=b) ha;refine⟨fun h=>by rw[if_pos h],fun h=>⟨⟨h,ikw (by omega) (by omega)⟩,h,fun h1=>⟨fun h2=>⟨ikw (by omega) (by omega),?_⟩,fun h2=>?_⟩,fun h1=>?_⟩⟩
 ·rw[if_neg h,if_pos ⟨h1,h2⟩]
 ·rw[if_neg h,if_neg (fun q=>q.2 h2)]
 ·rw[if_neg h,if_neg (fun q=>q.1 h1)]
theorem yxh(op a b:Int):Returns Tryz.prog 260 [.i .i64 op,.i .i64 a,.i .i64 b] (.b (cmpP op a b)):=by
 refine Returns.of (ycqe _ _ ?_);simp only[c260,ycey,ycie,ycnt,ycok,ycbu,ycft,ycng,ybzv,ychq,ycko,ybpd,ybrj,ybrw,sim_b,cmpP,go_sem,Nat.reduceEqDiff,Nat.reduceAdd,↓reduceIte,reduceCtorEq];refine⟨fun h=>by rw[if_pos h],fun h35=>⟨fun h=>by rw[if_neg h35,if_pos h],fun h36=>⟨fun h=>by rw[if_neg h35,if_neg h36,if_pos h],fun h37=>⟨fun h=>by rw[if_neg h35,if_neg h36,if_neg h37,if_pos h],fun h38=>⟨fun h=>by rw[if_neg h35,if_neg h36,if_neg h37,if_neg h38,if_pos h],fun h39=>by rw[if_neg h35,if_neg h36,if_neg h37,if_neg h38,if_neg h39]⟩⟩⟩⟩⟩
theorem ybhv(op a b:Int)(ha:InB a)(hb:InB b):Returns Tryz.prog 239 [.i .i64 op,.i .i64 a,.i .i64 b] (.i .i64 (binP op a b)):=by
 refine Returns.of (ycqd _ _ ?_);simp only[c239,ycak,ycjz,ycou,yccd,ycgc,ycir,ycjp,ychh,ycnr,ycje,ybtf,yboo,ybmj,ybol,ybni,ybsy,yboh,ybjw,yblu,yu,go_sem,Nat.reduceEqDiff,Nat.reduceAdd,↓reduceIte,reduceCtorEq];have hm:=mulB ha hb;have hq:=ybma ha hb;have hA:=ha;have hB:=hb;unfold InB at hA hB;refine⟨fun h=>⟨ikw (by omega) (by omega),(yct _).use ?_⟩,fun h30=>⟨fun h=>(ymx a b ha).use ?_,fun h31=>⟨fun h=>⟨fun h0=>?_,fun h0=>(ymx a b ha).use ?_⟩,fun h32=>⟨fun h=>⟨ikw (by omega) (by omega),(yct _).use ?_⟩,fun h33=>⟨fun h=>⟨ikw (by omega) (by omega),(yct _).use ?_⟩,fun h34=>?_⟩⟩⟩⟩⟩
 ·simp only[thenO,yu,go_sem,Nat.reduceEqDiff,Nat.reduceAdd,↓reduceIte,reduceCtorEq];simp[binP,h]
 ·simp only[thenO,go_sem,Nat.reduceEqDiff,Nat.reduceAdd,↓reduceIte,reduceCtorEq];refine(yct _).use ?_;simp only[yu,go_sem];simp[binP,h]
 ·simp[binP,h,h0]
 ·simp only[thenO,go_sem,Nat.reduceEqDiff,Nat.reduceAdd,↓reduceIte,reduceCtorEq];refine⟨ikw (by omega) (by omega),ikw (by omega) (by omega),(yct _).use ?_⟩
  simp only[yu,go_sem];simp[binP,h,h0]
 ·simp only[thenO,yu,go_sem,Nat.reduceEqDiff,Nat.reduceAdd,↓reduceIte,reduceCtorEq];simp[binP,h]
 ·simp only[thenO,yu,go_sem,Nat.reduceEqDiff,Nat.reduceAdd,↓reduceIte,reduceCtorEq];simp[binP,h]
 ·refine⟨fun h=>?_,fun h41=>⟨fun h=>?_,fun h42=>?_⟩⟩
  ·refine⟨fun h1=>(ydg _).use ?_,fun h1=>(ydg _).use ?_⟩
   ·simp only[thenO,yu,go_sem,Nat.reduceEqDiff,Nat.reduceAdd,↓reduceIte,reduceCtorEq];simp[binP,h];rw[show(a != 0)=true by simpa using h1];simp
   ·simp only[thenO,yu,go_sem,Nat.reduceEqDiff,Nat.reduceAdd,↓reduceIte,reduceCtorEq];simp[binP,h,h1]
  ·refine⟨fun h1=>(ydg _).use ?_,fun h1=>(ydg _).use ?_⟩
   ·simp only[thenO,yu,go_sem,Nat.reduceEqDiff,Nat.reduceAdd,↓reduceIte,reduceCtorEq];simp[binP,h,h1]
   ·simp only[thenO,yu,go_sem,Nat.reduceEqDiff,Nat.reduceAdd,↓reduceIte,reduceCtorEq];simp[binP,h];rw[show(a != 0)=true by simpa using h1];simp
  ·refine(yxh op a b).use ?_;simp only[thenO,go_sem,Nat.reduceEqDiff,Nat.reduceAdd,↓reduceIte,reduceCtorEq];refine(ydg _).use ?_;simp only[yu,go_sem];simp[binP,h30,h31,h32,h33,h34,h41,h42]
end Sh
end Go.Proofs.YtiejahgklcjhkaaGreatDoor

