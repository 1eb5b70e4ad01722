/- Joined. -/
import Derived.Test.YtiejahgklcjhkaaGreatDoorPkG11
set_option linter.unusedSimpArgs false
set_option linter.unusedVariables false
set_option maxRecDepth 8000
open Nat renaming reduceEqDiff→zA,le_refl→zD,reduceAdd→zF,reduceLT→zK,reduceLeDiff→zM,zero_le→zN
open List renaming getElem?_eq_getElem→zB,getD_eq_getElem?_getD→zC,getD→zG,getElem_mem→zJ,mem_cons_self→zL,getElem?_eq_none→zO,mem_cons_of_mem→zQ,mem_of_getElem?→zS,length_drop→zU
open Bool renaming and_eq_true→zH
open Int renaming eq_ofNat_of_zero_le→zI,natCast_zero→zT
open Go
namespace Go.Proofs.YtiejahgklcjhkaaGreatDoor
section
open Go.RowKit
theorem ybbj:Tryz.zeroCells195=Array.replicate 256 (.bool false):=by kernel_rfl
def Seen(w:World)(g:Nat)(S:List Int):Prop:=∃cur,w.heap[g]?=some (.cells cur 195 (0,0))/\cur.size=256/\∀i:Nat,i<256->cur[i]?=some (.bool (decide ((i:Int)∈S)))
theorem Seen.cell{w:World}{g:Nat}{S:List Int}(h:Seen w g S){i:Nat}(hi:i<256):w.cell? ⟨g,i,none⟩=some (.bool (decide ((i:Int)∈S))):=by
 obtain⟨cur,h1,h2,h3⟩:=h;simp[World.cell?,h1,h3 i hi]
theorem Seen.frozen{w:World}{g:Nat}{S:List Int}(h:Seen w g S)(i:Nat):w.frozen? ⟨g,i,none⟩=false:=by
 obtain⟨cur,h1,h2,h3⟩:=h;simp[World.frozen?,h1]
theorem Seen.set_{w:World}{g:Nat}{S:List Int}(h:Seen w g S){i:Nat}:Seen (w.setCell ⟨g,i,none⟩ (.bool true)) g (S++[(i:Int)]):=by
 obtain⟨cur,h1,h2,h3⟩:=h;refine⟨cur.setIfInBounds i (.bool true),by simp[World.setCell,Array.getElem?_modify,h1],by simp[h2],fun j hj=>?_⟩
 rw[Array.getElem?_setIfInBounds];split
 ·subst_vars
  rw[if_pos (by omega)]
  simp
 ·rw[h3 j hj];congr 3;simp;omega
theorem Seen.start(w:World):Seen (w.alloc (.cells Tryz.zeroCells195 195)) w.heap.size []:=by
 refine⟨_,heap_alloc_new w _,by rw[ybbj];simp,fun i hi=>?_⟩
 rw[ybbj];simp[hi]
def ybgv(ids:List Int):Bool:=decide ((∀x∈ids,0<=x/\x<=255)/\ids.Nodup)
def ytv(ids:List Int)(k:Nat):Prop:=(∀x∈ids.take k,0<=x/\x<=255)/\(ids.take k).Nodup
theorem ybyi{ids:List Int}{k:Nat}(hk:k<ids.length):ytv ids (k+1)↔ytv ids k/\(0<=ids[k]/\ids[k]<=255)/\ids[k]∉ids.take k:=by
 unfold ytv;rw[take_snoc ids k hk,List.nodup_append];constructor
 ·rintro⟨h1,h2,_,h3⟩;exact⟨⟨fun x hx=>h1 x (List.mem_append_left _ hx),h2⟩,h1 _ (List.mem_append_right _ (by simp)),fun hm=>h3 _ hm _ (by simp) rfl⟩
 ·rintro⟨⟨h1,h2⟩,h3,h4⟩;refine⟨fun x hx=>?_,h2,by simp,fun a ha b hb e=>?_⟩
  ·rcases List.mem_append.1 hx with hx|hx
   ·exact h1 x hx
   ·simp at hx;subst hx;exact h3
  ·simp at hb;subst hb e;exact h4 ha
theorem ybeu{ids:List Int}{k:Nat}(h:¬ytv ids k):ybgv ids=false:=by
 unfold ybgv;rw[decide_eq_false_iff_not];exact fun hd=>h ⟨fun x hx=>hd.1 x (List.mem_of_mem_take hx),hd.2.sublist (List.take_sublist _ _)⟩
theorem ybld{ids:List Int}(h:ytv ids ids.length):ybgv ids=true:=by
 unfold ytv at h;rw[List.take_length]at h;exact decide_eq_true h
set_option maxRecDepth 100000 in
set_option maxHeartbeats 1000000 in
theorem yqp(iv:Value)(ids:List Int)(w:World)(hi:yko w iv ids) :
 Calls Tryz.prog 152 #[iv] w fun e w'=>e = .returned (.bool (ybgv ids))/\Below w.heap.size w w':=by
 obtain⟨A,c,rfl,hA1,hA2⟩:=yca hi;have Hi:=Lib.hid hi
 clear hi
 go_enter Tryz.func152,Tryz.ntmps152
 go_wp2
 go_loopg [8] ids.length (fun q t wr=>∃k:Nat,q+k=ids.length/\t = .int .i64 k/\Hid (Below w.heap.size w wr)/\Hid (Seen wr w.heap.size (ids.take k))/\Hid (ytv ids k))
 case atStart=>exact⟨0,by omega,rfl,Lib.hid ((Below.refl _ _).alloc (zD _) _),Lib.hid (Seen.start w),Lib.hid ⟨by simp,by simp⟩⟩
 case round =>
  obtain⟨k,hq,rfl,hbel,hseen,hok⟩:=hrel
  by_cases hlt:k<ids.length
  ·obtain⟨b,off,rfl,hb,hcid,hr⟩:=yll (Hi.out.below Stable.int hbel.out) hlt;obtain⟨x,hx⟩:∃x,ids[k]=x:=⟨_,rfl⟩;have Hsn:=Lib.hid (ybyi hlt);rw[hx]at hcid hr Hsn;obtain⟨hr1,hr2⟩:=hr;have Hbad:=Lib.hid (fun h=>ybeu (ids:=ids) (k:=k+1) h);have Hts:=Lib.hid (take_snoc ids k hlt);rw[hx]at Hts
   clear hx
   by_cases c1:0<=x/\x<=255
   ·obtain⟨c1a,c1b⟩:=c1;obtain⟨n,rfl⟩:=zI c1a;have hcs:=hseen.out.cell (i:=n) (by omega)
    have hfs:=hseen.out.frozen n
    by_cases c2:(n:Int)∈ids.take k
    ·rw[decide_eq_true c2]at hcs;have Hf:=Lib.hid (Hbad.out (fun h=>(Hsn.out.1 h).2.2 c2))
     clear c2
     go_wp2
     go_ret
     exact⟨ybn Hf.out.symm,hbel.out⟩
    ·rw[decide_eq_false c2]at hcs;have Hn:=Lib.hid (Hsn.out.2 ⟨hok.out,⟨by omega,by omega⟩,c2⟩)
     clear c2
     go_wp2
     go_roundg (gk-1)
     case measure=>omega
     case rel =>
      refine⟨k+1,by omega,by go_num,Lib.hid (hbel.out.setCell (zD _) _),Lib.hid ?_,Hn⟩
      rw[Hts.out];exact hseen.out.set_
   ·have Hf:=Lib.hid (Hbad.out (fun h=>c1 (Hsn.out.1 h).2.1))
    by_cases c3:x<0
    ·clear c1
     go_wp2
     go_ret
     exact⟨ybn Hf.out.symm,hbel.out⟩
    ·have c4:255<x:=by omega
     clear c1
     go_wp2
     go_ret
     exact⟨ybn Hf.out.symm,hbel.out⟩
  ·obtain rfl:k=ids.length:=by omega
   have Ht:=Lib.hid (ybld hok.out)
   go_wp2
   go_ret
   exact⟨ybn Ht.out.symm,hbel.out⟩
theorem ybus(g:Gr)(h1:1<=g.ids.length)(h2:g.ids.length<=24)(h3:g.ports.length=g.ids.length):ygm g=(ybgv g.ids&&symB g.ports):=by
 unfold ygm ybgv symB;rw[<-Bool.decide_and];congr 1;apply propext;unfold ybe ycei;constructor
 ·rintro⟨_,_,_,h4,h5,h6,h7⟩;exact⟨⟨h4,h5⟩,h6,h7⟩
 ·rintro⟨⟨h4,h5⟩,h6,h7⟩;exact⟨by omega,by omega,by omega,h4,h5,h6,h7⟩
set_option maxHeartbeats 1000000 in
theorem ysi(gv:Value)(g:Gr)(w:World)(hg:GrAt w gv g) :
 Calls Tryz.prog 96 #[gv] w fun e w'=>e = .returned (.bool (ygm g))/\Below w.heap.size w w':=by
 obtain⟨i,p,rfl,hi,hp⟩:=hg;obtain⟨A,c,rfl,hA1,hA2⟩:=yca hi;obtain⟨A2,c2,rfl,hB1,hB2⟩:=yca hp;have Hi:=Lib.hid hi;have Hp:=Lib.hid hp
 clear hi hp
 by_cases n1:1<=g.ids.length
 ·by_cases n2:g.ids.length<=24
  ·by_cases n3:g.ports.length=g.ids.length
   ·have n3':((g.ports.length:Int)!=(g.ids.length:Int))=false:=by simp[n3]
    have He:=Lib.hid (ybus g n1 n2 n3);have n3a:g.ports.length<=24:=by omega
    clear n3
    go_enter Tryz.func96,Tryz.ntmps96
    go_wp2_with fail
    refine(yqp _ g.ids _ (Hi.out.below Stable.int ((Below.refl _ _).alloc (zD _) _))).mono ?_;rintro e w1 ⟨rfl,hb1⟩;have Hb1:=Lib.hid (ybub hb1);obtain⟨q0,q1⟩:=ydnb hb1
    clear hb1
    cases hd:ybgv g.ids with
    | false =>
      have Hv:=Lib.hid (show ygm g=false by rw[He.out,hd];rfl)
      go_wp2_with fail
      go_ret
      exact⟨ybn Hv.out.symm,Hb1.out⟩
    | true =>
      have Hv:=Lib.hid (show ygm g=symB g.ports by rw[He.out,hd];rfl)
      go_wp2_with fail
      refine(ymp _ g.ports _ (Hp.out.below (Stable.sl Stable.link) Hb1.out) (by omega)).mono ?_
      rintro e w2 ⟨rfl,hb2⟩
      go_wp2_with fail
      go_ret
      exact⟨ybn Hv.out.symm,Hb1.out.trans (hb2.mono Hb1.out.size)⟩
   ·have n3':((g.ports.length:Int)!=(g.ids.length:Int))=true:=by simp;omega
    have Hf:=Lib.hid (yhs (g:=g) (fun h=>n3 h.2.2.symm))
    clear n3
    go_enter Tryz.func96,Tryz.ntmps96
    go_wp2
    go_ret
    exact⟨ybn Hf.out.symm,(Below.refl _ _).alloc (zD _) _⟩
  ·have Hf:=Lib.hid (yhs (g:=g) (fun h=>n2 (by omega)))
   go_enter Tryz.func96,Tryz.ntmps96
   go_wp2
   go_ret
   exact⟨ybn Hf.out.symm,(Below.refl _ _).alloc (zD _) _⟩
 ·have Hf:=Lib.hid (yhs (g:=g) (fun h=>n1 (by omega)))
  go_enter Tryz.func96,Tryz.ntmps96
  go_wp2
  go_ret
  exact⟨ybn Hf.out.symm,(Below.refl _ _).alloc (zD _) _⟩
end
section
namespace Sh
open Go Ev Go.RowKit
theorem yft{x:Int}(h:-4611686018427387904<=x/\x<=4611686018427387904):I64 x:=by
 unfold I64;omega
theorem ydfg{g:Gr}(hg:ybe g):GrI g:=by
 obtain⟨h1,h2,h3,h4,h5,h6,h7⟩:=hg;refine⟨fun x hx=>yft (by have:=h4 x hx;omega),fun ls hls l hl=>?_⟩
 obtain⟨v,hv,rfl⟩:=List.getElem_of_mem hls;obtain⟨a1,a2,a3,a4,a5⟩:=(h6 ⟨v,hv⟩).1 l hl;exact⟨yft (by omega),yft (by omega)⟩
theorem ywi{g:Gr}(hI:GrI g):Returns Tryz.prog 96 [grV g] (.b (ygm g)):=by
 refine ybjy ⟨_,_,Tryz.func96,rfl⟩ (fun _=>.b) (fun _=>.simple rfl) fun G m us hG hr φ M w us' hR hs hv=>?_;obtain⟨u,rfl,h1⟩:=rvl1 hr;obtain⟨u',rfl,h2⟩:=yfv hv;exact ysi u' g w (ydch hG h1 h2 hR hs hI)
end Sh
end
section
namespace Sh
open Go Ev
def ydnp:LO:=[o3 (.alloc 87 1 [.a (.string (ByteArray.mk #[])),.i .i64 0,.i .i64 0,.i .i64 0,.i .i64 0,.i .i64 0]) 8 0]
def ydna:LO:=[mv' 0 9 0,mv' 1 10 0,mv' 2 11 0,mv' 3 12 0,o3 (.build [.a (.string (ByteArray.mk #[])),.i .i64 0,.i .i64 0,.i .i64 0,.i .i64 0,.i .i64 0] [(0,1,(.tmp 9)),(1,1,(ci' 1)),(3,1,(.tmp 10)),(4,1,(.tmp 11)),(5,1,(.tmp 12))]) 13 15,o0 (.store 6 (.tmp 8) (.tmp 13)) 31]
def c79:SC:=(.seq (.reg false ydnp) (.seq (.reg false ydna) .ret))
theorem ydhr:Fn 79 c79 [.c 8 true 6]:=fn_0 Tryz.func79 (by kernel_rfl) (by kernel_rfl)
end Sh
end
section
structure VarR where
 name:ByteArray
 kind:Int
 lo:Int
 hi:Int
 perNode:Int
 perID:Int
def varE:Elem VarR:=fun w b o x=>w.cell? ⟨b,o,none⟩=some (.string x.name)/\w.cell? ⟨b,o+1,none⟩=some (.int .i64 x.kind)/\w.cell? ⟨b,o+2,none⟩=some (.int .i64 x.lo)/\w.cell? ⟨b,o+3,none⟩=some (.int .i64 x.hi) /\
 w.cell? ⟨b,o+4,none⟩=some (.int .i64 x.perNode)/\w.cell? ⟨b,o+5,none⟩=some (.int .i64 x.perID)
theorem Stable.var:Stable varE:=fun _ _ _ _ _ h _ hx=>⟨h _ _ hx.1,h _ _ hx.2.1,h _ _ hx.2.2.1,h _ _ hx.2.2.2.1,h _ _ hx.2.2.2.2.1,h _ _ hx.2.2.2.2.2⟩
theorem yblj(ids:List Int)(k:Nat)(hk:k<ids.length):(ids.take (k+1)).foldl max 0=max ((ids.take k).foldl max 0) ids[k]:=by
 rw[take_snoc ids k hk,List.foldl_append];rfl
theorem ybdq(D:List Int)(m:Int)(h:∀x∈D,x<=m):∀a:Int,a<=m->D.foldl max a<=m:=by
 induction D with
 |nil=>intro a ha;exact ha
 |cons x D ih=>intro a ha;exact ih (fun y hy=>h y (by simp[hy])) _ (Int.max_le.2 ⟨ha,h x (by simp)⟩)
theorem yst{g:Gr}(hg:ybe g):0<=ybhn g/\ybhn g<=255:=⟨yqd _ _,ybdq _ _ (fun x hx=>(hg.2.2.2.1 x hx).2) _ (by omega)⟩
end
section
abbrev Tm:=Int×Int
structure SetR where
 var:Int
 val:List Tm
structure RuleR where
 name:ByteArray
 guard:List Tm
 sets:List SetR
structure ProgR where
 name:ByteArray
 vars:List VarR
 rules:List RuleR
instance:Inhabited VarR:=⟨⟨.empty,0,0,0,0,0⟩⟩
instance:Inhabited SetR:=⟨⟨0,[]⟩⟩
instance:Inhabited RuleR:=⟨⟨.empty,[],[]⟩⟩
inductive Ex where
 |leaf (op arg:Int)
 |un (op:Int) (a:Ex)
 |agg (op:Int) (a:Ex)
 |bin (op:Int) (a b:Ex)
 |ite (c a b:Ex)
def Ex.ser:Ex->List Tm
 |.leaf op arg=>[(op,arg)]
 |.un op a=>(op,0)::a.ser
 |.agg op a=>(op,0)::a.ser
 |.bin op a b=>(op,0)::(a.ser++b.ser)
 |.ite c a b=>(43,0)::(c.ser++(a.ser++b.ser))
def satP(a:Int):Int:=max (-1073741824) (min a 1073741824)
def ybp(b:Bool):Int:=if b then 1 else 0
def yuj(a b:Int):Int:=if b=0 then 0 else if a.tmod b≠0/\(decide (a<0)≠decide (b<0))then a.tdiv b-1 else a.tdiv b
def unP(op a:Int):Int:=if op=18 then -a else ybp (a==0)
def cmpP(op a b:Int):Bool:=if op=35 then a==b else if op=36 then a != b else if op=37 then decide (a<b)else if op=38 then decide (a<=b)else if op=39 then decide (a>b)else decide (a>=b)
def binP(op a b:Int):Int :=
 if op=30 then satP (a*b)else if op=31 then satP (yuj a b)else if op=32 then(if b=0 then 0 else satP (a-b*yuj a b))else if op=33 then satP (a+b)else if op=34 then satP (a-b)
 else if op=41 then ybp (a != 0&&b != 0)else if op=42 then ybp (a != 0||b != 0)else ybp (cmpP op a b)
def countP(l:List Int):Int:=((l.filter (· != 0)).length:Int)
def ypj(l:List Int):Int:=l.foldl min 1073741824
def ydk(l:List Int):Int×Int:=l.foldl (fun p a=>if a>p.1 then(a,p.1)else(p.1,max p.2 a)) (-1073741824,-1073741824)
def yut(l:List Int):Nat->Int->Int
 |0,r=>r
 |n+1,r=>if l.elem r then yut l n (r+1)else r
def mexP(l:List Int):Int:=yut l (l.length+1) 0
def yfk(l:List Int):Int:=match l.findIdx? (· != 0)with|some i=>i|none=>-1
def ygo(op:Int)(l:List Int):Int :=
 if op=20 then ybp (countP l==l.length)else if op=21 then ybp (decide (countP l>0))else if op=22 then countP l else if op=23 then yfk l else if op=24 then ypj l else if op=25 then(ydk l).1
 else if op=26 then satP l.sum else if op=27 then mexP l else if op=28 then(ydk l).2 else l.headD 0
structure Sc where
 g:Gr
 c:Conf
def yck(g:Gr)(v port:Nat):Int×Int:=(g.ports.getD v []).getD port (0,0)
def yjm(g:Gr)(v:Nat):List Int:=(g.ports.getD v []).map fun l=>yhm (g.ports.getD l.1.toNat []) v
def ymd(g:Gr)(op:Int)(v:Nat)(port:Int):Int :=
 if op=6 then g.ids.length else if op=7 then ybhn g else if op=8 then g.ids.getD v 0 else if op=9 then((g.ports.getD v []).length:Int)else if op=10 then ybp ((v:Int)==0)else if op=11 then port
 else(let l:=yck g v port.toNat
  if op=13 then g.ids.getD l.1.toNat 0 else if op=14 then((g.ports.getD l.1.toNat []).length:Int)else if op=15 then ybp (l.1==0)else if op=16 then l.2 else(yjm g v).getD port.toNat 0)
def ysw(g:Gr)(c:Conf)(op arg:Int)(v:Nat)(port:Int):Int :=
 if op=1 then arg else if op=2 then 1 else if op=3 then 0 else if op=4 then -1 else if op=5 then(c.getD v []).getD arg.toNat 0 else if op=12 then(c.getD (yck g v port.toNat).1.toNat []).getD arg.toNat 0
 else ymd g op v port
def yct(g:Gr)(c:Conf)(v:Nat):Ex->Int->Int
 |.leaf op arg,p=>ysw g c op arg v p
 |.un op a,p=>unP op (yct g c v a p)
 |.agg op a,_=>ygo op ((List.range (g.ports.getD v []).length).map fun(q:Nat)=>yct g c v a (q:Int))
 |.bin op a b,p=>binP op (yct g c v a p) (yct g c v b p)
 |.ite x a b,p=>if yct g c v x p≠0 then yct g c v a p else yct g c v b p
def Ex.ok(nv:Int)(bnd:Bool):Ex->Bool
 |.leaf op arg=>decide (1<=op/\op<=17)&&(if op=1 then decide (0<=arg/\arg<=1073741824)else if op=5\/op=12 then decide (0<=arg/\arg<nv)else true)&&(if 11<=op then bnd else true)
 |.un op a=>decide (op=18\/op=19)&&a.ok nv bnd
 |.agg op a=>decide (20<=op/\op<=29)&&a.ok nv true
 |.bin op a b=>decide (30<=op/\op<=42)&&a.ok nv bnd&&b.ok nv bnd
 |.ite x a b=>x.ok nv bnd&&a.ok nv bnd&&b.ok nv bnd
def InB(x:Int):Prop:=-1073741824<=x/\x<=1073741824
theorem yos(a:Int):InB (satP a):=by unfold InB satP;omega
theorem yfr(b:Bool):InB (ybp b):=by unfold InB ybp;cases b<;>simp
theorem ydkf{op a:Int}(h:InB a):InB (unP op a):=by
 unfold unP;split
 ·unfold InB at *;omega
 ·exact yfr _
theorem ydbc(op a b:Int):InB (binP op a b):=by
 unfold binP;split;· exact yos _
 split;· exact yos _
 split
 ·split
  ·unfold InB;omega
  ·exact yos _
 split;· exact yos _
 split;· exact yos _
 split;· exact yfr _
 split;· exact yfr _
 exact yfr _
theorem countP_le(l:List Int):0<=countP l/\countP l<=l.length:=by
 unfold countP;have:=List.length_filter_le (· != 0) l;omega
theorem ybtc(l:List Int)(h:∀x∈l,InB x):InB (ypj l):=by
 unfold ypj
 have:∀(l:List Int) (a:Int),InB a->(∀x∈l,InB x)->InB (l.foldl min a):=by
  intro l
  induction l with
  |nil=>intro a ha _;exact ha
  | cons x l ih =>
    intro a ha hl;refine ih _ ?_ fun y hy=>hl y (zQ _ hy);have:=hl x zL;unfold InB at *;omega
 exact this l _ (by unfold InB;omega) h
theorem yuv(l:List Int)(h:∀x∈l,InB x):InB (ydk l).1/\InB (ydk l).2:=by
 unfold ydk
 have:∀(l:List Int) (p:Int×Int),InB p.1/\InB p.2->(∀x∈l,InB x)->InB (l.foldl (fun p a=>if a>p.1 then(a,p.1)else(p.1,max p.2 a)) p).1/\InB (l.foldl (fun p a=>if a>p.1 then(a,p.1)else(p.1,max p.2 a)) p).2:=by
  intro l
  induction l with
  |nil=>intro p hp _;exact hp
  | cons x l ih =>
    intro p hp hl;refine ih _ ?_ fun y hy=>hl y (zQ _ hy);have:=hl x zL;unfold InB at *
    dsimp only
    split<;>dsimp only<;>omega
 exact this l _ (by unfold InB;simp) h
theorem ybkn(l:List Int):∀(n:Nat) (r:Int),r<=yut l n r/\yut l n r<=r+n
 |0,r=>by unfold yut;omega
 | n+1,r=>by
   unfold yut;have:=ybkn l n (r+1);split<;>omega
theorem ybca(l:List Int):-1<=yfk l/\yfk l<l.length\/yfk l = -1:=by
 unfold yfk;split
 ·rename_i i hi
  obtain⟨h,_⟩:=List.findIdx?_eq_some_iff_getElem.1 hi;left;omega
 ·exact .inr rfl
theorem ycfc{op:Int}{l:List Int}(hl:l.length<=1000)(h:∀x∈l,InB x):InB (ygo op l):=by
 have hc:=countP_le l;unfold ygo;split;· exact yfr _
 split;· exact yfr _
 split;· unfold InB;omega
 split;· have:=ybca l;unfold InB;omega
 split;· exact ybtc l h
 split;· exact(yuv l h).1
 split;· exact yos _
 split;· have:=ybkn l (l.length+1) 0;unfold mexP InB;omega
 split;· exact(yuv l h).2
 cases l with
 |nil=>unfold InB;simp
 |cons x l=>exact h x zL
structure ConfIn(n nv:Nat)(c:Conf):Prop where
 len:c.length=n
 row:∀s∈c,s.length=nv/\∀x∈s,InB x
theorem ConfIn.at_{n nv:Nat}{c:Conf}(h:ConfIn n nv c){v:Nat}(hv:v<n):(c.getD v []).length=nv/\∀k,InB ((c.getD v []).getD k 0):=by
 have hlt:v<c.length:=by rw[h.len];exact hv
 have e:c.getD v []=c[v]:=by simp[zG,hlt]
 obtain⟨h1,h2⟩:=h.row c[v] (zJ hlt);rw[e];refine⟨h1,fun k=>?_⟩;rw[zC];cases hk:c[v][k]? with
 |none=>simp;unfold InB;omega
 |some x=>simp;exact h2 x (zS hk)
theorem ybe.yck{g:Gr}(hg:ybe g){v p:Nat}(hv:v<g.ports.length)(hp:p<(g.ports.getD v []).length):0<=(yck g v p).1/\(yck g v p).1<g.ports.length/\1<=(yck g v p).2/\(yck g v p).2<=15:=by
 have e:g.ports.getD v []=g.ports[v]:=by simp[zG,hv]
 have h1:=hg.2.2.2.2.2.1 ⟨v,hv⟩;rw[e]at hp;have hm:(g.ports[v])[p]∈g.ports[v]:=zJ hp;have h2:=h1.1 _ hm;unfold ykq at h2;have e2:Go.Proofs.YtiejahgklcjhkaaGreatDoor.yck g v p=(g.ports[v])[p]:=by unfold Go.Proofs.YtiejahgklcjhkaaGreatDoor.yck;rw[e];simp[zG,hp]
 rw[e2];omega
theorem ybe.deg_lt{g:Gr}(hg:ybe g){v:Nat}:(g.ports.getD v []).length<24:=by
 by_cases hv:v<g.ports.length
 ·have h1:=hg.2.2.2.2.2.1 ⟨v,hv⟩;have:=yry hv h1;have e:g.ports.getD v []=g.ports[v]:=by simp[zG,hv]
  rw[e];have:=hg.2.1;have h3:g.ports[(⟨v,hv⟩:Fin g.ports.length)].length=g.ports[v].length:=rfl;omega
 ·rw[zC,zO (by omega)]
  simp
theorem ybe.id_in{g:Gr}(hg:ybe g)(v:Nat):0<=g.ids.getD v 0/\g.ids.getD v 0<=255:=by
 rw[zC];cases h:g.ids[v]? with
 |none=>simp
 |some x=>exact hg.2.2.2.1 x (zS h)
theorem yccv{g:Gr}{c:Conf}{n nv:Nat}(hg:ybe g)(hn:g.ports.length=n)(hc:ConfIn n nv c){op arg:Int}{bnd:Bool}(ho:(Ex.leaf op arg).ok nv bnd=true){v:Nat}(hv:v<n){p:Int}(hp:bnd=true->0<=p/\p<(g.ports.getD v []).length)(hpi:InB p):InB (ysw g c op arg v p):=by
 subst hn;have h24:=hg.2.1;have hd:=hg.deg_lt (v:=v);unfold ysw;simp only[Ex.ok,zH,decide_eq_true_eq]at ho;obtain⟨⟨ho1,ho2⟩,ho3⟩:=ho;split
 ·rename_i h;rw[if_pos h]at ho2;simp at ho2;unfold InB;omega
 split;· unfold InB;omega
 split;· unfold InB;omega
 split;· unfold InB;omega
 split;· exact(hc.at_ hv).2 _
 split
 ·rename_i h
  rw[if_pos (by omega)]at ho3
  obtain⟨q1,q2⟩:=hp ho3;have hl:=hg.yck hv (p:=p.toNat) (by omega)
  exact(hc.at_ (v:=(yck g v p.toNat).1.toNat) (by omega)).2 _
 ·unfold ymd;split;· rw[hg.2.2.1];unfold InB;omega
  split;· have:=yst hg;unfold InB;omega
  split;· have:=hg.id_in v;unfold InB;omega
  split;· unfold InB;omega
  split;· exact yfr _
  split;· exact hpi
  rename_i h6 h7 h8 h9 h10 h11
  rw[if_pos (by omega)]at ho3
  obtain⟨q1,q2⟩:=hp ho3;have hl:=hg.yck hv (p:=p.toNat) (by omega)
  simp only;split;· have:=hg.id_in (yck g v p.toNat).1.toNat;unfold InB;omega
  split;· have:=hg.deg_lt (v:=(yck g v p.toNat).1.toNat);unfold InB;omega
  split;· exact yfr _
  split;· unfold InB;omega
  ·unfold yjm;rw[zC,List.getElem?_map];cases hk:(g.ports.getD v [])[p.toNat]? with
   |none=>simp;unfold InB;omega
   | some l =>
     simp;have hd2:=hg.deg_lt (v:=l.1.toNat);rcases yxs (ls:=g.ports.getD l.1.toNat []) (u:=(v:Int))with e|⟨k,e,hk⟩
     ·simp at e;rw[e];unfold InB;omega
     ·simp at e hk hd2;rw[e];unfold InB;omega
theorem yhd{g:Gr}{c:Conf}{n nv:Nat}(hg:ybe g)(hn:g.ports.length=n)(hc:ConfIn n nv c){v:Nat}(hv:v<n):∀(x:Ex) {bnd:Bool}{p:Int},x.ok nv bnd=true->(bnd=true->0<=p/\p<(g.ports.getD v []).length)->InB p->InB (yct g c v x p)
 |.leaf op arg,bnd,p,h,hp,hpi=>yccv hg hn hc h hv hp hpi
 | .un op a,bnd,p,h,hp,hpi=>by
   simp only[Ex.ok,zH]at h;exact ydkf (yhd hg hn hc hv a h.2 hp hpi)
 | .agg op a,bnd,p,h,hp,hpi=>by
   simp only[Ex.ok,zH]at h;have:=hg.deg_lt (v:=v);refine ycfc (by simp;simp at this;omega) fun x hx=>?_
   obtain⟨q,hq,rfl⟩:=List.mem_map.1 hx;have hq:=List.mem_range.1 hq;exact yhd hg hn hc hv a h.2 (fun _=>by omega) (by unfold InB;omega)
 |.bin op a b,bnd,p,h,hp,hpi=>ydbc _ _ _
 | .ite x a b,bnd,p,h,hp,hpi=>by
   simp only[Ex.ok,zH]at h;unfold yct;split
   ·exact yhd hg hn hc hv a h.1.2 hp hpi
   ·exact yhd hg hn hc hv b h.2 hp hpi
end
section
namespace Sh
open Go Ev
def varC(x:VarR):List SV:=[.a (.string x.name),.i .i64 x.kind,.i .i64 x.lo,.i .i64 x.hi,.i .i64 x.perNode,.i .i64 x.perID]
def ydh(l:List VarR):SV:=.sl 6 l.length (fun k=>varC (l.getD k default))
def yhv(l:List SetR):SV:=.sl 2 l.length (fun k=>[.i .i64 (l.getD k default).var,yba (l.getD k default).val])
def yda(l:List RuleR):SV:=.sl 3 l.length (fun k=>[.a (.string (l.getD k default).name),yba (l.getD k default).guard,yhv (l.getD k default).sets])
def ynh(p:ProgR):List SV:=[.a (.string p.name),ydh p.vars,yda p.rules]
def ydr(g:Gr):SV:=.sl 1 g.ports.length (fun v=>[yw (yjm g v)])
def yfq(p:ProgR)(g:Gr):List SV:=[.a (.string p.name),ydh p.vars,yda p.rules,yw g.ids,yx g.ports,.i .i64 (ybhn g),ydr g]
def yip(p:ProgR)(g:Gr)(c:Conf)(v:Nat)(e:List Tm):List SV:=[.rf (yfq p g),ybl c,.i .i64 v,yba e]
theorem ybnm(l:List Int):one1 (yw l)=true:=rfl
theorem ybeq{n:Nat}(l:List Int):owned (n+1) (yw l)=false:=rfl
theorem ybcu{n:Nat}(l:List Int):scalar (n+1) (yw l)=false:=rfl
theorem yblf{n:Nat}(o:Own)(l:List Int):view o (n+1) (yw l)=yw l:=rfl
theorem ybpp{n:Nat}(o:Own)(l:List Int):vok o (n+1) (yw l)=True:=rfl
theorem ybte{n:Nat}(h:Nm->Nm)(l:List Int):ren h (n+1) (yw l)=yw l:=rfl
theorem ybzy{n:Nat}(L:Nm->Bool)(l:List Int):cln L (n+1) (yw l)=true:=rfl
theorem ybgs(l:List (Int×Int)):one1 (yba l)=true:=rfl
theorem ybaw{n:Nat}(l:List (Int×Int)):owned (n+1) (yba l)=false:=rfl
theorem yyc{n:Nat}(l:List (Int×Int)):scalar (n+1) (yba l)=false:=rfl
theorem ybei{n:Nat}(o:Own)(l:List (Int×Int)):view o (n+1) (yba l)=yba l:=rfl
theorem ybkq{n:Nat}(o:Own)(l:List (Int×Int)):vok o (n+1) (yba l)=True:=rfl
theorem ybnj{n:Nat}(h:Nm->Nm)(l:List (Int×Int)):ren h (n+1) (yba l)=yba l:=rfl
theorem ybly{n:Nat}(L:Nm->Bool)(l:List (Int×Int)):cln L (n+1) (yba l)=true:=rfl
theorem ybfr(l:List (List (Int×Int))):one1 (yx l)=true:=rfl
theorem ybcs{n:Nat}(l:List (List (Int×Int))):owned (n+1) (yx l)=false:=rfl
theorem yzb{n:Nat}(l:List (List (Int×Int))):scalar (n+1) (yx l)=false:=rfl
theorem ybhb{n:Nat}(o:Own)(l:List (List (Int×Int))):view o (n+1) (yx l)=yx l:=rfl
theorem ybob{n:Nat}(o:Own)(l:List (List (Int×Int))):vok o (n+1) (yx l)=True:=rfl
theorem ybof{n:Nat}(h:Nm->Nm)(l:List (List (Int×Int))):ren h (n+1) (yx l)=yx l:=rfl
theorem ybnv{n:Nat}(L:Nm->Bool)(l:List (List (Int×Int))):cln L (n+1) (yx l)=true:=rfl
theorem yblz(l:List (List Int)):one1 (ybl l)=true:=rfl
theorem ybho{n:Nat}(l:List (List Int)):owned (n+1) (ybl l)=false:=rfl
theorem yzw{n:Nat}(l:List (List Int)):scalar (n+1) (ybl l)=false:=rfl
theorem yblb{n:Nat}(o:Own)(l:List (List Int)):view o (n+1) (ybl l)=ybl l:=rfl
theorem ybqt{n:Nat}(o:Own)(l:List (List Int)):vok o (n+1) (ybl l)=True:=rfl
theorem ybxg{n:Nat}(h:Nm->Nm)(l:List (List Int)):ren h (n+1) (ybl l)=ybl l:=rfl
theorem ybon{n:Nat}(L:Nm->Bool)(l:List (List Int)):cln L (n+1) (ybl l)=true:=rfl
theorem ybmj(l:List VarR):one1 (ydh l)=true:=rfl
theorem ybec{n:Nat}(l:List VarR):owned (n+1) (ydh l)=false:=rfl
theorem yzt{n:Nat}(l:List VarR):scalar (n+1) (ydh l)=false:=rfl
theorem ybkp{n:Nat}(o:Own)(l:List VarR):view o (n+1) (ydh l)=ydh l:=rfl
theorem ybrg{n:Nat}(o:Own)(l:List VarR):vok o (n+1) (ydh l)=True:=rfl
theorem ybyx{n:Nat}(h:Nm->Nm)(l:List VarR):ren h (n+1) (ydh l)=ydh l:=rfl
theorem ybvy{n:Nat}(L:Nm->Bool)(l:List VarR):cln L (n+1) (ydh l)=true:=rfl
theorem ybmv(l:List SetR):one1 (yhv l)=true:=rfl
theorem ybhh{n:Nat}(l:List SetR):owned (n+1) (yhv l)=false:=rfl
theorem ybba{n:Nat}(l:List SetR):scalar (n+1) (yhv l)=false:=rfl
theorem yblm{n:Nat}(o:Own)(l:List SetR):view o (n+1) (yhv l)=yhv l:=rfl
theorem ybwv{n:Nat}(o:Own)(l:List SetR):vok o (n+1) (yhv l)=True:=rfl
theorem ybqu{n:Nat}(h:Nm->Nm)(l:List SetR):ren h (n+1) (yhv l)=yhv l:=rfl
theorem ybtp{n:Nat}(L:Nm->Bool)(l:List SetR):cln L (n+1) (yhv l)=true:=rfl
theorem ybem(l:List RuleR):one1 (yda l)=true:=rfl
theorem ybbh{n:Nat}(l:List RuleR):owned (n+1) (yda l)=false:=rfl
theorem yzg{n:Nat}(l:List RuleR):scalar (n+1) (yda l)=false:=rfl
theorem ybfn{n:Nat}(o:Own)(l:List RuleR):view o (n+1) (yda l)=yda l:=rfl
theorem ybla{n:Nat}(o:Own)(l:List RuleR):vok o (n+1) (yda l)=True:=rfl
theorem yblr{n:Nat}(h:Nm->Nm)(l:List RuleR):ren h (n+1) (yda l)=yda l:=rfl
theorem ybmx{n:Nat}(L:Nm->Bool)(l:List RuleR):cln L (n+1) (yda l)=true:=rfl
theorem ybgx(l:Gr):one1 (ydr l)=true:=rfl
theorem ybch{n:Nat}(l:Gr):owned (n+1) (ydr l)=false:=rfl
theorem yyp{n:Nat}(l:Gr):scalar (n+1) (ydr l)=false:=rfl
theorem ybfi{n:Nat}(o:Own)(l:Gr):view o (n+1) (ydr l)=ydr l:=rfl
theorem ybln{n:Nat}(o:Own)(l:Gr):vok o (n+1) (ydr l)=True:=rfl
theorem yboe{n:Nat}(h:Nm->Nm)(l:Gr):ren h (n+1) (ydr l)=ydr l:=rfl
theorem ybmq{n:Nat}(L:Nm->Bool)(l:Gr):cln L (n+1) (ydr l)=true:=rfl
theorem ybfa{n:Nat}(fr:List Nm)(o:Own)(l:List Int):ydd fr o (n+1) (yw l)=yw l:=rfl
theorem ybtf{n:Nat}(fr:List Nm)(o:Own)(l:List Int):pok fr o (n+1) (yw l)=True:=rfl
theorem ybdd{n:Nat}(fr:List Nm)(o:Own)(l:List (Int×Int)):ydd fr o (n+1) (yba l)=yba l:=rfl
theorem ybkz{n:Nat}(fr:List Nm)(o:Own)(l:List (Int×Int)):pok fr o (n+1) (yba l)=True:=rfl
theorem ybdl{n:Nat}(fr:List Nm)(o:Own)(l:List (List (Int×Int))):ydd fr o (n+1) (yx l)=yx l:=rfl
theorem ybog{n:Nat}(fr:List Nm)(o:Own)(l:List (List (Int×Int))):pok fr o (n+1) (yx l)=True:=rfl
theorem ybef{n:Nat}(fr:List Nm)(o:Own)(l:List (List Int)):ydd fr o (n+1) (ybl l)=ybl l:=rfl
theorem ybze{n:Nat}(fr:List Nm)(o:Own)(l:List (List Int)):pok fr o (n+1) (ybl l)=True:=rfl
theorem ybfu{n:Nat}(fr:List Nm)(o:Own)(l:List VarR):ydd fr o (n+1) (ydh l)=ydh l:=rfl
theorem ybta{n:Nat}(fr:List Nm)(o:Own)(l:List VarR):pok fr o (n+1) (ydh l)=True:=rfl
theorem ybgl{n:Nat}(fr:List Nm)(o:Own)(l:List SetR):ydd fr o (n+1) (yhv l)=yhv l:=rfl
theorem ybzo{n:Nat}(fr:List Nm)(o:Own)(l:List SetR):pok fr o (n+1) (yhv l)=True:=rfl
theorem ybdf{n:Nat}(fr:List Nm)(o:Own)(l:List RuleR):ydd fr o (n+1) (yda l)=yda l:=rfl
theorem ybky{n:Nat}(fr:List Nm)(o:Own)(l:List RuleR):pok fr o (n+1) (yda l)=True:=rfl
theorem ybco{n:Nat}(fr:List Nm)(o:Own)(l:Gr):ydd fr o (n+1) (ydr l)=ydr l:=rfl
theorem yblw{n:Nat}(fr:List Nm)(o:Own)(l:Gr):pok fr o (n+1) (ydr l)=True:=rfl
theorem ybfo(l:List Int):SV.cells (yw l)=[yw l]:=rfl
theorem ybcx(l:List (Int×Int)):SV.cells (yba l)=[yba l]:=rfl
theorem yzk(l:List (List (Int×Int))):SV.cells (yx l)=[yx l]:=rfl
theorem ybhf(l:List (List Int)):SV.cells (ybl l)=[ybl l]:=rfl
theorem ybgw(l:List VarR):SV.cells (ydh l)=[ydh l]:=rfl
theorem ybet(l:List SetR):SV.cells (yhv l)=[yhv l]:=rfl
theorem ybag(l:List RuleR):SV.cells (yda l)=[yda l]:=rfl
theorem yzs(l:Gr):SV.cells (ydr l)=[ydr l]:=rfl
attribute [go_sem] ybnm ybeq ybcu yblf ybpp ybte ybzy ybgs ybaw yyc ybei ybkq ybnj ybly
attribute [go_sem] ybfr ybcs yzb ybhb ybob ybof ybnv yblz ybho yzw yblb ybqt ybxg
attribute [go_sem] ybon ybmj ybec yzt ybkp ybrg ybyx ybvy ybmv ybhh ybba yblm ybwv ybqu
attribute [go_sem] ybtp ybem ybbh yzg ybfn ybla yblr ybmx ybgx ybch yyp ybfi ybln
attribute [go_sem] yboe ybmq ybfa ybtf ybdd ybkz ybdl ybog ybef ybze ybfu ybta ybgl ybzo
attribute [go_sem] ybdf ybky ybco yblw ybfo ybcx yzk ybhf ybgw ybet ybag yzs
end Sh
end
section
open Go.RowKit
theorem yye(gv:Value)(g:Gr)(w:World)(hg:GrAt w gv g) :
 Calls Tryz.prog 137 #[gv] w fun e w'=>e = .returned (.bool (yfy g))/\Below w.heap.size w w':=by
 have hg0:=Lib.hid hg;obtain⟨i,p,rfl,hi,hp⟩:=hg
 clear hi hp
 cases hv:ygm g with
 | false =>
   have Hf:=Lib.hid (show yfy g=false by unfold yfy;rw[hv];rfl)
   go_enter Tryz.func137,Tryz.ntmps137
   go_wp2_with fail
   refine(ysi _ g _ (hg0.out.below ((Below.refl _ _).alloc (zD _) _))).mono ?_;rintro e w1 ⟨rfl,hb1⟩
   go_wp2_with fail
   go_ret
   exact⟨ybn Hf.out.symm,ybub hb1⟩
 | true =>
   have hgood:=(yfh g).1 hv;have hn1:=hgood.1;have hn24:=hgood.2.1;have Hgood:=Lib.hid hgood;have Hd:=Lib.hid (yhk hgood (a:=0) (by omega))
   have Hc:=Lib.hid (show yfy g=(ybx g 0).all (fun x=>decide (0<=x))by unfold yfy;rw[hv];rfl)
   clear hgood
   go_enter Tryz.func137,Tryz.ntmps137
   go_wp2_with fail
   refine(ysi _ g _ (hg0.out.below ((Below.refl _ _).alloc (zD _) _))).mono ?_;rintro e w1 ⟨rfl,hb1⟩;obtain⟨q0,q1⟩:=ydnb hb1;have Hb1:=Lib.hid (ybub hb1)
   clear hb1
   go_wp2_with fail
   refine(ybnh _ g 0 _ (hg0.out.below Hb1.out) Hgood.out (by omega)).mono ?_
   rintro e w2 ⟨v,rfl,hv2,hb2⟩;have Hb2:=Lib.hid (Hb1.out.trans (hb2.mono Hb1.out.size));obtain⟨A,c,rfl,hA1,hA2⟩:=yca hv2;have Hv2:=Lib.hid hv2
   clear hb2 hv2
   obtain⟨D,hD⟩:∃D,ybx g 0=D:=⟨_,rfl⟩;rw[hD]at Hv2 Hd hA1 Hc ⊢
   clear hD
   go_wp2
   go_loopg [11] D.length (fun q t wr=>∃k:Nat,q+k=D.length/\t = .int .i64 k/\wr=w2/\Hid (∀j (hj:j<D.length),j<k->0<=D[j]))
   case atStart=>exact⟨0,by omega,rfl,rfl,Lib.hid (fun j _ hj=>absurd hj (by omega))⟩
   case round =>
    obtain⟨k,hq,rfl,rfl,hall⟩:=hrel
    by_cases hlt:k<D.length
    ·obtain⟨b,off,rfl,hb,hc,hr⟩:=yll Hv2.out hlt
     by_cases c1:D[k]<0
     ·have Hf:=Lib.hid (show yfy g=false by
       rw[Hc.out,List.all_eq_false];exact⟨D[k],zJ hlt,by simp;omega⟩)
      go_wp2
      go_ret
      exact⟨ybn Hf.out.symm,Hb2.out⟩
     ·go_wp2
      go_roundg (gk-1)
      case measure=>omega
      case rel =>
       refine⟨k+1,by omega,by go_num,rfl,Lib.hid (fun j hj hjk=>?_)⟩
       by_cases e:j=k
       ·subst e;omega
       ·exact hall.out j hj (by omega)
    ·obtain rfl:k=D.length:=by omega
     have Ht:=Lib.hid (show yfy g=true by
      rw[Hc.out,List.all_eq_true];intro x hx;obtain⟨j,hj,rfl⟩:=List.mem_iff_getElem.1 hx;exact decide_eq_true (hall.out j hj hj))
     go_wp2
     go_ret
     exact⟨ybn Ht.out.symm,Hb2.out⟩
theorem yky{g:Gr}(h:yfy g=true):ygm g=true:=(zH _ _▸h).1
end
section
namespace Sh
open Ev Go.RowKit
theorem ydre{α:Type}(l:List α)(x d:α)(i:Nat):(l++[x]).getD i d=if i<l.length then l.getD i d else if i=l.length then x else d:=by
 by_cases h:i<l.length
 ·simp[zG,List.getElem?_append_left h,h]
 ·by_cases e:i=l.length
  ·subst e;simp[zG]
  ·rw[if_neg h,if_neg e,zG,zO (by simp;omega)]
   rfl
theorem ydqg(k i:Nat)(hi:i≠k):(if i<k+1 then(-1:Int)else 0)=if i<k then -1 else 0:=by
 by_cases h:i<k
 ·rw[if_pos h,if_pos (by omega)]
 ·rw[if_neg h,if_neg (by omega)]
theorem ybns(g:Gr)(a i:Nat)(ha:a<g.ports.length)(hi:i<g.ports.length):(start g a).getD i 0=if i=a then 0 else -1:=by
 unfold start;rw[yxx (by simpa using ha)]
 split
 ·rfl
 ·rw[zC,List.getElem?_replicate,if_pos hi];rfl
theorem ybok{g:Gr}(hg:ybe g){a:Nat}(ha:a<g.ports.length):Returns Tryz.prog 139 [grV g,.i .i64 a] (yw (ybx g a)):=by
 refine Returns.of (ydep _ _ ?_);obtain⟨n,hn⟩:∃n,g.ports.length=n:=⟨_,rfl⟩;have h24:=hg.2.1;have h1:=hg.1;rw[hn]at h24 h1 ha;obtain⟨PV,hPV⟩:∃P,yx g.ports=P:=⟨_,rfl⟩;simp only[c139,ycib,ycmi,ycwt,grV,yx,hn,go_sem,zA,zF,zK,↓reduceIte,reduceCtorEq];refine⟨by omega,?_⟩
 refine ybj (σ:=Nat) (fun k=>⟨[(17,.i .i64 k),(16,.i .i64 n),(5,.os (14,0) 0 n true),(2,.pt (2,0) 0 0),(1,.i .i64 a)],
  [(2,.one (some ⟨27,true,2,1,fun _=>[yw g.ids,yx g.ports]⟩)),(14,.one (some ⟨3,false,1,n,fun i=>[.i .i64 (if i<k then -1 else 0)]⟩))]⟩) (fun k=>k<=n) (fun k=>n-k) 0 (zN _) ?_ ?_
 ·refine yh [] [] [] ?_;simp only[yx,hn,allQ,live,yc,ybb,zT,go_sem,zA,↓reduceIte,reduceCtorEq];exact fun i _=>by rw[if_neg (by omega)]
 ·intro k hk
  by_cases hlt:k<n
  ·have ht:decide ((k:Int)<(n:Int))=true:=decide_eq_true (by omega)
   simp only[ybzx,ycsu,ycxh,ycto,ht,splice,and_false,go_sem,zA,zF,↓reduceIte,reduceCtorEq];refine⟨by omega,by omega,ikw (by omega) (by omega),?_⟩
   refine yj (k+1) (by omega) (by omega) ?_
   refine yh [] [] [] ?_;simp only[go_sem,allQ,live,yc,ybb,go_sem,zA,↓reduceIte,reduceCtorEq];refine⟨by omega,fun i hi=>?_⟩
   by_cases q:i=k
   ·subst q;simp only[if_pos (Nat.lt_succ_self i)];simp only[live,yc,go_sem,↓reduceIte,reduceCtorEq]
   ·simp only[if_neg q,ydqg k i q];simp only[live,yc,go_sem,reduceCtorEq]
  ·obtain rfl:k=n:=by omega
   have ht:decide ((k:Int)<(k:Int))=false:=decide_eq_false (by omega)
   simp only[ybzx,ycof,ycxb,ht,splice,and_false,go_sem,zA,zF,zK,↓reduceIte,reduceCtorEq];refine⟨⟨by omega,by omega⟩,by omega,?_⟩
   refine ybj (σ:=List Int×List Nat×Nat) (fun q=>⟨[(7,.os (128,0) q.2.2 (q.2.1.length-q.2.2) true),(5,.os (14,0) 0 k true),(2,.pt (2,0) 0 0)],
    [(2,.one (some ⟨27,true,2,1,fun _=>[yw g.ids,yx g.ports]⟩)),(14,.one (some ⟨3,false,1,k,fun i=>[.i .i64 (q.1.getD i 0)]⟩)),(128,.one (some ⟨3,false,1,q.2.1.length,fun i=>[.i .i64 (q.2.1.getD i 0:Nat)]⟩))]⟩)
    (fun q=>q.2.2<=q.2.1.length/\BfsInv g a q.1 (q.2.1.drop q.2.2)/\q.2.1.length-q.2.2+ycl q.1<=30/\q.2.1.length<=31) (fun q=>q.2.1.length-q.2.2+ycl q.1) (start g a,[a],0) ⟨zN _,BfsInv.start (by omega),ynd g a (by omega),by simp⟩ ?_ ?_
   ·refine yh [(128,fun i=>(28,i))] [] [] ?_;simp only[go_sem,allQ,live,yc,go_sem,zA,↓reduceIte,reduceCtorEq];refine⟨fun i hi=>?_,fun i hi=>?_⟩
    ·rw[ybns g a i (by omega) (by omega),if_pos hi]
     by_cases q:i=a
     ·simp only[if_pos q];simp only[live,yc,go_sem,reduceCtorEq]
     ·simp only[if_neg q];simp only[live,yc,go_sem,reduceCtorEq]
    ·obtain rfl:i=0:=by omega
     simp only[List.getD_cons_zero,live,yc,go_sem,reduceCtorEq]
   ·rintro⟨R,W,o⟩ ⟨ho,hinv,hm30,hw31⟩;have ho:o<=W.length:=ho;have hinv:BfsInv g a R (W.drop o):=hinv;have hm30:W.length-o+ycl R<=30:=hm30;have hw31:W.length<=31:=hw31;obtain⟨m,hm⟩:∃m,W.length=m:=⟨_,rfl⟩;rw[hm]at ho hm30 hw31
    by_cases hlt2:o<m
    ·have hQ : W.drop o=W[o]::W.drop (o+1):=(List.drop_eq_getElem_cons (by omega))
     obtain⟨v,hv⟩:∃v,W.getD o 0=v:=⟨_,rfl⟩;have hv':W[o]=v:=by rw[<-hv,getD_at (show o<W.length by omega)]
     rw[hv']at hQ;rw[hQ]at hinv;obtain⟨d,hd⟩:=hinv.qin v (by simp)
     have hvl:v<g.ports.length:=by rw[<-hinv.len];exact(List.getElem?_eq_some_iff.1 hd).1
     obtain⟨ls,hls⟩:∃ls,g.ports.getD v []=ls:=⟨_,rfl⟩;have hls?:g.ports[v]?=some ls:=by rw[<-hls];simp[zG,hvl]
     have hin:=hinv.pop hd ls;have hls24:ls.length<24:=by rw[<-hls];exact hg.deg_lt
     have ht2:decide (((m-o:Nat):Int)>0)=true:=decide_eq_true (by omega)
     simp only[ybxz,ybpc,ybux,ybxx,ht2,hm,hv,yx,yba,hls,hn,go_sem,Int.reduceToNat,zA,zF,↓reduceIte,reduceCtorEq];refine⟨⟨by omega,by omega⟩,hlt2,⟨by omega,by omega,by omega⟩,⟨by omega,by omega⟩,?_⟩
     refine ybj (σ:=Nat×List Int×List Nat×Nat) (fun q=>⟨[(43,.i .i64 q.1),(42,.i .i64 ls.length),(41,yba ls),(8,.i .i64 v),(7,.os (128,0) q.2.2.2 (q.2.2.1.length-q.2.2.2) true),(5,.os (14,0) 0 k true),(2,.pt (2,0) 0 0)],
      [(2,.one (some ⟨27,true,2,1,fun _=>[yw g.ids,yx g.ports]⟩)),(14,.one (some ⟨3,false,1,k,fun i=>[.i .i64 (q.2.1.getD i 0)]⟩)),(128,.one (some ⟨3,false,1,q.2.2.1.length,fun i=>[.i .i64 (q.2.2.1.getD i 0:Nat)]⟩))]⟩)
      (fun q=>q.1<=ls.length/\q.2.2.2<=q.2.2.1.length/\BfsIn g a v d ls q.1 q.2.1 (q.2.2.1.drop q.2.2.2)/\q.2.2.1.length-q.2.2.2+1+ycl q.2.1=m-o+ycl R/\q.2.2.1.length<=31) (fun q=>ls.length-q.1) (0,R,W,o+1) ⟨zN _,by show o+1<=W.length;omega,hin,by show W.length-(o+1)+1+ycl R=_;omega,by show W.length<=31;omega⟩ ?_ ?_
     ·refine yh [] [] [] ?_;simp only[yx,yba,hn,hm,Nat.sub_sub,allQ,live,yc,zT,go_sem,zA,↓reduceIte,reduceCtorEq]
     ·rintro⟨j,R',W',o'⟩ ⟨hj,ho',hin',hun',hw'⟩;have hj:j<=ls.length:=hj;have ho':o'<=W'.length:=ho';have hin':BfsIn g a v d ls j R' (W'.drop o'):=hin';have hun':W'.length-o'+1+ycl R'=m-o+ycl R:=hun';have hw':W'.length<=31:=hw';obtain⟨m',hm'⟩:∃m,W'.length=m:=⟨_,rfl⟩;rw[hm']at ho' hun' hw'
      by_cases hjl:j<ls.length
      ·have ht3:decide ((j:Int)<(ls.length:Int))=true:=decide_eq_true (by omega)
       obtain⟨l,hl⟩:∃l,ls.getD j (0,0)=l:=⟨_,rfl⟩;have hl':ls[j]=l:=by rw[<-hl,getD_at hjl]
       have hlm:l∈ls:=by rw[<-hl'];exact zJ _
       obtain⟨k1,k2,k3,k4,k5⟩:=hg.link hls? hlm;obtain⟨u,hu⟩:=zI k1;have hul:u<R'.length:=by rw[hin'.len];omega
       have hRv:R'.getD v 0=(d:Int):=by have:=hin'.rv;simp[zG,this]
       have hd24:d<g.ports.length:=by
        rcases hin'.val v _ hin'.rv with e|⟨k',e,h1,h2⟩
        ·omega
        ·obtain rfl:d=k':=by omega
         exact yuf hg (by omega) h1 h2
       have hRu:R'[u]?=some (R'.getD u 0):=by rw[getD_at hul];exact zB hul
       by_cases hneg:R'.getD u 0<0
       ·have ht4:decide (R'.getD u 0<0)=true:=decide_eq_true hneg;simp only[yyj,yyd,yxi,yxp,ywx,yxu,yba,hl,hu,ht3,ht4,hm',hRv,splice,and_false,go_sem,zA,zF,zM,zK,↓reduceIte,reduceCtorEq];refine⟨⟨by omega,by omega⟩,⟨by omega,by omega⟩,by omega,⟨by omega,by omega⟩,by omega,ikw (by omega) (by omega),⟨by omega,by omega⟩,by omega,by decide,⟨by omega,by omega,by omega⟩,ikw (by omega) (by omega),?_⟩
        have hRm:R'[u]?=some (-1):=by
         rcases hin'.val u _ hRu with e|⟨k',e,_⟩
         ·rw[hRu,e]
         ·omega
        have hdis:=hin'.discover hls? hjl (u:=u) (by rw[hl'];exact hu) hRm
        have hunf:=yud (R:=R') (u:=u) (x:=(d:Int)+1) hRm (by omega)
        have hlen:(W'.drop o'++[u]).length=m'-o'+1:=by rw[List.length_append,zU,hm'];rfl
        refine yj (j+1,R'.set u ((d:Int)+1),W'.drop o'++[u],0) ⟨by show j+1<=_;omega,zN _,hdis,by show(W'.drop o'++[u]).length-0+1+ycl (R'.set u ((d:Int)+1))=_;omega,by show(W'.drop o'++[u]).length<=31;omega⟩ (by show ls.length-(j+1)<ls.length-j;omega) ?_
        refine yh [(128,fun i=>(66,i))] [] [] ?_;simp only[yx,yba,hn,hlen,allQ,live,yc,ybb,go_sem,zA,↓reduceIte,reduceCtorEq];refine⟨⟨by omega,Sim.refl _⟩,fun i hi=>?_,fun i hi=>?_⟩
        ·rw[yxx hul]
         by_cases q:i=u
         ·simp only[if_pos q];simp only[live,yc,go_sem,reduceCtorEq]
         ·simp only[if_neg q];simp only[live,yc,go_sem,reduceCtorEq]
        ·rw[ydre,zU,hm']
         by_cases q:i<m'-o'
         ·have e:(W'.drop o').getD i 0=W'.getD (o'+i) 0:=by simp[zG,List.getElem?_drop]
          simp only[if_pos q,e];simp only[live,yc,go_sem,reduceCtorEq]
         ·obtain rfl:i=m'-o':=by omega
          simp only[if_neg q,Nat.sub_self,Nat.zero_mul,↓reduceIte];simp only[live,yc,go_sem,reduceCtorEq]
       ·have ht4:decide (R'.getD u 0<0)=false:=decide_eq_false hneg;simp only[yyj,yyd,yxi,yxp,ywx,yxu,yba,hl,hu,ht3,ht4,hm',splice,go_sem,zA,zF,zM,zK,↓reduceIte,reduceCtorEq];refine⟨⟨by omega,by omega⟩,⟨by omega,by omega⟩,by omega,ikw (by omega) (by omega),?_⟩
        obtain⟨y,hy⟩:=zI (show 0<=R'.getD u 0 by omega)
        have hsk:=hin'.skip hjl (j:=y) (by rw[hl',hu,Int.toNat_natCast,hRu,hy])
        refine yj (j+1,R',W',o') ⟨by show j+1<=_;omega,by show o'<=W'.length;omega,hsk,by show W'.length-o'+1+ycl R'=_;omega,by show W'.length<=31;omega⟩ (by show ls.length-(j+1)<ls.length-j;omega) ?_
        refine yh [] [] [] ?_;simp only[yx,yba,hn,hm',allQ,live,yc,ybb,go_sem,zA,↓reduceIte,reduceCtorEq];omega
      ·obtain rfl:j=ls.length:=by omega
       have ht3:decide ((ls.length:Int)<(ls.length:Int))=false:=decide_eq_false (by omega)
       simp only[yyj,yyd,yxi,yxp,ywx,yxu,ht3,go_sem,zA,↓reduceIte];refine yj (R',W',o') ⟨by show o'<=W'.length;omega,hin'.finish hls?,by show W'.length-o'+ycl R'<=30;omega,by show W'.length<=31;omega⟩ (by show W'.length-o'+ycl R'<m-o+ycl R;omega) ?_
       refine yh [] [] [] ?_;simp only[yx,yba,hn,hm',allQ,live,yc,go_sem,zA,↓reduceIte,reduceCtorEq]
    ·obtain rfl:o=m:=by omega
     have ht2:decide (((o-o:Nat):Int)>0)=false:=decide_eq_false (by omega)
     rw[List.drop_eq_nil_of_le (by omega)]at hinv
     have hdist:=hinv.isDist.unique (yeo hg (by omega))
     subst hdist;have hlen:=hinv.len;simp only[ybxz,ybsy,ht2,hm,yx,yba,hn,go_sem,zA,zF,↓reduceIte,reduceCtorEq];have e:(ybx g a).length=k:=by omega
     unfold yw;rw[e];exact Sim.refl _
theorem ybaa{g:Gr}(hI:GrI g):Returns Tryz.prog 137 [grV g] (.b (yfy g)):=by
 refine ybjy ⟨_,_,Tryz.func137,rfl⟩ (fun _=>.b) (fun _=>.simple rfl) fun G m us hG hr φ M w us' hRl hs hv=>?_;obtain⟨u,rfl,h1⟩:=rvl1 hr;obtain⟨u',rfl,h2⟩:=yfv hv;exact yye u' g w (ydch hG h1 h2 hRl hs hI)
end Sh
end
section
open Go.RowKit
theorem ykp(g:Gr)(G:List Int)(v:Nat):(ydi g G v).length=G.length:=by simp[ydi]
set_option maxHeartbeats 2000000 in
theorem ypb(gv cv Gv:Value)(g:Gr)(c:Conf)(G:List Int)(w:World)(hg:GrAt w gv g)(hc:ycvh w cv c)(hG:yko w Gv G)(hgood:ybe g) :
 Calls Tryz.prog 102 #[gv,cv,Gv] w fun e w'=>e = .returned (.bool (yoy g.ports.length (ydi g G) c))/\Below w.heap.size w w':=by
 have hn24:=hgood.2.1;have hid:=hgood.2.2.1;have Hid':=Lib.hid hid
 clear hgood
 obtain⟨i,p,rfl,hi,hp⟩:=hg;obtain⟨A,c0,rfl,hA1,hA2⟩:=yca hi;obtain⟨A2,c2,rfl,hB1,hB2⟩:=yca hp;obtain⟨A3,c3,rfl,hC1,hC2⟩:=yca hc;obtain⟨A4,c4,rfl,hD1,hD2⟩:=yca hG;have Hp:=Lib.hid hp;have Hc:=Lib.hid hc;have HG:=Lib.hid hG
 clear hi hp hc hG
 by_cases n1:c.length=g.ids.length
 ·have n1':((c.length:Int)!=(g.ids.length:Int))=false:=by simp[n1]
  have Hn:=Lib.hid (n1.trans hid);have hcn:c.length<=24:=by omega
  clear n1 hid
  go_enter Tryz.func102,Tryz.ntmps102
  go_wp2
  obtain⟨W1,hW1⟩:∃W,W=w.alloc (.cells #[.slice A g.ids.length c0,.slice A2 g.ports.length c2] 27):=⟨_,rfl⟩;have hbox:W1.cell? ⟨w.heap.size,1,none⟩=some (.slice A2 g.ports.length c2):=by subst hW1;simp
  have HbW:=Lib.hid (show Below w.heap.size w W1 by subst hW1;exact(Below.refl _ _).alloc (zD _) _)
  rw[<-hW1]
  clear hW1
  go_loopg [21] c.length (fun q t wr=>∃v n:Nat,q+v=c.length/\t = .int .i64 v/\wr=W1.drewN n/\Hid (∀(u:Nat) s,u<v->c[u]?=some s->yej (ydi g G u) s))
  case atStart=>exact⟨0,0,by omega,rfl,rfl,Lib.hid (fun u s hu=>absurd hu (by omega))⟩
  case round =>
   obtain⟨v,n,hq,rfl,rfl,hok⟩:=hrel
   by_cases hlt:v<c.length
   ·obtain⟨b3,off3,sv,rfl,hb3,hcs,hs⟩:=yna (Hc.out.below (Stable.sl Stable.int) HbW.out) (zB hlt);obtain⟨A5,c5,rfl,hE1,hE2⟩:=yca hs;obtain⟨s,hse⟩:∃s,c[v]=s:=⟨_,rfl⟩;have Hs?:=Lib.hid (show c[v]?=some s by rw[zB hlt,hse])
    rw[hse]at hs hcs hE1;have Hbad:=Lib.hid (show ¬yej (ydi g G v) s->yoy g.ports.length (ydi g G) c=false from fun h=>yin (fun hc=>h (hc.2 v s Hs?.out)))
    have Hs:=Lib.hid hs
    clear hs hse
    by_cases c1:s.length=G.length
    ·have c1':((s.length:Int)!=(G.length:Int))=false:=by simp[c1]
     have Hsl:=Lib.hid c1
     clear c1
     have hvp:v<g.ports.length:=by rw[<-Hn.out];exact hlt
     go_wp2
     obtain⟨go,rfl⟩:∃go,go=gk:=⟨_,rfl⟩
     go_loopg [33] s.length (fun q t wr=>∃x n:Nat,q+x=s.length/\t = .int .i64 x/\wr=W1.drewN n/\Hid (∀(j:Nat) b z,j<x->(ydi g G v)[j]?=some b->s[j]?=some z->b.1<=z/\z<=b.2))
     case atStart=>exact⟨0,n,by omega,rfl,rfl,Lib.hid (fun j b z hj=>absurd hj (by omega))⟩
     case round =>
      obtain⟨x,n,hqx,rfl,rfl,hst⟩:=hrel
      by_cases hxl:x<s.length
      ·have hxG:x<G.length:=by rw[<-Hsl.out];exact hxl
       obtain⟨b5,o5,rfl,hb5,hc5,hr5⟩:=yll (Hs.out) hxl;obtain⟨b6,o6,rfl,hb6,hc6,hr6⟩:=yll (HG.out.below Stable.int HbW.out) hxG;obtain⟨b7,o7,lv,rfl,hb7,hc7,hl7⟩:=yna (Hp.out.below (Stable.sl Stable.link) HbW.out) (zB hvp);obtain⟨A8,c8,rfl,hF1,hF2⟩:=yca hl7;obtain⟨ds,hds⟩:∃ds,g.ports[v]=ds:=⟨_,rfl⟩;have hdeg:ydax g v=ds.length:=by simp[ydax,zG,zB hvp,hds]
       rw[hds]at hc7 hF1;obtain⟨y,hy⟩:∃y,s[x]=y:=⟨_,rfl⟩;obtain⟨h,hh⟩:∃h,G[x]=h:=⟨_,rfl⟩;have Hy?:=Lib.hid (show s[x]?=some y by rw[zB hxl,hy])
       have hb?:(ydi g G v)[x]?=some (if h = -1 then(-1,(ds.length:Int)-1)else(0,h)):=by
        simp[ydi,hxG,hh,hdeg]
       rw[hy]at hc5 hr5;rw[hh]at hc6 hr6;obtain⟨hr5a,hr5b⟩:=hr5;obtain⟨hr6a,hr6b⟩:=hr6
       clear hl7 hds hdeg hy hh
       by_cases c2:h = -1
       ·have c2':(h == -1)=true:=by simp[c2]
        rw[if_pos c2]at hb?;have Hb?:=Lib.hid hb?
        clear hb? c2
        by_cases c3:y < -1
        ·have Hf:=Lib.hid (Hbad.out (fun h=>by have:=h.2 x _ y Hb?.out Hy?.out;simp only at this;omega))
         go_wp2
         go_quiet (fail)
         go_wp2
         go_quiet (fail)
         go_wp2
         go_ret
         exact⟨ybn Hf.out.symm,below_drewN HbW.out _⟩
        ·by_cases c4:(ds.length:Int)-1<y
         ·have Hf:=Lib.hid (Hbad.out (fun h=>by have:=h.2 x _ y Hb?.out Hy?.out;simp only at this;omega))
          go_wp2
          go_quiet (fail)
          go_wp2
          go_quiet (fail)
          go_wp2
          go_ret
          exact⟨ybn Hf.out.symm,below_drewN HbW.out _⟩
         ·have c4d:decide ((ds.length:Int)-1<y)=false:=by simp;omega
          go_wp2
          go_quiet (fail)
          go_wp2
          go_quiet (fail)
          go_wp2
          go_roundg (gk-1)
          case measure=>omega
          case rel =>
           refine⟨x+1,_,by omega,by go_num,rfl,Lib.hid (fun j b z hj hb hz=>?_)⟩
           by_cases hjx:j<x
           ·exact hst.out j b z hjx hb hz
           ·obtain rfl:j=x:=by omega
            rw[Hb?.out]at hb;rw[Hy?.out]at hz;cases hb
            cases hz
            simp only;omega
       ·have c2':(h == -1)=false:=by simp[c2]
        rw[if_neg c2]at hb?;have Hb?:=Lib.hid hb?
        clear hb? c2
        by_cases c3:y<0
        ·have Hf:=Lib.hid (Hbad.out (fun h=>by have:=h.2 x _ y Hb?.out Hy?.out;simp only at this;omega))
         go_wp2
         go_quiet (fail)
         go_wp2
         go_ret
         exact⟨ybn Hf.out.symm,below_drewN HbW.out _⟩
        ·by_cases c4:h<y
         ·have Hf:=Lib.hid (Hbad.out (fun h=>by have:=h.2 x _ y Hb?.out Hy?.out;simp only at this;omega))
          go_wp2
          go_quiet (fail)
          go_wp2
          go_ret
          exact⟨ybn Hf.out.symm,below_drewN HbW.out _⟩
         ·have c4d:decide (h<y)=false:=by simp;omega
          go_wp2
          go_quiet (fail)
          go_wp2
          go_roundg (gk-1)
          case measure=>omega
          case rel =>
           refine⟨x+1,_,by omega,by go_num,rfl,Lib.hid (fun j b z hj hb hz=>?_)⟩
           by_cases hjx:j<x
           ·exact hst.out j b z hjx hb hz
           ·obtain rfl:j=x:=by omega
            rw[Hb?.out]at hb;rw[Hy?.out]at hz;cases hb
            cases hz
            simp only;omega
      ·obtain rfl:x=s.length:=by omega
       go_wp2
       go_roundg (go-1)
       case measure=>omega
       case rel =>
        refine⟨v+1,_,by omega,by go_num,rfl,Lib.hid (fun u s' hu hs'=>?_)⟩
        by_cases huv:u<v
        ·exact hok.out u s' huv hs'
        ·obtain rfl:u=v:=by omega
         rw[Hs?.out]at hs';cases hs'
         refine⟨by rw[ykp,Hsl.out],fun j b z hb hz=>hst.out j b z (List.getElem?_eq_some_iff.1 hz).1 hb hz⟩
    ·have c1':((s.length:Int)!=(G.length:Int))=true:=by simp;omega
     have Hf:=Lib.hid (Hbad.out (fun h=>c1 (by rw[h.1,ykp])))
     clear c1
     go_wp2
     go_ret
     exact⟨ybn Hf.out.symm,below_drewN HbW.out _⟩
   ·obtain rfl:v=c.length:=by omega
    have Ht:=Lib.hid (ywm (n:=g.ports.length) (bs:=ydi g G) (c:=c) ⟨Hn.out,fun v s hs=>hok.out v s (List.getElem?_eq_some_iff.1 hs).1 hs⟩)
    go_wp2
    go_ret
    exact⟨ybn Ht.out.symm,below_drewN HbW.out _⟩
 ·have n1':((c.length:Int)!=(g.ids.length:Int))=true:=by simp;omega
  have Hf:=Lib.hid (yin (n:=g.ports.length) (bs:=ydi g G) (c:=c) (fun h=>n1 (h.1.trans hid.symm)))
  clear n1 hid
  go_enter Tryz.func102,Tryz.ntmps102
  go_wp2
  go_ret
  exact⟨ybn Hf.out.symm,(Below.refl _ _).alloc (zD _) _⟩
end
section
namespace Sh
open Ev Go.RowKit
def clmV(kind:Int)(fair silent:Bool)(rounds moves:Int):List SV:=[.i .i64 kind,.b fair,.b silent,.i .i64 rounds,.i .i64 moves]
theorem ycgk{g:Gr}(hg:ybe g){c:Conf}(hR:ycfy c){G:List Int}(hG:∀x∈G,I64 x):Returns Tryz.prog 102 [grV g,ybl c,yw G] (.b (yoy g.ports.length (ydi g G) c)):=by
 refine ybjy ⟨_,_,Tryz.func102,rfl⟩ (fun _=>.b) (fun _=>.simple rfl) fun H m us hH hr φ M w us' hRl hs hv=>?_
 obtain⟨u,us2,rfl,h1,h2⟩:∃u us2,us=u::us2/\RV H om0 (grV g) u/\RVL H om0 [ybl c,yw G] us2:=by
  cases hr with|cons x y=>exact⟨_,_,rfl,x,y⟩
 obtain⟨u2,u3,rfl,h3,h4⟩:=rvl2 h2
 obtain⟨u',us3,rfl,h5,h6⟩:∃u' us3,us'=u'::us3/\VR φ u u'/\VRL φ [u2,u3] us3:=by
  cases hv with|cons x y=>exact⟨_,_,rfl,x,y⟩
 obtain⟨u2',u3',rfl,h7,h8⟩:=yxo h6;exact ypb u' u2' u3' g c G w (ydch hH h1 h5 hRl hs (ydfg hg)) (ydcl hH h3 h7 hRl hs hR) (ints_at hH h4 h8 hRl hs hG) hg
end Sh
end
section
open Go.RowKit
end
section
open Go.RowKit
end
section
namespace Sh
open Ev Go.RowKit
theorem ybls(nm:ByteArray)(hi pn pi:Int):Returns Tryz.prog 79 [.a (.string nm),.i .i64 hi,.i .i64 pn,.i .i64 pi] (.ag (varC ⟨nm,1,0,hi,pn,pi⟩)):=by
 refine Returns.of (ydhr _ _ ?_);simp only[c79,ydnp,ydna,varC,go_sem,zA,zF,zM,zK,↓reduceIte,reduceCtorEq];exact Sim.refl _
end Sh
end
end Go.Proofs.YtiejahgklcjhkaaGreatDoor
