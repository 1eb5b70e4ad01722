/- Lemmas, joined: GraphC SgD SgQ SgR SgS ScWo SgT SgU Pa GraphD BfsA BfP Pg Ph Pb Pc. -/
import Derived.Test.YtiejahgklcjhkaaGreatDoorPkF13
import Derived.Test.YtiejahgklcjhkaaGreatDoorPkF8
import Derived.Test.YtiejahgklcjhkaaGreatDoorPkF11
import Derived.Test.YtiejahgklcjhkaaGreatDoorPkF12
set_option linter.unusedSimpArgs false
set_option linter.unusedVariables false
namespace Go.Proofs.YtiejahgklcjhkaaGreatDoor
open Go.RowKit

theorem yyc:Tryz.zeroCells195=Array.replicate 256 (.bool false):=by kernel_rfl

def Seen(w:World)(g:Nat)(S:List Int):Prop:=∃ cur,w.heap[g]? = some (.cells cur 195 (0,0))/\cur.size=256 /\ ∀ i:Nat,i<256->cur[i]? = some (.bool (decide ((i:Int) ∈ S)))

theorem Seen.cell{w:World}{g:Nat}{S:List Int}(h:Seen w g S){i:Nat}(hi:i<256):w.cell? ⟨g,i,none⟩=some (.bool (decide ((i:Int) ∈ S))):=by
 obtain⟨cur,h1,h2,h3⟩:=h;simp[World.cell?,h1,h3 i hi]
theorem Seen.frozen{w:World}{g:Nat}{S:List Int}(h:Seen w g S)(i:Nat):w.frozen? ⟨g,i,none⟩=false:=by
 obtain⟨cur,h1,h2,h3⟩:=h;simp[World.frozen?,h1]
theorem Seen.set_{w:World}{g:Nat}{S:List Int}(h:Seen w g S){i:Nat}:Seen (w.setCell ⟨g,i,none⟩ (.bool true)) g (S ++ [(i:Int)]):=by
 obtain⟨cur,h1,h2,h3⟩:=h;refine⟨cur.setIfInBounds i (.bool true),by simp[World.setCell,Array.getElem?_modify,h1],by simp[h2],fun j hj=>?_⟩
 rw[Array.getElem?_setIfInBounds];split
 ·subst_vars
  rw[if_pos (by omega)]
  simp
 ·rw[h3 j hj];congr 3;simp;omega

theorem Seen.start(w:World):Seen (w.alloc (.cells Tryz.zeroCells195 195)) w.heap.size []:=by
 refine⟨_,heap_alloc_new w _,by rw[yyc];simp,fun i hi=>?_⟩
 rw[yyc];simp[hi]

def ybcu(ids:List Int):Bool:=decide ((∀ x ∈ ids,0<=x/\x<=255)/\ids.Nodup)
def yrc(ids:List Int)(k:Nat):Prop:=(∀ x ∈ ids.take k,0<=x/\x<=255)/\(ids.take k).Nodup
theorem ybsf{ids:List Int}{k:Nat}(hk:k<ids.length):yrc ids (k+1) ↔ yrc ids k/\(0<=ids[k]/\ids[k]<=255)/\ids[k] ∉ ids.take k:=by
 unfold yrc;rw[take_snoc ids k hk,List.nodup_append];constructor
 ·rintro⟨h1,h2,_,h3⟩;exact⟨⟨fun x hx=>h1 x (List.mem_append_left _ hx),h2⟩,h1 _ (List.mem_append_right _ (by simp)),fun hm=>h3 _ hm _ (by simp) rfl⟩
 ·rintro⟨⟨h1,h2⟩,h3,h4⟩;refine⟨fun x hx=>?_,h2,by simp,fun a ha b hb e=>?_⟩
  ·rcases List.mem_append.1 hx with hx | hx
   ·exact h1 x hx
   ·simp at hx;subst hx;exact h3
  ·simp at hb;subst hb e;exact h4 ha
theorem ybdl{ids:List Int}{k:Nat}(h:¬ yrc ids k):ybcu ids=false:=by
 unfold ybcu;rw[decide_eq_false_iff_not];exact fun hd=>h ⟨fun x hx=>hd.1 x (List.mem_of_mem_take hx),hd.2.sublist (List.take_sublist _ _)⟩
theorem ybib{ids:List Int}(h:yrc ids ids.length):ybcu ids=true:=by
 unfold yrc at h;rw[List.take_length]at h;exact decide_eq_true h

set_option maxRecDepth 100000 in
set_option maxHeartbeats 1000000 in
theorem yop(iv:Value)(ids:List Int)(w:World)(hi:yjq w iv ids) :
  Calls Tryz.prog 152 #[iv] w fun e w'=>e = .returned (.bool (ybcu ids))/\Below w.heap.size w w':=by
 obtain⟨A,c,rfl,hA1,hA2⟩:=ybh hi;have Hi:=Lib.hid hi
 clear hi
 go_enter Tryz.func152,Tryz.ntmps152
 go_wp2
 go_loopg [8] ids.length (fun q t wr=>∃ k:Nat,q+k=ids.length/\t = .int .i64 k/\Hid (Below w.heap.size w wr)/\Hid (Seen wr w.heap.size (ids.take k))/\Hid (yrc ids k))
 case atStart=>exact⟨0,by omega,rfl,Lib.hid ((Below.refl _ _).alloc (Nat.le_refl _) _),Lib.hid (Seen.start w),Lib.hid ⟨by simp,by simp⟩⟩
 case round =>
  obtain⟨k,hq,rfl,hbel,hseen,hok⟩:=hrel
  by_cases hlt:k<ids.length
  ·obtain⟨b,off,rfl,hb,hcid,hr⟩:=ygi (Hi.out.below Stable.int hbel.out) hlt;obtain⟨x,hx⟩:∃ x,ids[k]=x:=⟨_,rfl⟩;have Hsn:=Lib.hid (ybsf hlt);rw[hx]at hcid hr Hsn;obtain⟨hr1,hr2⟩:=hr;have Hbad:=Lib.hid (fun h=>ybdl (ids:=ids) (k:=k+1) h);have Hts:=Lib.hid (take_snoc ids k hlt);rw[hx]at Hts
   clear hx
   by_cases c1:0<=x/\x<=255
   ·obtain⟨c1a,c1b⟩:=c1;obtain⟨n,rfl⟩:=Int.eq_ofNat_of_zero_le c1a;have hcs:=hseen.out.cell (i:=n) (by omega)
    have hfs:=hseen.out.frozen n
    by_cases c2:(n:Int) ∈ ids.take k
    ·rw[decide_eq_true c2]at hcs;have Hf:=Lib.hid (Hbad.out (fun h=>(Hsn.out.1 h).2.2 c2))
     clear c2
     go_wp2
     go_ret
     exact⟨yj Hf.out.symm,hbel.out⟩
    ·rw[decide_eq_false c2]at hcs;have Hn:=Lib.hid (Hsn.out.2 ⟨hok.out,⟨by omega,by omega⟩,c2⟩)
     clear c2
     go_wp2
     go_roundg (gk - 1)
     case measure=>omega
     case rel =>
      refine⟨k+1,by omega,by go_num,Lib.hid (hbel.out.setCell (Nat.le_refl _) _),Lib.hid ?_,Hn⟩
      rw[Hts.out];exact hseen.out.set_
   ·have Hf:=Lib.hid (Hbad.out (fun h=>c1 (Hsn.out.1 h).2.1))
    by_cases c3:x<0
    ·clear c1
     go_wp2
     go_ret
     exact⟨yj Hf.out.symm,hbel.out⟩
    ·have c4:255<x:=by omega
     clear c1
     go_wp2
     go_ret
     exact⟨yj Hf.out.symm,hbel.out⟩
  ·obtain rfl:k=ids.length:=by omega
   have Ht:=Lib.hid (ybib hok.out)
   go_wp2
   go_ret
   exact⟨yj Ht.out.symm,hbel.out⟩

theorem ybsk(g:Gr)(h1:1<=g.ids.length)(h2:g.ids.length<=24)(h3:g.ports.length=g.ids.length):ybt g=(ybcu g.ids && symB g.ports):=by
 unfold ybt ybcu symB;rw[<- Bool.decide_and];congr 1;apply propext;unfold GoodG ycav;constructor
 ·rintro⟨_,_,_,h4,h5,h6,h7⟩;exact⟨⟨h4,h5⟩,h6,h7⟩
 ·rintro⟨⟨h4,h5⟩,h6,h7⟩;exact⟨by omega,by omega,by omega,h4,h5,h6,h7⟩

set_option maxHeartbeats 1000000 in
theorem yboq(gv:Value)(g:Gr)(w:World)(hg:GrAt w gv g) :
  Calls Tryz.prog 96 #[gv] w fun e w'=>e = .returned (.bool (ybt g))/\Below w.heap.size w w':=by
 obtain⟨i,p,rfl,hi,hp⟩:=hg;obtain⟨A,c,rfl,hA1,hA2⟩:=ybh hi;obtain⟨A2,c2,rfl,hB1,hB2⟩:=ybh hp;have Hi:=Lib.hid hi;have Hp:=Lib.hid hp
 clear hi hp
 by_cases n1:1<=g.ids.length
 ·by_cases n2:g.ids.length<=24
  ·by_cases n3:g.ports.length=g.ids.length
   ·have n3':((g.ports.length:Int) != (g.ids.length:Int))=false:=by simp[n3]
    have He:=Lib.hid (ybsk g n1 n2 n3);have n3a:g.ports.length<=24:=by omega
    clear n3
    go_enter Tryz.func96,Tryz.ntmps96
    go_wp2_with fail
    refine(yop _ g.ids _ (Hi.out.below Stable.int ((Below.refl _ _).alloc (Nat.le_refl _) _))).mono ?_;rintro e w1 ⟨rfl,hb1⟩;have Hb1:=Lib.hid (ybhf hb1);obtain⟨q0,q1⟩:=ycay hb1
    clear hb1
    cases hd:ybcu g.ids with
    | false =>
     have Hv:=Lib.hid (show ybt g=false by rw[He.out,hd];rfl)
     go_wp2_with fail
     go_ret
     exact⟨yj Hv.out.symm,Hb1.out⟩
    | true =>
     have Hv:=Lib.hid (show ybt g=symB g.ports by rw[He.out,hd];rfl)
     go_wp2_with fail
     refine(ykn _ g.ports _ (Hp.out.below (Stable.sl Stable.link) Hb1.out) (by omega)).mono ?_
     rintro e w2 ⟨rfl,hb2⟩
     go_wp2_with fail
     go_ret
     exact⟨yj Hv.out.symm,Hb1.out.trans (hb2.mono Hb1.out.size)⟩
   ·have n3':((g.ports.length:Int) != (g.ids.length:Int))=true:=by simp;omega
    have Hf:=Lib.hid (ydc (g:=g) (fun h=>n3 h.2.2.symm))
    clear n3
    go_enter Tryz.func96,Tryz.ntmps96
    go_wp2
    go_ret
    exact⟨yj Hf.out.symm,(Below.refl _ _).alloc (Nat.le_refl _) _⟩
  ·have Hf:=Lib.hid (ydc (g:=g) (fun h=>n2 (by omega)))
   go_enter Tryz.func96,Tryz.ntmps96
   go_wp2
   go_ret
   exact⟨yj Hf.out.symm,(Below.refl _ _).alloc (Nat.le_refl _) _⟩
 ·have Hf:=Lib.hid (ydc (g:=g) (fun h=>n1 (by omega)))
  go_enter Tryz.func96,Tryz.ntmps96
  go_wp2
  go_ret
  exact⟨yj Hf.out.symm,(Below.refl _ _).alloc (Nat.le_refl _) _⟩
end Go.Proofs.YtiejahgklcjhkaaGreatDoor

namespace Go.Proofs.YtiejahgklcjhkaaGreatDoor
namespace Sh
open Go Ev Go.RowKit
set_option maxRecDepth 8000
theorem yfc{x:Int}(h:-4611686018427387904<=x/\x<=4611686018427387904):I64 x:=by
 unfold I64;omega
theorem ycaq{g:Gr}(hg:GoodG g):GrI g:=by
 obtain⟨h1,h2,h3,h4,h5,h6,h7⟩:=hg;refine⟨fun x hx=>yfc (by have:=h4 x hx;omega),fun ls hls l hl=>?_⟩
 obtain⟨v,hv,rfl⟩:=List.getElem_of_mem hls;obtain⟨a1,a2,a3,a4,a5⟩:=(h6 ⟨v,hv⟩).1 l hl;exact⟨yfc (by omega),yfc (by omega)⟩
theorem ymz{g:Gr}(hI:GrI g):Returns Tryz.prog 96 [grV g] (.b (ybt g)):=by
 refine ybfg ⟨_,_,Tryz.func96,rfl⟩ (fun _=>.b) (fun _=>.simple rfl) fun G m us hG hr φ M w us' hR hs hv=>?_;obtain⟨u,rfl,h1⟩:=rvl1 hr;obtain⟨u',rfl,h2⟩:=yen hv;exact yboq u' g w (ycxs hG h1 h2 hR hs hI)
end Sh
end Go.Proofs.YtiejahgklcjhkaaGreatDoor

namespace Go.Proofs.YtiejahgklcjhkaaGreatDoor
namespace Sh
open Go Ev Go.RowKit
set_option maxRecDepth 8000

theorem yboh{g:Gr}(hg:GoodG g){x:VarR}(hx:x.ok=true)(v:Nat):-4096<=(yu g v x).1/\(yu g v x).2<=100000:=by
 obtain⟨h1,h2,h3,h4,h5⟩:=ybet hx;obtain⟨h6,h7⟩:=ykj hg hx;have h8:=hg.deg_lt (v:=v);unfold yu;split
 ·exact⟨by simp only[];omega,by simp only[];omega⟩
 ·split
  ·exact⟨by simp only[];omega,by simp only[];omega⟩
  ·split
   ·exact⟨by simp only[];omega,by simp only[];omega⟩
   ·exact⟨by simp only[];omega,by simp only[];omega⟩
theorem ygy{p:ProgT}{g:Gr}(hg:GoodG g)(hp:p.ok=true){c:Conf}(hc:ydw p g c=true):ConfIn g.ports.length p.vars.length c:=by
 have h:=(ydy _ _ _).1 hc;have hp':=hp;unfold ProgT.ok at hp';simp only[Bool.and_eq_true,decide_eq_true_eq]at hp';refine⟨h.1.trans hg.2.2.1,fun s hs=>?_⟩;obtain⟨v,hv,rfl⟩:=List.getElem_of_mem hs;have h2:=h.2 v _ (List.getElem?_eq_getElem hv);have hl:(c[v]).length=p.vars.length:=by have:=h2.1;simpa using this
 refine⟨hl,fun x hx=>?_⟩;obtain⟨i,hi,rfl⟩:=List.getElem_of_mem hx;have hi':i<p.vars.length:=by omega
 have h3:=h2.2 i (yu g v p.vars[i]) _ (by simp[hi']) (List.getElem?_eq_getElem hi)
 have h4:=yboh hg (List.all_eq_true.1 hp'.1.1.2 _ (List.getElem_mem hi')) v;unfold InB;omega
structure Checked(Q1 Q2:(Nat->Option ABlk)->Value->Prop)(p:ProgT)(g:Gr):Prop where
 hg:GoodG g
 hp:p.ok=true
 hf:yvq p g=true
 hV:Returns Tryz.prog 191 [.ag (yct Q1 Q2 p.raw)] (.b true)
theorem Checked.gv{Q1 Q2:(Nat->Option ABlk)->Value->Prop}{p:ProgT}{g:Gr}(h:Checked Q1 Q2 p g):Returns Tryz.prog 96 [grV g] (.b true):=by
 have e:=ymz (ycaq h.hg);rw[(ybx g).2 h.hg]at e;exact e
section
variable {Q1 Q2:(Nat->Option ABlk)->Value->Prop} {p:ProgT} {g:Gr}
theorem ywz(h:Checked Q1 Q2 p g)(c:Conf):Returns Tryz.prog 112 [.ag (yct Q1 Q2 p.raw),grV g,rowsV c] (.i .i64 (if ydw p g c then 0 else 10)):=by
 refine Returns.of (yczt _ _ ?_);have hp':=h.hp;unfold ProgT.ok at hp';simp only[Bool.and_eq_true,decide_eq_true_eq]at hp';have hid:=h.hg.2.2.1;have h24:=h.hg.2.1;have hF:=ycau p h.hg h.hp h.hf h.hV h.gv;have hT:=yym p.raw h.hg hp'.1.1.2 hp'.1.1.1.2;have hW:=ybiz (n:=g.ids.length) p.vars (by omega) (yu g) c (by omega)
 simp only[yct,grV]at hF hT;simp only[c112,ycrn,ycex,yct,grV,go_sem,Nat.reduceEqDiff,Nat.reduceAdd,Nat.reduceLT,↓reduceIte,reduceCtorEq];refine hF.use ?_;simp only[thenO,ycmv,ycmp,ycou,go_sem,Nat.reduceEqDiff,Nat.reduceAdd,↓reduceIte,reduceCtorEq];refine⟨fun h=>absurd rfl h,hT.useS ?_ ?_⟩
 ·exact⟨ynt ⟨Sim.refl _,ykr _ _,ykr _ _,trivial⟩,Sim.refl _,trivial⟩
 simp only[yhh]at hW ⊢;simp only[go_sem,↓reduceIte];refine hW.use ?_;simp only[go_sem];have hcf:∀ b,yos g.ids.length (fun v=>p.vars.map (yu g v)) c=b->ydw p g c=b:=fun b h=>h;refine⟨fun h1=>?_,fun h1=>?_⟩
 ·simp only[ycnh,hcf _ h1,sim_i,go_sem,↓reduceIte]
 ·simp only[ycfr,hcf _ h1,sim_i,go_sem,↓reduceIte]
theorem ybkk(h:Checked Q1 Q2 p g)(c:Conf):Returns Tryz.prog 92 [.ag (yct Q1 Q2 p.raw),grV g,rowsV c] (.b (ydw p g c)):=by
 refine Returns.of (ydff _ _ ?_);have hC:=ywz h c;simp only[yct,grV]at hC;simp only[c92,yddo,yddr,yct,grV,go_sem,Nat.reduceEqDiff,Nat.reduceAdd,Nat.reduceLT,↓reduceIte,reduceCtorEq];refine hC.use ?_;simp only[thenO,sim_b,go_sem,Nat.reduceEqDiff,Nat.reduceAdd,↓reduceIte,reduceCtorEq];cases ydw p g c<;>rfl
theorem yhr(h:Checked Q1 Q2 p g){c:Conf}(hc:ydw p g c=true):Returns Tryz.prog 36 [.ag (yct Q1 Q2 p.raw),grV g,rowsV c] (.i .u32 (yw p g c)):=by
 refine Returns.of (ydhj _ _ ?_);have hp':=h.hp;unfold ProgT.ok at hp';simp only[Bool.and_eq_true,decide_eq_true_eq]at hp';have hM:=ybkk h c;rw[hc]at hM;have hN:=ynd p.raw h.hg hp'.1.1.2 hp'.1.1.1.2;have hE:=yhy p h.hg h.hp (ygy h.hg h.hp hc);simp only[yct,grV]at hM hN;simp only[c36,ydfa,ydbr,yct,grV,go_sem,Nat.reduceEqDiff,Nat.reduceAdd,Nat.reduceLT,↓reduceIte,reduceCtorEq]
 refine hM.use ?_;simp only[thenO,ydhf,ydfl,go_sem,Nat.reduceEqDiff,Nat.reduceAdd,↓reduceIte,reduceCtorEq];refine hN.useS ?_ ?_
 ·exact⟨ynt ⟨Sim.refl _,ykr _ _,ykr _ _,trivial⟩,Sim.refl _,trivial⟩
 simp only[go_sem,↓reduceIte];refine hE.use ?_;simp only[go_sem];exact Sim.refl _
theorem ybia(k:Int):Returns Tryz.prog 108 [.i .i64 k] (.b (decide (1<=k) && decide (k<=4))):=by
 refine Returns.of (ycyf _ _ ?_);simp only[c108,ycfp,ycgo,sim_b,go_sem,Nat.reduceEqDiff,Nat.reduceAdd,↓reduceIte,reduceCtorEq]
 by_cases h:k >= 1<;>simp[h]

end
end Sh
end Go.Proofs.YtiejahgklcjhkaaGreatDoor

namespace Go.Proofs.YtiejahgklcjhkaaGreatDoor
open Go

theorem ykm(s a:Nat):∀ b,ydz s (a+b)=ydz s a+ydz (s >>> a) b
 | 0=>rfl
 | b+1=>by
  show ydz s (a+b)+(s.testBit (a+b)).toNat=_;rw[ykm s a b];show _=ydz s a+(ydz (s >>> a) b+((s >>> a).testBit b).toNat);rw[Nat.testBit_shiftRight];omega
theorem ylo(s:Nat):∀ b,b<=8->ydz (s &&& 255) b=ydz s b
 | 0,_=>rfl
 | b+1,h=>by
  show ydz _ b+_=ydz s b+_;rw[ylo s b (by omega),Nat.testBit_and,show(255:Nat)=2 ^ 8 - 1 from rfl,Nat.testBit_two_pow_sub_one]
  simp[show b<8 by omega]
theorem ybkr(s:Nat):popP s=ydz (s >>> 24 &&& 255) 8+ydz (s >>> 16 &&& 255) 8+ydz (s >>> 8 &&& 255) 8+ydz (s &&& 255) 8:=by
 simp only[ylo _ 8 (Nat.le_refl _)];have h1:=ykm s 8 24;have h2:=ykm (s >>> 8) 8 16;have h3:=ykm (s >>> 8 >>> 8) 8 8;simp only[<- Nat.shiftRight_add,Nat.reduceAdd]at h1 h2 h3;unfold popP;omega
namespace Sh
open Ev Go.RowKit
set_option maxRecDepth 8000
theorem yvo:∀ k,k<256->ytu.getD k 0=ydz k 8:=by decide
theorem ycya:ytu.length=256:=by decide
theorem ycua(a v:Nat):(a:Int).fdiv (2 ^ v)=((a >>> v:Nat):Int):=by
 have h:=ybov (a:=a) (v:=v)
 rwa [Int.toNat_natCast]at h
theorem yccd{a:Nat}(ha:a<2 ^ 32):IntKind.wrap .u32 (((BitVec.ofInt (IntKind.bits .u32) (a:Int)) &&& BitVec.ofInt (IntKind.bits .u32) 255).toNat:Int)=((a &&& 255:Nat):Int):=u32_and (b:=255) ha (by decide)
theorem ydar{a n:Nat}(h:a<2 ^ 32):a >>> n<2 ^ 32:=by rw[Nat.shiftRight_eq_div_pow];exact Nat.lt_of_le_of_lt (Nat.div_le_self _ _) h
theorem ycad{s:Nat}(hs:s<2 ^ 32):Returns Tryz.prog 104 [.i .u32 s] (.i .i64 (popP s)):=by
 refine Returns.of (ycwm _ _ ?_);simp only[c104,yccm,ycqy,clash,go_sem,Int.reduceToNat,Nat.reduceEqDiff,Nat.reduceAdd,↓reduceIte,reduceCtorEq];have f1:=yccd hs;have f2:=fun n=>yccd (ydar (n:=n) hs);simp only[IntKind.bits]at f1 f2;simp only[ycua,f1,f2,Int.toNat_natCast,ycya];have hp:=ybkr s;have l1:s >>> 24<256:=by rw[Nat.shiftRight_eq_div_pow];omega
 have b1:∀ x:Nat,x &&& 255<256:=fun x=>Nat.lt_of_le_of_lt Nat.and_le_right (by omega)
 rw[ylo (s >>> 24) 8 (Nat.le_refl _)]at hp;rw[yvo _ l1,yvo _ (b1 (s >>> 16)),yvo _ (b1 (s >>> 8)),yvo _ (b1 s)];have q1:=yib (s >>> 24) 8;have q2:=yib (s >>> 16 &&& 255) 8;have q3:=yib (s >>> 8 &&& 255) 8;have q4:=yib (s &&& 255) 8;have w1:=b1 (s >>> 16);have w2:=b1 (s >>> 8);have w3:=b1 s;have u8k:∀ x:Int,0<=x->x<=255->inK .u8 x:=fun x h1 h2=>⟨by simpa [IntKind.min,IntKind.signed]using h1,by simpa [IntKind.max,IntKind.bits,IntKind.signed]using h2⟩
 refine⟨⟨by omega,by decide⟩,⟨by omega,by omega⟩,⟨by omega,by decide⟩,by omega,u8k _ (by omega) (by omega),⟨by omega,by decide⟩,by omega,u8k _ (by omega) (by omega),by omega,u8k _ (by omega) (by omega),?_⟩
 rw[wrap_in (ikw (by omega) (by omega)),hp]
 exact Sim.refl _
def cntV(k:Cnt):List SV:=[.i .i64 k.steps,.i .i64 k.moves,.i .i64 k.rounds,.i .i64 k.begun,.i .u32 k.pend]
theorem yboj{e:Nat}(he:e<2 ^ 24):Returns Tryz.prog 195 [.i .u32 e] (.ag (cntV (ycs e))):=by
 refine Returns.of (ycvc _ _ ?_);simp only[c195,yccy,ycrh,go_sem,Nat.reduceEqDiff,Nat.reduceAdd,Nat.reduceLT,↓reduceIte,reduceCtorEq];have e1:e &&& 16777215=e:=by rw[show(16777215:Nat)=2 ^ 24 - 1 from rfl,Nat.and_two_pow_sub_one_of_lt_two_pow he]
 have e2:IntKind.wrap .u32 (((BitVec.ofInt (IntKind.bits .u32) (e:Int)) &&& BitVec.ofInt (IntKind.bits .u32) 16777215).toNat:Int)=((e &&& 16777215:Nat):Int):=u32_and (b:=16777215) (by omega) (by decide)
 simp only[IntKind.bits]at e2;rw[e2,e1];exact Sim.refl _
def usV(l:List Nat):SV:=.sl 1 l.length (fun k=>[.i .u32 ((l.getD k 0:Nat):Int)])
theorem ydkc{a:Nat}(ha:a<2 ^ 24):IntKind.wrap .u32 (((BitVec.ofInt (IntKind.bits .u32) (a:Int)) &&& ~~~BitVec.ofInt (IntKind.bits .u32) 16777215).toNat:Int)=0:=by
 have h:=u32_andNot (a:=a) (b:=16777215) (by omega) (by decide)
 have e:difB a 16777215=0:=by
  rw[ybp];intro i;rw[yik,show(16777215:Nat)=2 ^ 24 - 1 from rfl,Nat.testBit_two_pow_sub_one]
  by_cases hi:i<24
  ·simp[hi]
  ·rw[Nat.testBit_lt_two_pow (Nat.lt_of_lt_of_le ha (Nat.pow_le_pow_right (by omega) (by omega)))]
   rfl
 rw[e]at h;exact h
theorem possible_ret(l:List Nat)(hl:l.length<=10)(h:∀ k,k<l.length->l.getD k 0<2 ^ 24):Returns Tryz.prog 223 [usV l] (.b true):=by
 refine Returns.of (ycxq _ _ ?_);simp only[c223,ycgn,ycgl,usV,go_sem,Nat.reduceAdd,↓reduceIte,reduceCtorEq];refine loop_on (σ:=Nat) (fun k=>⟨[(7,.i .i64 k),(6,.i .i64 l.length),(5,usV l)],[]⟩) (fun k=>k<=l.length) (fun k=>l.length - k) 0 (Nat.zero_le _) ?_ ?_
 ·refine weak_all [] [] [] ?_;simp only[usV,allQ,live,sim_self,Int.natCast_zero,go_sem,Nat.reduceEqDiff,↓reduceIte,reduceCtorEq]
 ·intro k hk;simp only[ycez,ycge,ycey,ycoz,usV,go_sem,Nat.reduceEqDiff,Nat.reduceAdd,↓reduceIte,reduceCtorEq];refine⟨fun hlt=>?_,fun hlt=>?_⟩
  ·have hk':k<l.length:=by omega
   have e0:=ydkc (h k hk');simp only[IntKind.bits]at e0;rw[e0];refine⟨⟨by omega,by omega⟩,fun h=>absurd rfl h,fun _=>?_⟩
   simp only[yccq,go_sem,Nat.reduceEqDiff,Nat.reduceAdd,↓reduceIte,reduceCtorEq];refine⟨ikw (by omega) (by omega),?_⟩
   refine loop_again (k+1) (by omega) (by omega) ?_
   refine weak_all [] [] [] ?_;simp only[allQ,live,sim_self,sim_i,go_sem,Nat.reduceEqDiff,↓reduceIte,reduceCtorEq];omega
  ·simp only[ycne,sim_b,go_sem,↓reduceIte]
theorem CValid_ret {k : Cnt} (hk : k.ok) (hs : k.steps <= 4096) : Returns Tryz.prog 222 [.ag (cntV k)] (.b true) := by
  refine Returns.of (c222_ok _ _ ?_)
  obtain ⟨h1, h2, h3, h4, h5, h6⟩ := hk
  have hP := possible_ret [k.pend] (by simp) (fun i hi => by have : i = 0 := by simp at hi; omega
                                                             subst this; exact h6)
  have f1 : decide ((k.steps : Int) < 0) = false := by simp
  have f2 : decide ((k.steps : Int) > 4096) = false := by simp; omega
  have f3 : decide ((k.rounds : Int) < 0) = false := by simp
  have f4 : decide ((k.rounds : Int) > k.begun) = false := by simp; omega
  have f5 : decide ((k.begun : Int) > k.steps) = false := by simp; omega
  have f6 : decide ((k.begun : Int) > k.rounds + 1) = false := by simp; omega
  have f7 : decide ((k.steps : Int) <= k.moves) = true := by simp; omega
  have f8 : decide ((k.moves : Int) <= 24 * k.steps) = true := by simp; omega
  simp (maxSteps := 5000000) only [c222, c222_0, c222_1, cntV, f1, f2, f3, f4, f5, go_sem, Nat.reduceEqDiff, Nat.reduceAdd, Nat.reduceLeDiff, Nat.reduceLT, ↓reduceIte, reduceCtorEq]
  simp only [c222_3, f6, go_sem, Nat.reduceEqDiff, Nat.reduceAdd, Nat.reduceLeDiff, ↓reduceIte, reduceCtorEq]
  refine ⟨ikw (by omega) (by omega), ?_⟩
  simp (maxSteps := 5000000) only [c222_5, f7, f8, go_sem, Nat.reduceEqDiff, Nat.reduceAdd, Nat.reduceLeDiff, Nat.reduceLT, ↓reduceIte, reduceCtorEq]
  refine ⟨ikw (by omega) (by omega), ?_⟩
  refine .inl ⟨fun q hq => ?_, hP.useS ?_ ?_⟩
  · obtain rfl : q = 0 := by omega
    simp only [go_sem]
  · exact ⟨sim_sl fun q hq => by obtain rfl : q = 0 := by omega
                                 rfl, trivial⟩
  simp only [thenO, sim_b, go_sem, Nat.reduceEqDiff, Nat.reduceAdd, ↓reduceIte, reduceCtorEq]
theorem ycsn{k:Cnt}(hk:k.ok)(hs:k.steps<4096){s e:Nat}(h0:s ≠ 0)(hs24:s<2 ^ 24)(he:e<2 ^ 24):Returns Tryz.prog 197 [.ag (cntV k),.i .u32 s,.i .u32 e] (.tp [.ag (cntV (addP k s e)),.i .i64 0]):=by
 refine Returns.of (ycza _ _ ?_);have hV:=CValid_ret hk (by omega)
 have hO:=ycad (s:=s) (by omega)
 have hP:=possible_ret [s,e] (by simp) (fun i hi=>by
  have:i=0\/i=1:=by simp at hi;omega
  rcases this with rfl | rfl
  ·exact hs24
  ·exact he)
 obtain⟨h1,h2,h3,h4,h5,h6⟩:=hk;simp only[cntV]at hV;simp only[c197,ycov,ycen,cntV,go_sem,Nat.reduceEqDiff,Nat.reduceAdd,Nat.reduceLT,↓reduceIte];refine hV.use ?_;have z0:((s:Int) == 0)=false:=by simp;omega
 simp only[thenO,ycgq,z0,go_sem,Nat.reduceEqDiff,Nat.reduceAdd,Nat.reduceLeDiff,Nat.reduceLT,↓reduceIte,reduceCtorEq];refine .inl ⟨fun q hq=>?_,hP.useS ?_ ?_⟩
 ·have:q=0\/q=1:=by omega
  rcases this with rfl | rfl
  ·simp only[go_sem]
  ·simp only[go_sem]
 ·exact⟨sim_sl fun q hq=>by
   have:q=0\/q=1:=by omega
   rcases this with rfl | rfl<;>rfl,trivial⟩
 have z1:((k.steps:Int) == 4096)=false:=by simp;omega
 simp only[ycdy,ycft,z1,go_sem,Nat.reduceEqDiff,Nat.reduceAdd,Nat.reduceLeDiff,↓reduceIte,reduceCtorEq];refine⟨ikw (by omega) (by omega),?_⟩
 simp only[ycfi,clash,go_sem,Nat.reduceEqDiff,Nat.reduceAdd,Nat.reduceLeDiff,↓reduceIte,reduceCtorEq];refine hO.use ?_;have hpop:=ybpv s hs24;have a1:=u32_andNot (a:=k.pend) (b:=s) (by omega) (by omega)
 have hd:difB k.pend s<2 ^ 24:=ybco h6;have a2:=u32_and (a:=difB k.pend s) (b:=e) (by omega) (by omega)
 obtain⟨P,hPe⟩:∃ P,difB k.pend s &&& e=P:=⟨_,rfl⟩;rw[hPe]at a2;simp only[IntKind.bits]at a1 a2;simp only[thenO,go_sem,Nat.reduceEqDiff,Nat.reduceAdd,Nat.reduceLeDiff,↓reduceIte,reduceCtorEq];refine⟨ikw (by omega) (by omega),?_⟩
 simp only[ycmo,ybpx,ybmw,a1,a2,go_sem,Nat.reduceEqDiff,Nat.reduceAdd,Nat.reduceLeDiff,↓reduceIte,reduceCtorEq];refine⟨by decide,ikw (by omega) (by omega),fun hP0=>?_,fun hP0=>?_⟩
 ·have hP1:P=0:=by omega
  have ea:addP k s e=⟨k.steps+1,k.moves+popP s,k.rounds+1,k.rounds+1,e⟩:=by unfold addP;simp only[hPe,hP1,if_true]
  rw[ea];simp only[ybtw,ybqs,ybcn,go_sem,Nat.reduceEqDiff,Nat.reduceAdd,Nat.reduceLeDiff,↓reduceIte,reduceCtorEq];exact Sim.refl _
 ·have hP1:¬ P=0:=by omega
  have ea:addP k s e=⟨k.steps+1,k.moves+popP s,k.rounds,k.rounds+1,P⟩:=by unfold addP;simp only[hPe,if_neg hP1]
  rw[ea];simp only[ybcn,go_sem,Nat.reduceEqDiff,Nat.reduceAdd,↓reduceIte];exact Sim.refl _
end Sh
end Go.Proofs.YtiejahgklcjhkaaGreatDoor

namespace Go.Proofs.YtiejahgklcjhkaaGreatDoor
open Go
def netP(ls:List (Int × Int)):Nat:=ls.foldl (fun a l=>a ||| 2 ^ l.1.toNat) 0
theorem ybnk(ls:List (Int × Int))(k:Nat)(h:k<ls.length):netP (ls.take (k+1))=netP (ls.take k) ||| 2 ^ (ls.getD k (0,0)).1.toNat:=by
 unfold netP;rw[List.take_succ_eq_append_getElem h,List.foldl_append,Sh.getD_at h];rfl
theorem ycyj(ls:List (Int × Int))(h:∀ l ∈ ls,l.1<24):netP ls<2 ^ 24:=by
 unfold netP
 have:∀ (ls:List (Int × Int)) (a:Nat),(∀ l ∈ ls,l.1<24)->a<2 ^ 24->ls.foldl (fun a l=>a ||| 2 ^ l.1.toNat) a<2 ^ 24:=by
  intro ls
  induction ls with
  | nil=>intro a _ h;exact h
  | cons l ls ih =>
   intro a hl ha;refine ih _ (fun x hx=>hl x (List.mem_cons_of_mem _ hx)) (Nat.or_lt_two_pow ha ?_);have:=hl l List.mem_cons_self;exact Nat.pow_lt_pow_right (by omega) (by omega)
 exact this ls 0 h (by decide)
namespace Sh
open Ev Go.RowKit
set_option maxRecDepth 8000
theorem u32k{a:Nat}(h:a<2 ^ 32):inK .u32 (a:Int):=⟨by simp[IntKind.min,IntKind.signed],by simp[IntKind.max,IntKind.bits,IntKind.signed];omega⟩
theorem yczu{g:Gr}(hg:GoodG g):Returns Tryz.prog 109 [grV g] (.i .u32 (2 ^ g.ids.length - 1:Nat)):=by
 refine Returns.of (ycwt _ _ ?_);have h3:=hg.2.2.1;have h4:=hg.2.1;simp only[c109,ycha,ycqu,grV,intsV,go_sem,Nat.reduceEqDiff,Nat.reduceAdd,Nat.reduceLeDiff,Nat.reduceLT,↓reduceIte,reduceCtorEq];have h5:=ypc (v:=g.ids.length) (by omega)
 rw[Int.toNat_natCast]at h5;have h6:2 ^ g.ids.length<2 ^ 32:=Nat.pow_lt_pow_right (by omega) (by omega)
 have h7:1<=2 ^ g.ids.length:=Nat.one_le_two_pow;have h8:(((2 ^ g.ids.length:Nat):Int)) - 1=((2 ^ g.ids.length - 1:Nat):Int):=by omega
 rw[h5,h8];refine⟨⟨by omega,by show _<((32:Nat):Int);omega⟩,u32k (by omega),Sim.refl _⟩
theorem ybiu{g:Gr}(hg:GoodG g):Returns Tryz.prog 110 [grV g] (usV (g.ports.map netP)):=by
 refine Returns.of (ycuj _ _ ?_);have h3:=hg.2.2.1;have h4:=hg.2.1;simp only[c110,ycnk,ycde,ycgu,grV,intsV,portsV,go_sem,Nat.reduceEqDiff,Nat.reduceAdd,Nat.reduceLT,↓reduceIte,reduceCtorEq];refine⟨by omega,?_⟩
 obtain⟨n,hn⟩:∃ n,g.ports.length=n:=⟨_,rfl⟩
 let val:Nat->Nat->Nat:=fun k i=>if i<k then netP (g.ports.getD i [])else 0
 refine loop_on (σ:=Nat) (fun k=>⟨[(15,.i .i64 k),(14,.i .i64 n),(13,portsV g.ports),(3,.os (11,0) 0 n true)],
  [(11,.one (some ⟨40,false,1,n,fun i=>[.i .u32 (val k i:Nat)]⟩))]⟩) (fun k=>k<=n) (fun k=>n - k) 0 (Nat.zero_le _) ?_ ?_
 ·refine weak_all [] [] [] ?_;simp only[portsV,hn,allQ,live,sim_self,sim_i,Int.natCast_zero,go_sem,Nat.reduceEqDiff,↓reduceIte,reduceCtorEq];simp[val]
 ·intro k hk;obtain⟨L,hL⟩:∃ L,g.ports.getD k []=L:=⟨_,rfl⟩;simp only[ycem,ychn,ycqz,portsV,yg,hn,hL,go_sem,Nat.reduceEqDiff,Nat.reduceAdd,↓reduceIte,reduceCtorEq];refine⟨fun hlt=>?_,fun hlt=>?_⟩
  ·have hk':k<n:=by omega
   have hkp:k<g.ports.length:=by omega
   have hlk:∀ l ∈ L,0<=l.1/\l.1<24:=fun l hl=>by
    rw[<- hL,getD_at hkp]at hl;obtain⟨a1,a2,_⟩:=(hg.2.2.2.2.2.1 ⟨k,hkp⟩).1 l hl;exact⟨a1,by omega⟩
   have hdeg:=hg.deg_lt (v:=k);rw[hL]at hdeg;refine⟨by omega,?_⟩
   obtain⟨m,hm⟩:∃ m,L.length=m:=⟨_,rfl⟩;rw[hm]
   let val2:Nat->Nat->Nat:=fun j i=>if i<k then netP (g.ports.getD i [])else if i=k then netP (L.take j)else 0
   refine loop_on (σ:=Nat) (fun j=>⟨[(22,.i .i64 j),(21,.i .i64 m),(20,yg L),(4,.i .i64 k),(15,.i .i64 k),(14,.i .i64 n),(13,portsV g.ports),(3,.os (11,0) 0 n true)],
    [(11,.one (some ⟨40,false,1,n,fun i=>[.i .u32 (val2 j i:Nat)]⟩))]⟩) (fun j=>j<=m) (fun j=>m - j) 0 (Nat.zero_le _) ?_ ?_
   ·refine weak_all [] [] [] ?_;simp only[portsV,yg,hn,hm,allQ,live,sim_self,sim_i,Int.natCast_zero,go_sem,Nat.reduceEqDiff,↓reduceIte,reduceCtorEq];intro i hi;simp only[val,val2]
    by_cases q:i<k
    ·rw[if_pos q,if_pos q]
    ·rw[if_neg q,if_neg q]
     by_cases q2:i=k
     ·rw[if_pos q2];rfl
     ·rw[if_neg q2]
   ·intro j hj;obtain⟨l,hl⟩:∃ l,L.getD j (0,0)=l:=⟨_,rfl⟩;simp only[ycnt,ycpt,portsV,yg,hn,hm,hl,go_sem,Nat.reduceEqDiff,Nat.reduceAdd,Nat.reduceLT,↓reduceIte,reduceCtorEq];refine⟨fun hlj=>⟨by omega,?_⟩,fun hlj=>?_⟩
    ·have hj':j<L.length:=by omega
     have hl2:=hlk l (by rw[<- hl,getD_at hj'];exact List.getElem_mem _)
     obtain⟨t,ht⟩:∃ t:Nat,l.1=t:=⟨l.1.toNat,by omega⟩
     have h24t:t<24:=by omega
     have hval:val2 j k<2 ^ 24:=by
      simp only[val2,if_neg (Nat.lt_irrefl k),if_true];exact ycyj _ fun l hl=>(hlk l (List.mem_of_mem_take hl)).2
     have hp:2 ^ t<2 ^ 24:=Nat.pow_lt_pow_right (by omega) h24t
     have hsh:=ypc (v:=t) (by omega)
     have hor:=u32_or (a:=val2 j k) (b:=2 ^ t) (by omega) (by omega)
     rw[Int.toNat_natCast]at hsh;simp only[IntKind.bits]at hor;simp only[ycfl,ht,clash,hsh,hor,go_sem,Nat.reduceEqDiff,Nat.reduceAdd,Nat.reduceLeDiff,↓reduceIte,reduceCtorEq];refine⟨by omega,by omega,⟨by omega,by show _<((32:Nat):Int);omega⟩,by omega,by omega,by decide,?_⟩
     simp only[ycrs,go_sem,Nat.reduceEqDiff,Nat.reduceAdd,↓reduceIte,reduceCtorEq];refine⟨ikw (by omega) (by omega),?_⟩
     refine loop_again (j+1) (by omega) (by omega) ?_
     refine weak_all [] [] [] ?_;simp only[allQ,live,sim_self,sim_i,go_sem,Nat.reduceEqDiff,↓reduceIte,reduceCtorEq];refine⟨by omega,fun i hi=>?_⟩
     have hsn:=ybnk L j hj';rw[hl,ht,Int.toNat_natCast]at hsn
     by_cases q:i=k
     ·simp only[if_pos q];subst q;simp only[go_sem,live,sim_i,go_sem,reduceCtorEq];simp only[val2,if_neg (Nat.lt_irrefl i),if_true,hsn]
     ·simp only[if_neg q];simp only[go_sem,live,sim_i,go_sem,reduceCtorEq];simp only[val2,if_neg q]
    ·obtain rfl:j=m:=by omega
     simp only[ybuw,go_sem,Nat.reduceEqDiff,Nat.reduceAdd,↓reduceIte,reduceCtorEq];refine⟨ikw (by omega) (by omega),?_⟩
     refine loop_again (k+1) (by omega) (by omega) ?_
     refine weak_all [] [] [] ?_;simp only[allQ,live,sim_self,sim_i,go_sem,Nat.reduceEqDiff,↓reduceIte,reduceCtorEq];refine⟨by omega,fun i hi=>?_⟩
     simp only[val,val2]
     by_cases q:i<k
     ·rw[if_pos q,if_pos (by omega)]
     ·rw[if_neg q]
      by_cases q2:i=k
      ·rw[if_pos q2,if_pos (by omega),q2,hL,<- hm,List.take_length]
      ·rw[if_neg q2,if_neg (by omega)]
  ·obtain rfl:k=n:=by omega
   simp only[ybql,go_sem,Nat.reduceEqDiff,Nat.reduceAdd,↓reduceIte,reduceCtorEq];unfold usV;rw[List.length_map,hn];refine sim_sl fun i hi=>?_;have hi':i<g.ports.length:=by omega
   simp only[val,if_pos hi];simp[List.getD,hi']
end Sh
end Go.Proofs.YtiejahgklcjhkaaGreatDoor

namespace Go.Proofs.YtiejahgklcjhkaaGreatDoor
namespace Sh
open Go Ev
def yddk:LO:=[o3 (.mv (ci' 0)) 4 0]
def ydhk:LO:=[mv' 1 5 0,o3 (.bin .lss (.tmp 5) (ci' 1)) 6 1]
def ydeh:LO:=[o3 (.mv (ci' 0)) 4 0]
def ydfi:LO:=[mv' 0 7 0,mv' 1 8 0,bn' .rem 7 8 9 3,mv' 9 0 7]
def ydcd:LO:=[mv' 0 10 0,o3 (.bin .lss (.tmp 10) (ci' 0)) 11 1]
def ydhc:LO:=[mv' 0 12 0,mv' 1 13 0,bn' .add 12 13 14 3,mv' 14 0 7]
def yder:LO:=[mv' 0 15 0,mv' 15 4 1]
def c39:SC:=(.seq (.reg false yddk) (.seq (.seq (.reg false ydhk) (.cond (.tmp 6) (.seq (.reg false ydeh) .ret) .skip)) (.seq (.reg false ydfi) (.seq (.seq (.reg false ydcd) (.cond (.tmp 11) (.reg false ydhc) .skip)) (.seq (.reg false yder) .ret)))))
theorem ydhv:Fn 39 c39 [.t 4]:=fn_0 Tryz.func39 (by kernel_rfl) (by kernel_rfl)
def yczw:LO:=[o3 (.mv (ci' 0)) 4 0]
def ydhl:LO:=[mv' 1 5 0,mv' 0 6 0,ln' 6 7 2,bn' .lss 5 7 8 7]
def yddg:LO:=[mv' 0 9 0,mv' 1 10 0,ix' 1 9 10 11 3,ld' false 1 11 12 7,mv' 12 4 15]
def yddh:LO:=[o3 (.mv (ci' 0)) 4 0]
def c77:SC:=(.seq (.reg false yczw) (.seq (.seq (.reg false ydhl) (.cond (.tmp 8) (.seq (.reg false yddg) .ret) .skip)) (.seq (.reg false yddh) .ret)))
theorem yddw:Fn 77 c77 [.t 4]:=fn_0 Tryz.func77 (by kernel_rfl) (by kernel_rfl)
def ycpn:LO:=[o3 (.box 27 (.tmp 0)) 3 0,o3 (.mv (.const (.bool false))) 6 0]
def ycnn:LO:=[o3 (.mv (ci' 0)) 7 0]
def ycsb:LO:=[mv' 7 8 0,fa' 1 1 3 9 0,ld' false 1 9 10 2,mv' 1 11 0,ix' 1 10 11 12 14,ld' false 1 12 13 30,ln' 13 14 62,bn' .lss 8 14 15 127]
def ycda:LO:=[fa' 1 1 3 18 0,ld' false 1 18 19 1,mv' 1 20 0,ix' 1 19 20 21 7,ld' false 1 21 22 15,mv' 7 23 0,ix' 2 22 23 24 63,fa' 0 1 24 25 127,ld' false 1 25 26 255,mv' 2 27 0,bn' .eql 26 27 28 1023]
def ycfs:LO:=[o3 (.mv (.const (.bool true))) 6 0]
def ycqd:LO:=[mv' 7 16 0,o3 (.bin .add (.tmp 16) (ci' 1)) 17 1,mv' 17 7 3]
def ycqb:LO:=[o3 (.mv (.const (.bool false))) 6 0]
def c128:SC:=(.seq (.reg false ycpn) (.seq (.seq (.reg false ycnn) (.block 0 (.loop (.seq (.seq (.reg false ycsb) (.cond (.tmp 15) .skip (.exit 0))) (.seq (.block 1 (.seq (.reg false ycda) (.cond (.tmp 28) (.seq (.reg false ycfs) .ret) .skip))) (.reg false ycqd)))))) (.seq (.reg false ycqb) .ret)))
theorem yczr:Fn 128 c128 [.t 6]:=fn_0 Tryz.func128 (by kernel_rfl) (by kernel_rfl)
def ycvo:LO:=[o3 (.box 24 (.tmp 0)) 5 0,o3 (.box 27 (.tmp 1)) 6 0]
def ycuv:LO:=[mv' 2 12 0,mv' 3 13 0,bn' .eql 12 13 14 3,mv' 14 15 7,⟨.load true 2 (.tmp 6),some 16,some (15,false),15⟩,⟨.mv (.tmp 2),some 17,some (15,false),15⟩,⟨.mv (.tmp 3),some 18,some (15,false),15⟩,⟨.call (.func 128) [(.tmp 16),(.tmp 17),(.tmp 18)],some 19,some (15,false),127⟩,o3 (.pick (.tmp 15) (.const (.bool true)) (.tmp 19)) 20 255]
def ybli:LO:=[mv' 3 21 0,mv' 4 22 0,o3 (.build [.i .i64 0,.i .i64 0] [(0,1,(.tmp 21)),(1,1,(.tmp 22))]) 23 3,mv' 2 24 0,mv' 4 25 0,o3 (.build [.i .i64 0,.i .i64 0] [(0,1,(.tmp 24)),(1,1,(.tmp 25))]) 26 24,o3 (.alloc 95 1 [.i .i64 0,.i .i64 0]) 10 0,o3 (.alloc 95 1 [.i .i64 0,.i .i64 0]) 11 0,o0 (.store 2 (.tmp 10) (.tmp 23)) 199,o0 (.store 2 (.tmp 11) (.tmp 26)) 511]
def ybln:LO:=[fa' 5 1 5 27 0,ld' false 1 27 28 1]
def ybno:LO:=[fa' 1 1 6 29 0,ld' false 1 29 30 1,mv' 2 31 0,ld' true 2 10 32 0,o3 (.bslice 95 2 1 [.i .i64 0,.i .i64 0] [(0,2,(.tmp 32))]) 33 8,fa' 1 1 6 34 0,ld' false 1 34 35 32,mv' 2 36 0,ix' 1 35 36 37 224,ld' false 1 37 38 480,o3 (.app 95 2 16 (.tmp 33) (.tmp 38)) 39 1016,ix' 1 30 31 40 2047,o0 (.store 1 (.tmp 40) (.tmp 39)) 4095]
def ybvi:LO:=[fa' 1 1 6 41 0,ld' false 1 41 42 1,mv' 3 43 0,ld' true 2 11 44 0,o3 (.bslice 95 2 1 [.i .i64 0,.i .i64 0] [(0,2,(.tmp 44))]) 45 8,fa' 1 1 6 46 0,ld' false 1 46 47 32,mv' 3 48 0,ix' 1 47 48 49 224,ld' false 1 49 50 480,o3 (.app 95 2 16 (.tmp 45) (.tmp 50)) 51 1016,ix' 1 42 43 52 2047,o0 (.store 1 (.tmp 52) (.tmp 51)) 4095]
def ydhd:LO:=[fa' 1 1 6 53 0,ld' false 1 53 54 1,mv' 2 55 0,fa' 1 1 6 56 0,ld' false 1 56 57 8,mv' 3 58 0,fa' 1 1 6 59 0,ld' false 1 59 60 64,mv' 2 61 0,ix' 1 60 61 62 448,ld' false 1 62 63 960,ld' true 2 10 64 0,o3 (.bslice 95 2 1 [.i .i64 0,.i .i64 0] [(0,2,(.tmp 64))]) 65 2048,o3 (.app 95 2 16 (.tmp 63) (.tmp 65)) 66 8128,fa' 1 1 6 67 0,ld' false 1 67 68 16384,mv' 3 69 0,ix' 1 68 69 70 114688,ld' false 1 70 71 245760,ld' true 2 11 72 0,o3 (.bslice 95 2 1 [.i .i64 0,.i .i64 0] [(0,2,(.tmp 72))]) 73 524288,o3 (.app 95 2 16 (.tmp 71) (.tmp 73)) 74 2097088,ix' 1 54 55 75 4194247,o0 (.store 1 (.tmp 75) (.tmp 66)) 8388551,ix' 1 57 58 76 16777215,o0 (.store 1 (.tmp 76) (.tmp 74)) 33554431]
def c76:SC:=(.seq (.reg false ycvo) (.seq (.seq (.reg false ycuv) (.cond (.tmp 20) .ret .skip)) (.seq (.reg false ybli) (.seq (.seq (.reg false ybln) (.cond (.tmp 28) (.seq (.reg true ybno) (.seq (.reg true ybvi) .ret)) .skip)) (.reg true ydhd)))))
theorem ycun:FnM 76 c76 []:=fn_m Tryz.func76 (by kernel_rfl) (by kernel_rfl)
def ydew:LO:=[o3 (.box 24 (.tmp 0)) 2 0,o3 (.alloc 27 1 [.a (.slice none 0 0),.a (.slice none 0 0)]) 4 0]
def ydct:LO:=[fa' 0 1 2 10 0,ld' false 1 10 11 1,o3 (.wsub (.tmp 11) (ci' 1)) 12 3,mv' 1 13 0,cl' 39 [12,13] 14 15,o3 (.bin .add (ci' 1) (.tmp 14)) 15 31,mv' 15 5 63]
def ydbb:LO:=[mv' 5 16 0,o3 (.mk 71 1 24 [.a (.slice none 0 0)] (.tmp 16) (.tmp 16)) 17 1,o3 (.build [.a (.slice none 0 0),.a (.slice none 0 0)] [(1,1,(.tmp 17))]) 18 3,o3 (.alloc 27 1 [.a (.slice none 0 0),.a (.slice none 0 0)]) 6 0,o0 (.store 2 (.tmp 6) (.tmp 18)) 15]
def ydef:LO:=[o3 (.mv (ci' 0)) 7 0]
def ydhs:LO:=[mv' 7 19 0,mv' 5 20 0,bn' .lss 19 20 21 3]
def ydaf:LO:=[fa' 3 1 2 24 0,ld' false 1 24 25 1,mv' 7 26 0,cl' 77 [25,26] 27 7,o3 (.call (.func 39) [(.tmp 27),(ci' 256)]) 28 15,mv' 28 8 31]
def yddj:LO:=[o3 (.mv (ci' 0)) 9 0]
def ydfy:LO:=[mv' 9 29 0,mv' 7 30 0,bn' .lss 29 30 31 3]
def ycql:LO:=[fa' 0 1 6 34 0,ld' false 1 34 35 1,mv' 9 36 0,ix' 1 35 36 37 7,ld' false 1 37 38 15,mv' 8 39 0,bn' .eql 38 39 40 63]
def ycjx:LO:=[mv' 8 41 0,o3 (.bin .add (.tmp 41) (ci' 1)) 42 1,o3 (.bin .rem (.tmp 42) (ci' 256)) 43 3,mv' 43 8 7,o3 (.mv (.const (.int .i64 (-1)))) 9 15]
def yddu:LO:=[mv' 9 32 0,o3 (.bin .add (.tmp 32) (ci' 1)) 33 1,mv' 33 9 3]
def ycoy:LO:=[fa' 0 1 6 44 0,ld' false 1 44 45 1,mv' 8 46 0,o3 (.bslice 3 1 1 [.i .i64 0] [(0,1,(.tmp 46))]) 47 4,o3 (.app 3 1 8 (.tmp 45) (.tmp 47)) 48 15,fa' 0 1 6 49 31,o0 (.store 1 (.tmp 49) (.tmp 48)) 63]
def ydcz:LO:=[mv' 7 22 0,o3 (.bin .add (.tmp 22) (ci' 1)) 23 1,mv' 23 7 3]
def ycns:LO:=[ld' true 2 6 50 0,o0 (.store 2 (.tmp 4) (.tmp 50)) 1]
def c75:SC:=(.seq (.reg false ydew) (.seq (.reg false ydct) (.seq (.reg false ydbb) (.seq (.seq (.reg false ydef) (.block 0 (.loop (.seq (.seq (.reg false ydhs) (.cond (.tmp 21) .skip (.exit 0))) (.seq (.block 1 (.seq (.reg false ydaf) (.seq (.seq (.reg false yddj) (.block 2 (.loop (.seq (.seq (.reg false ydfy) (.cond (.tmp 31) .skip (.exit 2))) (.seq (.block 3 (.seq (.reg false ycql) (.cond (.tmp 40) (.reg false ycjx) .skip))) (.reg false yddu)))))) (.reg false ycoy)))) (.reg false ydcz)))))) (.seq (.reg false ycns) .ret)))))
theorem yctu:FnM 75 c75 [.c 4 true 2]:=fn_m Tryz.func75 (by kernel_rfl) (by kernel_rfl)
def ydbc:LO:=[o3 (.box 24 (.tmp 0)) 2 0,o3 (.alloc 27 1 [.a (.slice none 0 0),.a (.slice none 0 0)]) 4 0]
def ydbu:LO:=[ld' true 6 2 7 0,mv' 1 8 0,cl' 75 [7,8] 9 3,o3 (.alloc 27 1 [.a (.slice none 0 0),.a (.slice none 0 0)]) 5 0,o0 (.store 2 (.tmp 5) (.tmp 9)) 15]
def yddl:LO:=[o3 (.mv (ci' 1)) 6 0]
def yctp:LO:=[mv' 6 10 0,fa' 1 1 5 11 0,ld' false 1 11 12 2,ln' 12 13 6,bn' .lss 10 13 14 15]
def ydgr:LO:=[ld' true 6 2 17 0,ld' true 2 5 18 0,fa' 1 1 2 19 0,ld' false 1 19 20 4,mv' 6 21 0,o3 (.bin .sub (.tmp 21) (ci' 1)) 22 16,cl' 77 [20,22] 23 60,mv' 6 24 0,cl' 39 [23,24] 25 252,mv' 6 26 0,fa' 2 1 2 27 0,ld' false 1 27 28 1024,mv' 6 29 0,o3 (.bin .sub (.tmp 29) (ci' 1)) 30 4096,cl' 77 [28,30] 31 15868,o3 (.call (.func 39) [(.tmp 31),(ci' 15)]) 32 32252,o3 (.bin .add (ci' 1) (.tmp 32)) 33 65020,cl' 76 [17,18,25,26,33] 34 131071]
def ydcr:LO:=[mv' 6 15 0,o3 (.bin .add (.tmp 15) (ci' 1)) 16 1,mv' 16 6 3]
def ydhe:LO:=[ld' true 2 5 35 0,o0 (.store 2 (.tmp 4) (.tmp 35)) 1]
def c21:SC:=(.seq (.reg false ydbc) (.seq (.reg false ydbu) (.seq (.seq (.reg false yddl) (.block 0 (.loop (.seq (.seq (.reg false yctp) (.cond (.tmp 14) .skip (.exit 0))) (.seq (.block 1 (.reg true ydgr)) (.reg false ydcr)))))) (.seq (.reg false ydhe) .ret))))
theorem ycth:FnM 21 c21 [.c 4 true 2]:=fn_m Tryz.func21 (by kernel_rfl) (by kernel_rfl)
def ycqj:LO:=[o3 (.box 24 (.tmp 0)) 2 0,o3 (.box 27 (.tmp 1)) 3 0,o3 (.alloc 27 1 [.a (.slice none 0 0),.a (.slice none 0 0)]) 4 0]
def ycgr:LO:=[fa' 1 1 3 7 0,ld' false 1 7 8 1,ln' 8 9 3,mv' 9 5 7]
def ycrd:LO:=[mv' 5 10 0,mv' 10 6 1]
def ybfv:LO:=[mv' 6 11 0,o3 (.bin .add (.tmp 11) (ci' 1)) 12 1,fa' 1 1 2 13 0,ld' false 1 13 14 4,ln' 14 15 12,bn' .lss 12 15 16 31,mv' 16 17 63,⟨.mv (.tmp 6),some 18,some (17,true),127⟩,⟨.bin .lss (.tmp 18) (ci' 60),some 19,some (17,true),255⟩,o3 (.pick (.tmp 17) (.tmp 19) (.const (.bool false))) 20 511]
def ycjj:LO:=[ld' true 6 2 23 0,ld' true 2 3 24 0,fa' 1 1 2 25 0,ld' false 1 25 26 4,mv' 6 27 0,ix' 1 26 27 28 28,ld' false 1 28 29 60,mv' 5 30 0,cl' 39 [29,30] 31 252,fa' 1 1 2 32 0,ld' false 1 32 33 512,mv' 6 34 0,o3 (.bin .add (.tmp 34) (ci' 1)) 35 2048,ix' 1 33 35 36 7680,ld' false 1 36 37 15872,mv' 5 38 0,cl' 39 [37,38] 39 65532,fa' 2 1 2 40 0,ld' false 1 40 41 131072,mv' 6 42 0,cl' 77 [41,42] 43 1048572,o3 (.call (.func 39) [(.tmp 43),(ci' 15)]) 44 2097148,o3 (.bin .add (ci' 1) (.tmp 44)) 45 4194300,cl' 76 [23,24,31,39,45] 46 8388607]
def yceu:LO:=[mv' 6 21 0,o3 (.bin .add (.tmp 21) (ci' 2)) 22 1,mv' 22 6 3]
def ybri:LO:=[ld' true 2 3 47 0,o0 (.store 2 (.tmp 4) (.tmp 47)) 1]
def c105:SC:=(.seq (.reg false ycqj) (.seq (.reg false ycgr) (.seq (.seq (.reg false ycrd) (.block 0 (.loop (.seq (.seq (.reg false ybfv) (.cond (.tmp 20) .skip (.exit 0))) (.seq (.block 1 (.reg true ycjj)) (.reg false yceu)))))) (.seq (.reg false ybri) .ret))))
theorem ybza:FnM 105 c105 [.c 4 true 2]:=fn_m Tryz.func105 (by kernel_rfl) (by kernel_rfl)
def ydaz:LO:=[o3 (.box 24 (.tmp 0)) 2 0,o3 (.alloc 27 1 [.a (.slice none 0 0),.a (.slice none 0 0)]) 4 0]
def ydam:LO:=[ld' true 6 2 5 0,ld' true 6 2 6 0,mv' 1 7 0,cl' 21 [6,7] 8 6,cl' 105 [5,8] 9 15,o0 (.store 2 (.tmp 4) (.tmp 9)) 31]
def c70:SC:=(.seq (.reg false ydaz) (.seq (.reg true ydam) .ret))
theorem ycwp:FnU 70 c70 [.c 4 true 2]:=fn_u Tryz.func70 (by kernel_rfl) (by kernel_rfl)
def ydhr:LO:=[o3 (.box 27 (.tmp 0)) 3 0,o3 (.mv (.const (.slice none 0 0))) 6 0]
def ydah:LO:=[fa' 1 1 3 16 0,ld' false 1 16 17 1,ln' 17 18 3,mv' 18 7 7,o3 (.mv (ci' 0)) 8 15]
def ydez:LO:=[o3 (.mv (ci' 0)) 9 0]
def ydft:LO:=[mv' 9 19 0,mv' 7 20 0,bn' .lss 19 20 21 3]
def ydde:LO:=[mv' 8 24 0,fa' 0 1 3 25 0,ld' false 1 25 26 2,mv' 9 27 0,ix' 1 26 27 28 14,ld' false 1 28 29 30,o3 (.mm true (.tmp 24) (.tmp 29)) 30 63,mv' 30 8 127]
def ydbg:LO:=[mv' 9 22 0,o3 (.bin .add (.tmp 22) (ci' 1)) 23 1,mv' 23 9 3]
def ydgl:LO:=[o3 (.mv (.const (.slice none 0 0))) 10 0]
def ydce:LO:=[o3 (.mv (ci' 0)) 11 0]
def ydds:LO:=[mv' 11 31 0,mv' 7 32 0,bn' .lss 31 32 33 3]
def yciw:LO:=[o3 (.mv (.const (.slice none 0 0))) 12 0]
def yckn:LO:=[o3 (.mv (ci' 0)) 13 0]
def ycjv:LO:=[mv' 13 36 0,mv' 1 37 0,ln' 37 38 2,bn' .lss 36 38 39 7]
def ycoa:LO:=[mv' 1 42 0,mv' 13 43 0,ix' 6 42 43 44 3,fa' 2 1 44 45 7,ld' false 1 45 46 15,mv' 1 47 0,mv' 13 48 0,ix' 6 47 48 49 96,fa' 3 1 49 50 224,ld' false 1 50 51 480,mv' 1 52 0,mv' 13 53 0,ix' 6 52 53 54 3072,fa' 4 1 54 55 7168,ld' false 1 55 56 15360,mv' 7 57 0,bn' .mul 56 57 58 64512,bn' .add 51 58 59 131040,mv' 1 60 0,mv' 13 61 0,ix' 6 60 61 62 786432,fa' 5 1 62 63 1835008,ld' false 1 63 64 3932160,mv' 8 65 0,bn' .mul 64 65 66 16515072,bn' .add 59 66 67 33554400,mv' 46 14 31,mv' 67 15 134217727]
def ycjc:LO:=[mv' 1 68 0,mv' 13 69 0,ix' 6 68 69 70 3,fa' 1 1 70 71 7,ld' false 1 71 72 15]
def ybgd:LO:=[o3 (.bin .eql (.tmp 72) (ci' 2)) 74 0,mv' 74 73 1]
def ybgp:LO:=[o3 (.mv (ci' 0)) 14 0,o3 (.mv (ci' 1)) 15 1]
def ybhl:LO:=[o3 (.bin .eql (.tmp 72) (ci' 3)) 76 0,mv' 76 75 1]
def ybfj:LO:=[fa' 1 1 3 77 0,ld' false 1 77 78 1,mv' 11 79 0,ix' 1 78 79 80 7,ld' false 1 80 81 15,ln' 81 82 31,o3 (.bin .sub (.tmp 82) (ci' 1)) 83 63,o3 (.mv (.const (.int .i64 (-1)))) 14 0,mv' 83 15 255]
def ybfx:LO:=[mv' 12 84 0,mv' 14 85 0,mv' 2 86 0,mv' 11 87 0,mv' 1 88 0,ln' 88 89 16,bn' .mul 87 89 90 56,mv' 13 91 0,bn' .add 90 91 92 248,cl' 77 [86,92] 93 508,mv' 15 94 0,mv' 14 95 0,bn' .sub 94 95 96 3072,o3 (.bin .add (.tmp 96) (ci' 1)) 97 7168,cl' 39 [93,97] 98 16380,bn' .add 85 98 99 32766,o3 (.bslice 3 1 1 [.i .i64 0] [(0,1,(.tmp 99))]) 100 65534,o3 (.app 3 1 8 (.tmp 84) (.tmp 100)) 101 131071,mv' 101 12 262143]
def ybgy:LO:=[mv' 13 40 0,o3 (.bin .add (.tmp 40) (ci' 1)) 41 1,mv' 41 13 3]
def ycju:LO:=[mv' 10 102 0,mv' 12 103 0,o3 (.bslice 22 1 1 [.a (.slice none 0 0)] [(0,1,(.tmp 103))]) 104 2,o3 (.app 22 1 24 (.tmp 102) (.tmp 104)) 105 7,mv' 105 10 15]
def ydeq:LO:=[mv' 11 34 0,o3 (.bin .add (.tmp 34) (ci' 1)) 35 1,mv' 35 11 3]
def ycqp:LO:=[mv' 10 106 0,mv' 106 6 1]
def c24:SC:=(.seq (.reg false ydhr) (.seq (.reg false ydah) (.seq (.seq (.reg false ydez) (.block 0 (.loop (.seq (.seq (.reg false ydft) (.cond (.tmp 21) .skip (.exit 0))) (.seq (.block 1 (.reg false ydde)) (.reg false ydbg)))))) (.seq (.reg false ydgl) (.seq (.seq (.reg false ydce) (.block 2 (.loop (.seq (.seq (.reg false ydds) (.cond (.tmp 33) .skip (.exit 2))) (.seq (.block 3 (.seq (.reg false yciw) (.seq (.seq (.reg false yckn) (.block 4 (.loop (.seq (.seq (.reg false ycjv) (.cond (.tmp 39) .skip (.exit 4))) (.seq (.block 5 (.seq (.reg true ycoa) (.seq (.seq (.reg false ycjc) (.block 6 (.seq (.reg false ybgd) (.cond (.tmp 73) (.reg false ybgp) (.seq (.reg false ybhl) (.cond (.tmp 75) (.reg true ybfj) .skip)))))) (.reg false ybfx)))) (.reg false ybgy)))))) (.reg false ycju)))) (.reg false ydeq)))))) (.seq (.reg false ycqp) .ret))))))
theorem ydgn:Fn 24 c24 [.t 6]:=fn_0 Tryz.func24 (by kernel_rfl) (by kernel_rfl)
def ydbi:LO:=[o3 (.mv (.const (.slice none 0 0))) 4 0]
def ydao:LO:=[o3 (.mv (.const (.slice none 0 0))) 5 0]
def ydhb:LO:=[o3 (.mv (ci' 0)) 6 0]
def ydgp:LO:=[mv' 6 9 0,mv' 1 10 0,bn' .lss 9 10 11 3]
def ydal:LO:=[mv' 0 14 0,ln' 14 15 1,o3 (.bin .eql (.tmp 15) (ci' 0)) 16 3]
def ydes:LO:=[mv' 5 17 0,o3 (.bslice 40 1 1 [.i .u32 0] [(0,1,(.const (.int .u32 4294967295)))]) 18 0,o3 (.app 40 1 4 (.tmp 17) (.tmp 18)) 19 3,mv' 19 5 7]
def ydaj:LO:=[mv' 0 20 0,mv' 6 21 0,mv' 0 22 0,ln' 22 23 4,bn' .rem 21 23 24 14,ix' 1 20 24 25 31,ld' false 1 25 26 63,mv' 6 27 0,mv' 0 28 0,ln' 28 29 256,bn' .quo 27 29 30 896,o3 (.bin .rem (.tmp 30) (ci' 24)) 31 1920,o3 (.conv .u64 (.tmp 31)) 32 3968,mv' 26 7 127,mv' 32 8 16383]
def yddt:LO:=[mv' 7 33 0,o3 (.bin .and (.tmp 33) (.const (.int .u32 16777215))) 34 1,mv' 34 7 3]
def ydfz:LO:=[mv' 5 35 0,mv' 7 36 0,mv' 8 37 0,bn' .shl 36 37 38 6,mv' 7 39 0,mv' 8 40 0,o3 (.bin .sub (.const (.int .u64 24)) (.tmp 40)) 41 32,bn' .shr 39 41 42 112,bn' .or 38 42 43 254,o3 (.bin .and (.tmp 43) (.const (.int .u32 16777215))) 44 510,o3 (.bslice 40 1 1 [.i .u32 0] [(0,1,(.tmp 44))]) 45 1022,o3 (.app 40 1 4 (.tmp 35) (.tmp 45)) 46 2047,mv' 46 5 4095]
def ycws:LO:=[mv' 6 12 0,o3 (.bin .add (.tmp 12) (ci' 1)) 13 1,mv' 13 6 3]
def ychs:LO:=[mv' 5 47 0,mv' 47 4 1]
def c26:SC:=(.seq (.reg false ydbi) (.seq (.reg false ydao) (.seq (.seq (.reg false ydhb) (.block 0 (.loop (.seq (.seq (.reg false ydgp) (.cond (.tmp 11) .skip (.exit 0))) (.seq (.block 1 (.seq (.seq (.reg false ydal) (.cond (.tmp 16) (.seq (.reg false ydes) (.exit 1)) .skip)) (.seq (.reg true ydaj) (.seq (.reg false yddt) (.reg false ydfz))))) (.reg false ycws)))))) (.seq (.reg false ychs) .ret))))
theorem ydgx:Fn 26 c26 [.t 4]:=fn_0 Tryz.func26 (by kernel_rfl) (by kernel_rfl)
def ydfr:LO:=[o3 (.box 27 (.tmp 1)) 6 0,o3 (.mv (.const (.slice none 0 0))) 10 0,o3 (.mv (.const (.slice none 0 0))) 11 2,o3 (.mv (.const (.bool false))) 12 6]
def ydgh:LO:=[mv' 0 17 0,cl' 37 [17] 18 1,ld' true 2 6 19 0,mv' 2 20 0,mv' 3 21 0,mv' 4 22 0,cl' 78 [18,19,20,21,22] 23 63,mv' 23 16 127,xt' 16 0 24 255,xt' 16 1 25 255,xt' 16 2 26 255,mv' 24 13 511,mv' 25 14 3071,mv' 26 15 8191]
def ydax:LO:=[mv' 13 27 0,mv' 14 28 0,mv' 15 29 0,o3 (.bin .eql (.tmp 29) (ci' 0)) 30 4,mv' 30 31 12,⟨.mv (.tmp 13),some 32,some (31,true),28⟩,⟨.len (.tmp 32),some 33,some (31,true),60⟩,⟨.mv (.tmp 14),some 34,some (31,true),28⟩,⟨.len (.tmp 34),some 35,some (31,true),156⟩,⟨.bin .eql (.tmp 33) (.tmp 35),some 36,some (31,true),508⟩,o3 (.pick (.tmp 31) (.tmp 36) (.const (.bool false))) 37 1020,mv' 37 38 2044,⟨.mv (.tmp 13),some 39,some (38,true),4092⟩,⟨.len (.tmp 39),some 40,some (38,true),8188⟩,⟨.bin .gtr (.tmp 40) (ci' 0),some 41,some (38,true),16380⟩,o3 (.pick (.tmp 38) (.tmp 41) (.const (.bool false))) 42 32764,mv' 27 10 4093,mv' 28 11 69631,mv' 42 12 262143]
def c22:SC:=(.seq (.reg false ydfr) (.seq (.reg true ydgh) (.seq (.reg false ydax) .ret)))
theorem ydht:Fn 22 c22 [.t 10,.t 11,.t 12]:=fn_0 Tryz.func22 (by kernel_rfl) (by kernel_rfl)
def ydbk:LO:=[o3 (.box 51 (.tmp 2)) 6 0,o3 (.mv (.const (.bool false))) 8 0]
def ydeu:LO:=[mv' 0 11 0,ln' 11 12 1,mv' 1 13 0,ln' 13 14 4,bn' .neq 12 14 15 15,mv' 15 16 31,⟨.mv (.tmp 0),some 17,some (16,false),63⟩,⟨.len (.tmp 17),some 18,some (16,false),127⟩,⟨.bin .eql (.tmp 18) (ci' 0),some 19,some (16,false),255⟩,o3 (.pick (.tmp 16) (.const (.bool true)) (.tmp 19)) 20 511]
def ydic:LO:=[o3 (.mv (.const (.bool false))) 8 0]
def ydcu:LO:=[o3 (.mv (.const (.bool false))) 9 0]
def ydav:LO:=[o3 (.mv (ci' 0)) 10 0]
def ybks:LO:=[mv' 10 21 0,mv' 0 22 0,ln' 22 23 2,bn' .lss 21 23 24 7]
def ybvj:LO:=[mv' 9 27 0,mv' 27 28 1,⟨.mv (.tmp 0),some 29,some (28,true),3⟩,⟨.mv (.tmp 10),some 30,some (28,true),3⟩,⟨.idx 1 (.tmp 29) (.tmp 30),some 31,some (28,true),15⟩,⟨.load false 1 (.tmp 31),some 32,some (28,true),31⟩,⟨.un .not (.tmp 32),some 33,some (28,true),63⟩,o3 (.pick (.tmp 28) (.tmp 33) (.const (.bool false))) 34 127]
def ydki:LO:=[o3 (.mv (.const (.bool false))) 8 0]
def ybvd:LO:=[mv' 9 35 0,mv' 35 36 1,⟨.mv (.tmp 0),some 37,some (36,false),3⟩,⟨.mv (.tmp 10),some 38,some (36,false),3⟩,⟨.idx 1 (.tmp 37) (.tmp 38),some 39,some (36,false),15⟩,⟨.load false 1 (.tmp 39),some 40,some (36,false),31⟩,o3 (.pick (.tmp 36) (.const (.bool true)) (.tmp 40)) 41 63,mv' 41 9 127]
def yxa:LO:=[mv' 9 42 0,o3 (.un .not (.tmp 42)) 43 1,mv' 43 44 3,⟨.mv (.tmp 1),some 45,some (44,true),7⟩,⟨.mv (.tmp 10),some 46,some (44,true),7⟩,⟨.idx 5 (.tmp 45) (.tmp 46),some 47,some (44,true),31⟩,⟨.faddr 3 1 (.tmp 47),some 48,some (44,true),63⟩,⟨.load false 1 (.tmp 48),some 49,some (44,true),127⟩,⟨.faddr 3 1 (.tmp 6),some 50,some (44,true),7⟩,⟨.load false 1 (.tmp 50),some 51,some (44,true),263⟩,⟨.bin .gtr (.tmp 49) (.tmp 51),some 52,some (44,true),1023⟩,⟨.mv (.tmp 52),some 53,some (44,true),2047⟩,⟨.faddr 4 1 (.tmp 6),some 54,some (53,false),4095⟩,⟨.load false 1 (.tmp 54),some 55,some (53,false),8191⟩,⟨.bin .geq (.tmp 55) (ci' 0),some 56,some (53,false),16383⟩,⟨.mv (.tmp 56),some 57,some (53,false),32767⟩,⟨.mv (.tmp 1),some 58,some (57,true),65535⟩,⟨.mv (.tmp 10),some 59,some (57,true),65535⟩,⟨.idx 5 (.tmp 58) (.tmp 59),some 60,some (57,true),262143⟩,⟨.faddr 1 1 (.tmp 60),some 61,some (57,true),524287⟩,⟨.load false 1 (.tmp 61),some 62,some (57,true),1048575⟩,⟨.faddr 4 1 (.tmp 6),some 63,some (57,true),65535⟩,⟨.load false 1 (.tmp 63),some 64,some (57,true),2162687⟩,⟨.bin .gtr (.tmp 62) (.tmp 64),some 65,some (57,true),8388607⟩,⟨.pick (.tmp 57) (.tmp 65) (.const (.bool false)),some 66,some (53,false),16777215⟩,⟨.pick (.tmp 53) (.const (.bool true)) (.tmp 66),some 67,some (44,true),33554431⟩,o3 (.pick (.tmp 44) (.tmp 67) (.const (.bool false))) 68 67108863]
def ydab:LO:=[o3 (.mv (.const (.bool false))) 8 0]
def ywt:LO:=[mv' 10 25 0,o3 (.bin .add (.tmp 25) (ci' 1)) 26 1,mv' 26 10 3]
def ycjw:LO:=[mv' 9 69 0,mv' 69 70 1,⟨.mv (.tmp 3),some 71,some (70,false),3⟩,⟨.un .not (.tmp 71),some 72,some (70,false),7⟩,o3 (.pick (.tmp 70) (.const (.bool true)) (.tmp 72)) 73 15,mv' 73 8 31]
def c38:SC:=(.seq (.reg false ydbk) (.seq (.seq (.reg false ydeu) (.cond (.tmp 20) (.seq (.reg false ydic) .ret) .skip)) (.seq (.reg false ydcu) (.seq (.seq (.reg false ydav) (.block 0 (.loop (.seq (.seq (.reg false ybks) (.cond (.tmp 24) .skip (.exit 0))) (.seq (.block 1 (.seq (.seq (.reg false ybvj) (.cond (.tmp 34) (.seq (.reg false ydki) .ret) .skip)) (.seq (.reg false ybvd) (.seq (.reg true yxa) (.cond (.tmp 68) (.seq (.reg false ydab) .ret) .skip))))) (.reg false ywt)))))) (.seq (.reg false ycjw) .ret)))))
theorem ydak:Fn 38 c38 [.t 8]:=fn_0 Tryz.func38 (by kernel_rfl) (by kernel_rfl)
end Sh
end Go.Proofs.YtiejahgklcjhkaaGreatDoor

namespace Go.Proofs.YtiejahgklcjhkaaGreatDoor
open Go
namespace Sh
open Ev Go.RowKit
set_option maxRecDepth 8000
instance:Inhabited Cnt:=⟨⟨0,0,0,0,0⟩⟩
def seeO(cs:List Conf)(ks:List Cnt):Own:=[(1,.one (some ⟨29,true,1,1,fun _=>[.os (2,0) 0 cs.length true]⟩)),(2,.one (some ⟨34,false,1,cs.length,fun i=>[rowsV (cs.getD i [])]⟩)),
 (3,.one (some ⟨30,true,1,1,fun _=>[.os (4,0) 0 ks.length true]⟩)),(4,.one (some ⟨48,false,5,ks.length,fun i=>cntV (ks.getD i default)⟩))]
def ycze:Own:=[(1,.one (some ⟨29,true,1,1,fun _=>[.a (.slice none 0 0)]⟩)),(3,.one (some ⟨30,true,1,1,fun _=>[.a (.slice none 0 0)]⟩))]
theorem ycam(cs:List Conf)(ks:List Cnt)(h1:0<cs.length/\cs.length<=5000)(h2:0<ks.length/\ks.length<=5000){c:Conf}(hc:∀ s ∈ c,0<s.length/\s.length<=1000)(hl:c.length<=1000)(e:Nat)(k:Cnt) :
  Cm Tryz.prog 131 [(1,0),(3,0)] (seeO cs ks) [rowsV c,.i .u32 e,.ag (cntV k),.pt (1,0) 0 0,.pt (3,0) 0 0] fun r o=>r = .tp []/\o=seeO (cs ++ [c]) (ks ++ [k]):=by
 refine ybhr [(1,0),(3,0)] [] _ _ _ ?_;obtain⟨n,hn⟩:∃ n,cs.length=n:=⟨_,rfl⟩;obtain⟨m,hm⟩:∃ m,ks.length=m:=⟨_,rfl⟩;have hC:=yvz c hc hl;obtain⟨O2,hO2⟩:∃ O,seeO (cs ++ [c]) (ks ++ [k])=O:=⟨_,rfl⟩;rw[hO2];simp only[c131,yblz,ybnq,ybrh,seeO,cntV,hn,hm,go_sem,Nat.reduceEqDiff,Nat.reduceAdd,Nat.reduceLT,↓reduceIte,reduceCtorEq];refine hC.use ?_;simp only[thenO,clash,yer,go_sem,Nat.reduceEqDiff,Nat.reduceAdd,Nat.reduceLeDiff,Nat.reduceLT,↓reduceIte,reduceCtorEq]
 refine⟨by decide,⟨by omega,by omega⟩,by decide,by decide,⟨by omega,by omega⟩,.tp [],O2,?_,?_,rfl,rfl⟩
 ·subst hO2;refine weak_allP [(2,fun i=>(12,i)),(4,fun i=>(16,i))] [] [] ?_;simp only[seeO,cntV,List.length_append,hn,hm,allQ,live,sim_self,go_sem,Nat.reduceEqDiff,↓reduceIte,reduceCtorEq];have gl:∀ {α:Type} (l:List α) (x d:α) (i:Nat),i<l.length->(l ++ [x]).getD i d=l.getD i d:=fun l x d i h=>by simp[List.getD,List.getElem?_append_left h]
  have gr:∀ {α:Type} (l:List α) (x d:α),(l ++ [x]).getD l.length d=x:=fun l x d=>by simp[List.getD]
  refine⟨fun i hi=>?_,fun i hi=>?_⟩
  ·by_cases q:i<n
   ·simp only[if_pos q,gl cs c [] i (by omega)]
    simp only[go_sem,live,sim_self,go_sem]
   ·obtain rfl:i=n:=by omega
    simp only[if_neg q,Nat.sub_self,Nat.zero_mul];have e:=gr cs c [];rw[hn]at e;simp only[e,live,sim_self,go_sem]
  ·by_cases q:i<m
   ·simp only[if_pos q,gl ks k default i (by omega)]
    simp only[go_sem,live,sim_self,go_sem,reduceCtorEq]
   ·obtain rfl:i=m:=by omega
    simp only[if_neg q,Nat.sub_self,Nat.zero_mul];have e:=gr ks k default;rw[hm]at e;simp only[e,live,sim_self,go_sem,reduceCtorEq]
 ·subst hO2;simp only[seeO,cntV,famCln,obCln,allQ,live,go_sem,Nat.reduceEqDiff,↓reduceIte]
theorem ybry{c:Conf}(hc:∀ s ∈ c,0<s.length/\s.length<=1000)(hl:c.length<=1000)(e:Nat)(k:Cnt) :
  Cm Tryz.prog 131 [(1,0),(3,0)] ycze [rowsV c,.i .u32 e,.ag (cntV k),.pt (1,0) 0 0,.pt (3,0) 0 0] fun r o=>r = .tp []/\o=seeO [c] [k]:=by
 refine ybhr [(1,0),(3,0)] [] _ _ _ ?_;have hC:=yvz c hc hl;obtain⟨O2,hO2⟩:∃ O,seeO [c] [k]=O:=⟨_,rfl⟩;rw[hO2];simp only[c131,yblz,ybnq,ybrh,ycze,cntV,go_sem,Nat.reduceEqDiff,Nat.reduceAdd,Nat.reduceLT,↓reduceIte,reduceCtorEq];refine hC.use ?_;simp only[thenO,clash,yer,go_sem,Nat.reduceEqDiff,Nat.reduceAdd,Nat.reduceLeDiff,Nat.reduceLT,Nat.reduceMul,↓reduceIte,reduceCtorEq];refine⟨by decide,by decide,by decide,.tp [],O2,?_,?_,rfl,rfl⟩
 ·subst hO2;refine weak_allP [(2,fun i=>(12,i)),(4,fun i=>(16,i))] [] [] ?_;simp only[seeO,cntV,allQ,live,sim_self,go_sem,Nat.reduceEqDiff,↓reduceIte,reduceCtorEq];refine⟨fun i hi=>?_,fun i hi=>?_⟩
  ·obtain rfl:i=0:=by omega
   simp only[Nat.zero_mul];simp only[List.getD_cons_zero,live,sim_self,go_sem]
  ·obtain rfl:i=0:=by omega
   simp only[Nat.zero_mul];simp only[List.getD_cons_zero,live,sim_self,go_sem,reduceCtorEq]
 ·subst hO2;simp only[seeO,cntV,famCln,obCln,allQ,live,go_sem,Nat.reduceEqDiff,↓reduceIte]
structure DaemonOk(kind:Int)(net:List Nat)(res:Nat->Nat->Nat):Prop where
 resolve:∀ (e w:Nat),e<2 ^ 24->e<2 ^ net.length->e ≠ 0->w<2 ^ 32->Returns Tryz.prog 111 [usV net,.i .i64 kind,.i .u32 e,.i .u32 w] (.i .u32 (res e w))
 permits:∀ (e w:Nat),e<2 ^ 24->e<2 ^ net.length->e ≠ 0->w<2 ^ 32->Returns Tryz.prog 196 [usV net,.i .i64 kind,.i .u32 e,.i .u32 (res e w)] (.b true)
 zero:∀ (w:Nat),w<2 ^ 32 -> ∃ x:Nat,Returns Tryz.prog 111 [usV net,.i .i64 kind,.i .u32 0,.i .u32 w] (.i .u32 x)
 sub:∀ (e w:Nat),e ≠ 0->e<2 ^ 24->res e w ≠ 0/\subB (res e w) e
theorem ybbn{kind:Int}{net:List Nat}{res:Nat->Nat->Nat}(hd:DaemonOk kind net res)(rest:SV)(liv:SV)(mv:SV){ws:List Nat}(hw:∀ k,ws.getD k 0<2 ^ 32){e:Nat}(he:e<2 ^ 24)(hen:e<2 ^ net.length)(h0:e ≠ 0){k:Nat}(hk:k<ws.length) :
  Returns Tryz.prog 169 [.i .i64 k,.i .u32 e,.rf [mv,usV net,.i .i64 kind,liv,rest],.rf [usV ws]] (.tp [.i .u32 (res e (ws.getD k 0)),.b true]):=by
 refine Returns.of (ybwe _ _ ?_);have hR:=hd.resolve e (ws.getD k 0) he hen h0 (hw k);have z0:((e:Int) != 0)=true:=by simp;omega
 simp only[usV]at hR;simp only[c169,ybsb,ybwg,usV,clash,go_sem,Nat.reduceEqDiff,Nat.reduceAdd,Nat.reduceLeDiff,↓reduceIte,reduceCtorEq];refine⟨by omega,hR.use ?_⟩
 simp only[thenO,clash,z0,go_sem,Nat.reduceEqDiff,Nat.reduceAdd,↓reduceIte,reduceCtorEq];exact Sim.refl _
theorem ybch{kind:Int}{net:List Nat}{res:Nat->Nat->Nat}(hd:DaemonOk kind net res)(rest:SV)(liv:SV)(mv:SV){ws:List Nat}(hw:∀ k,ws.getD k 0<2 ^ 32){k:Nat}(hk:k<ws.length) :
  ∃ x:Nat,Returns Tryz.prog 169 [.i .i64 k,.i .u32 0,.rf [mv,usV net,.i .i64 kind,liv,rest],.rf [usV ws]] (.tp [.i .u32 x,.b false]):=by
 obtain⟨x,hR⟩:=hd.zero (ws.getD k 0) (hw k);refine⟨x,Returns.of (ybwe _ _ ?_)⟩;simp only[usV]at hR;simp only[c169,ybsb,ybwg,usV,clash,go_sem,Nat.reduceEqDiff,Nat.reduceAdd,Nat.reduceLeDiff,↓reduceIte,reduceCtorEq];refine⟨by omega,hR.use ?_⟩
 simp only[thenO,clash,Int.reduceBNe,go_sem,Nat.reduceEqDiff,Nat.reduceAdd,↓reduceIte,reduceCtorEq];exact Sim.refl _
theorem ybcb{s e n:Nat}(h:subB s e)(he:e<2 ^ n):s<2 ^ n:=by
 refine Nat.lt_pow_two_of_testBit _ fun i hi=>?_;cases hb:s.testBit i with
 | false=>rfl
 | true =>
  have:=h i hb;rw[Nat.testBit_lt_two_pow (Nat.lt_of_lt_of_le he (Nat.pow_le_pow_right (by omega) hi))]at this
  cases this
theorem ycbh{s e:Nat}(h:subB s e):difB s e=0:=by
 rw[ybp];intro i;rw[yik];cases hb:s.testBit i with
 | false=>rfl
 | true=>rw[h i hb];rfl
theorem ycva(e w:Nat)(h0:e ≠ 0)(he:e<2 ^ 24):resD e w ≠ 0/\subB (resD e w) e:=by
 unfold resD;split
 ·exact⟨ycsv h0 (by omega),ybgk e⟩
 ·rename_i h
  refine⟨h,fun i hi=>?_⟩;rw[Nat.testBit_and,Bool.and_eq_true]at hi;exact hi.2
end Sh
end Go.Proofs.YtiejahgklcjhkaaGreatDoor

namespace Go.Proofs.YtiejahgklcjhkaaGreatDoor
open Go
def stAt(S:Sys)(res:Nat->Nat->Nat):List Nat->Conf->Cnt->Nat->Conf × Cnt
 | _,c,k,0=>(c,k)
 | ws,c,k,i+1=>stAt S res ws.tail (S.mv c (res (S.en c) (ws.getD 0 0))) (addP k (res (S.en c) (ws.getD 0 0)) (S.en (S.mv c (res (S.en c) (ws.getD 0 0))))) i
theorem yyv(S:Sys)(res:Nat->Nat->Nat):∀ (i:Nat) (ws:List Nat) (c:Conf) (k:Cnt),
  stAt S res ws c k (i+1)=(S.mv (stAt S res ws c k i).1 (res (S.en (stAt S res ws c k i).1) (ws.getD i 0)),addP (stAt S res ws c k i).2 (res (S.en (stAt S res ws c k i).1) (ws.getD i 0)) (S.en (S.mv (stAt S res ws c k i).1 (res (S.en (stAt S res ws c k i).1) (ws.getD i 0)))))
 | 0,ws,c,k=>rfl
 | i+1,ws,c,k=>by
  show stAt S res ws.tail _ _ (i+1)=_;rw[yyv S res i ws.tail];have e:ws.tail.getD i 0=ws.getD (i+1) 0:=by cases ws<;>rfl
  rw[e];rfl
theorem yxp(S:Sys)(res:Nat->Nat->Nat):∀ (ws:List Nat) (c:Conf) (k:Cnt) (i:Nat),(∀ j,j<i->S.en (stAt S res ws c k j).1 ≠ 0)->i<=ws.length->(i=ws.length\/S.en (stAt S res ws c k i).1=0) ->
  S.run res ws c k=(List.range i).map fun j=>stAt S res ws c k (j+1)
 | [],c,k,i,_,hi,_=>by
  have:i=0:=by simpa using hi
  subst this;rfl
 | w :: ws,c,k,0,_,_,h=>by
  have h0:S.en c=0:=by
   rcases h with h | h
   ·simp at h
   ·exact h
  unfold Sys.run;rw[if_pos h0];rfl
 | w :: ws,c,k,i+1,hj,hi,h=>by
  have h0:S.en c ≠ 0:=hj 0 (by omega)
  unfold Sys.run;rw[if_neg h0];simp only
  have e:=yxp S res ws (S.mv c (res (S.en c) w)) (addP k (res (S.en c) w) (S.en (S.mv c (res (S.en c) w)))) i (fun j hj'=>hj (j+1) (by omega)) (by simpa using hi) (by
   rcases h with h | h
   ·exact .inl (by simpa using h)
   ·exact .inr h)
  rw[e,List.range_succ_eq_map,List.map_cons,List.map_map];rfl
theorem yblf(S:Sys)(res:Nat->Nat->Nat)(ws:List Nat)(c:Conf)(i:Nat)(hj:∀ j,j<i->S.en (stAt S res ws c (ycs (S.en c)) j).1 ≠ 0)(hi:i<=ws.length)(h:i=ws.length\/S.en (stAt S res ws c (ycs (S.en c)) i).1=0) :
  S.runs res ws c=(List.range (i+1)).map fun j=>stAt S res ws c (ycs (S.en c)) j:=by
 unfold Sys.runs;rw[yxp S res ws c _ i hj hi h,List.range_succ_eq_map,List.map_cons,List.map_map];rfl
theorem ybyv{kind:Int}{b:Int × Int}(hb:b.1<=b.2)(h3:kind=3->b.1 <= -1 /\ -1<=b.2)(x:Int):b.1<=ygf kind b x/\ygf kind b x<=b.2:=by
 unfold ygf;split
 ·assumption
 ·split
  ·exact h3 (by assumption)
  ·split<;>omega
namespace Sh
theorem ybhp{p:ProgT}{g:Gr}(hg:GoodG g)(hp:p.ok=true)(hf:yvq p g=true){x:VarR}(hx:x ∈ p.vars)(v:Nat):(yu g v x).1<=(yu g v x).2/\(x.kind=3->(yu g v x).1 <= -1 /\ -1<=(yu g v x).2):=by
 have h1:=List.all_eq_true.1 hf x hx;have hp':=hp;unfold ProgT.ok at hp';simp only[Bool.and_eq_true,decide_eq_true_eq]at hp';have hxo:=ybet (List.all_eq_true.1 hp'.1.1.2 _ hx);rcases hxo.1 with h | h | h
 ·have e:yu g v x=yu g 0 x:=by unfold yu;rw[if_pos h,if_pos h]
  rw[e];simp[h]at h1;exact⟨h1.1,fun q=>by omega⟩
 ·unfold yu;rw[if_neg (by omega),if_pos h]
  exact⟨by decide,fun q=>by omega⟩
 ·unfold yu;rw[if_neg (by omega),if_neg (by omega),if_pos h]
  exact⟨by simp only[];omega,fun _=>⟨by simp only[];omega,by simp only[];omega⟩⟩
theorem ybpf{p:ProgT}{g:Gr}(hg:GoodG g)(hp:p.ok=true)(hf:yvq p g=true){v:Nat}{s:List Int}(hs:ydm (p.vars.map (yu g v)) s){a:Int}(ha:0<=a/\a<p.vars.length)(y:Int) :
  ydm (p.vars.map (yu g v)) (s.set a.toNat (ygf (p.vars.getD a.toNat default).kind (yu g v (p.vars.getD a.toNat default)) y)):=by
 refine⟨by rw[List.length_set];exact hs.1,fun i b x hb hx=>?_⟩
 by_cases q:a.toNat=i
 ·subst q;have hlt:a.toNat<p.vars.length:=by omega
  rw[List.getElem?_map,List.getElem?_eq_getElem hlt]at hb;cases hb
  have hl:a.toNat<s.length:=by rw[hs.1,List.length_map];exact hlt
  rw[List.getElem?_set_self hl]at hx;cases hx
  rw[getD_at hlt];obtain⟨h1,h2⟩:=ybhp hg hp hf (List.getElem_mem hlt) v;exact ybyv h1 h2 y
 ·rw[List.getElem?_set_ne q]at hx;exact hs.2 i b x hb hx
theorem yuf{p:ProgT}{g:Gr}(hg:GoodG g)(hp:p.ok=true)(hf:yvq p g=true)(c:Conf)(v:Nat):∀ (sets:List (Int × Ex)) (s:List Int),(∀ a ∈ sets,0<=a.1/\a.1<p.vars.length)->ydm (p.vars.map (yu g v)) s->ydm (p.vars.map (yu g v)) (yji p g c v s sets)
 | [],s,_,hs=>hs
 | a :: sets,s,ha,hs=>by
  show ydm _ (yji p g c v (s.set _ _) sets);exact yuf hg hp hf c v sets _ (fun x hx=>ha x (List.mem_cons_of_mem _ hx)) (ybpf hg hp hf hs (ha a List.mem_cons_self) _)
theorem ytb{p:ProgT}{g:Gr}(hg:GoodG g)(hp:p.ok=true)(hf:yvq p g=true){c:Conf}(hc:ydw p g c=true)(s:Nat):ydw p g (yem p g c s)=true:=by
 have h:=(ydy _ _ _).1 hc;refine(ydy _ _ _).2 ⟨by rw[yho];exact h.1,fun v st hst=>?_⟩
 have hv:v<c.length:=by
  have:=(List.getElem?_eq_some_iff.1 hst).1
  rwa [yho]at this
 have e:st=(yem p g c s).getD v []:=by simp[List.getD,hst]
 rw[yky p g c s hv]at e;have hold:=h.2 v (c.getD v []) (by rw[getD_at hv];exact List.getElem?_eq_getElem hv)
 rw[e];split
 ·unfold ywm;refine yuf hg hp hf c v _ _ (fun a ha=>?_) hold;have hp':=hp;unfold ProgT.ok at hp';simp only[Bool.and_eq_true,decide_eq_true_eq]at hp'
  by_cases hr:(yeu p g c v).toNat<p.rules.length
  ·rw[getD_at hr]at ha;have hok:=List.all_eq_true.1 hp'.2 _ (List.getElem_mem hr);unfold RuleT.ok at hok;simp only[Bool.and_eq_true,decide_eq_true_eq]at hok;have:=List.all_eq_true.1 hok.2 a ha;simp only[Bool.and_eq_true,decide_eq_true_eq]at this;exact this.1.1
  ·have:p.rules.getD (yeu p g c v).toNat default=default:=by simp[List.getD,List.getElem?_eq_none (Nat.le_of_not_lt hr)]
   rw[this]at ha;cases ha
 ·exact hold
theorem ylr{p:ProgT}{g:Gr}(hg:GoodG g)(hp:p.ok=true){c:Conf}(hc:ydw p g c=true):(∀ s ∈ c,0<s.length/\s.length<=1000)/\c.length<=1000:=by
 have h:=ygy hg hp hc;have hp':=hp;unfold ProgT.ok at hp';simp only[Bool.and_eq_true,decide_eq_true_eq]at hp';have:=hg.2.1;exact⟨fun s hs=>by have:=(h.row s hs).1;omega,by rw[h.len];omega⟩
theorem ybkb(p:ProgT)(g:Gr)(c:Conf):yw p g c<2 ^ g.ids.length:=ybhm _ _
end Sh
end Go.Proofs.YtiejahgklcjhkaaGreatDoor

namespace Go.Proofs.YtiejahgklcjhkaaGreatDoor
structure Tgt(S:Sys)(V:Conf->Prop)(T:Conf->Nat->List Int):Prop where
 valid:∀ c s,V c->s ≠ 0->subB s (S.en c)->V (S.mv c s)
 stay:∀ c s v,V c->v<S.n->s.testBit v=false->(S.mv c s).getD v []=c.getD v []
 move:∀ c s v,V c->v<S.n->s.testBit v=true->subB s (S.en c)->(S.mv c s).getD v []=T c v
 en:∀ c v,V c->v<S.n->((S.en c).testBit v=false ↔ c.getD v []=T c v)
theorem Tgt.rounds{S:Sys}{V:Conf->Prop}{T:Conf->Nat->List Int}(h:Tgt S V T){P:Nat->Nat->List Int->Prop}(hT:∀ c v r,V c->v<S.n->(∀ u,u<S.n->P r u (c.getD u []))->P (r+1) v (T c v))(hl:∀ r v s,P (r+1) v s->P r v s):ByRounds S V P where
 valid:=h.valid
 stay:=h.stay
 move:=fun c s v r hv hn hb hs hall=>by rw[h.move c s v hv hn hb hs];exact hT c v r hv hn hall
 rest:=fun c v r hv hn hb hall=>by rw[(h.en c v hv hn).1 hb];exact hT c v r hv hn hall
 less:=hl
theorem Tgt.silent{S:Sys}{V:Conf->Prop}{T:Conf->Nat->List Int}(h:Tgt S V T){P:Nat->Nat->List Int->Prop}(hT:∀ c v r,V c->v<S.n->(∀ u,u<S.n->P r u (c.getD u []))->P (r+1) v (T c v)){c:Conf}(hv:V c)(h0:∀ v,v<S.n->P 0 v (c.getD v []))(he:S.en c=0):∀ r v,v<S.n->P r v (c.getD v [])
 | 0,v,hn=>h0 v hn
 | r+1,v,hn=>by
  rw[(h.en c v hv hn).1 (by rw[he];simp)]
  exact hT c v r hv hn (Tgt.silent h hT hv h0 he r)
theorem Sys.run_last{S:Sys}{res:Nat->Nat->Nat}:∀ (ws:List Nat) (c:Conf) (k:Cnt) (i:Nat),i+1<(S.run res ws c k).length -> ∀ p,(S.run res ws c k)[i]? = some p->S.en p.1 ≠ 0
 | [],c,k,i,h,p,hp=>by simp[Sys.run]at h
 | w :: ws,c,k,i,h,p,hp=>by
  unfold Sys.run at h hp;split at h
  ·simp at h
  ·rename_i h0
   rw[if_neg h0]at hp;cases i with
   | zero =>
    simp only[List.getElem?_cons_zero]at hp;cases hp
    simp only[List.length_cons]at h;cases ws with
    | nil=>simp[Sys.run]at h
    | cons w' ws =>
     unfold Sys.run at h;split at h
     ·simp at h
     ·assumption
   | succ i=>exact Sys.run_last ws _ _ i (by simpa using h) p (by simpa using hp)
theorem Sys.runs_last{S:Sys}{res:Nat->Nat->Nat}{ws:List Nat}{c:Conf}{i:Nat}(h:i+1<(S.runs res ws c).length){p:Conf × Cnt}(hp:(S.runs res ws c)[i]? = some p):S.en p.1 ≠ 0:=by
 unfold Sys.runs at h hp;cases i with
 | zero =>
  simp only[List.getElem?_cons_zero]at hp;cases hp
  cases ws with
  | nil=>simp[Sys.run]at h
  | cons w ws =>
   unfold Sys.run at h;split at h
   ·simp at h
   ·assumption
 | succ i=>exact Sys.run_last ws _ _ i (by simpa using h) p (by simpa using hp)
end Go.Proofs.YtiejahgklcjhkaaGreatDoor

namespace Go.Proofs.YtiejahgklcjhkaaGreatDoor
open Go.RowKit

end Go.Proofs.YtiejahgklcjhkaaGreatDoor

namespace Go.Proofs.YtiejahgklcjhkaaGreatDoor
open Go.RowKit

theorem yiy(g:Gr)(G:List Int)(v:Nat):(yco g G v).length=G.length:=by simp[yco]

set_option maxHeartbeats 2000000 in
theorem yln(gv cv Gv:Value)(g:Gr)(c:Conf)(G:List Int)(w:World)(hg:GrAt w gv g)(hc:yced w cv c)(hG:yjq w Gv G)(hgood:GoodG g) :
  Calls Tryz.prog 102 #[gv,cv,Gv] w fun e w'=>e = .returned (.bool (yos g.ports.length (yco g G) c))/\Below w.heap.size w w':=by
 have hn24:=hgood.2.1;have hid:=hgood.2.2.1;have Hid':=Lib.hid hid
 clear hgood
 obtain⟨i,p,rfl,hi,hp⟩:=hg;obtain⟨A,c0,rfl,hA1,hA2⟩:=ybh hi;obtain⟨A2,c2,rfl,hB1,hB2⟩:=ybh hp;obtain⟨A3,c3,rfl,hC1,hC2⟩:=ybh hc;obtain⟨A4,c4,rfl,hD1,hD2⟩:=ybh hG;have Hp:=Lib.hid hp;have Hc:=Lib.hid hc;have HG:=Lib.hid hG
 clear hi hp hc hG
 by_cases n1:c.length=g.ids.length
 ·have n1':((c.length:Int) != (g.ids.length:Int))=false:=by simp[n1]
  have Hn:=Lib.hid (n1.trans hid);have hcn:c.length<=24:=by omega
  clear n1 hid
  go_enter Tryz.func102,Tryz.ntmps102
  go_wp2
  obtain⟨W1,hW1⟩:∃ W,W=w.alloc (.cells #[.slice A g.ids.length c0,.slice A2 g.ports.length c2] 27):=⟨_,rfl⟩;have hbox:W1.cell? ⟨w.heap.size,1,none⟩=some (.slice A2 g.ports.length c2):=by subst hW1;simp
  have HbW:=Lib.hid (show Below w.heap.size w W1 by subst hW1;exact(Below.refl _ _).alloc (Nat.le_refl _) _)
  rw[<- hW1]
  clear hW1
  go_loopg [21] c.length (fun q t wr=>∃ v n:Nat,q+v=c.length/\t = .int .i64 v/\wr=W1.drewN n/\Hid (∀ (u:Nat) s,u<v->c[u]? = some s->ydm (yco g G u) s))
  case atStart=>exact⟨0,0,by omega,rfl,rfl,Lib.hid (fun u s hu=>absurd hu (by omega))⟩
  case round =>
   obtain⟨v,n,hq,rfl,rfl,hok⟩:=hrel
   by_cases hlt:v<c.length
   ·obtain⟨b3,off3,sv,rfl,hb3,hcs,hs⟩:=yga (Hc.out.below (Stable.sl Stable.int) HbW.out) (List.getElem?_eq_getElem hlt);obtain⟨A5,c5,rfl,hE1,hE2⟩:=ybh hs;obtain⟨s,hse⟩:∃ s,c[v]=s:=⟨_,rfl⟩;have Hs?:=Lib.hid (show c[v]? = some s by rw[List.getElem?_eq_getElem hlt,hse])
    rw[hse]at hs hcs hE1;have Hbad:=Lib.hid (show ¬ ydm (yco g G v) s->yos g.ports.length (yco g G) c=false from fun h=>ygw (fun hc=>h (hc.2 v s Hs?.out)))
    have Hs:=Lib.hid hs
    clear hs hse
    by_cases c1:s.length=G.length
    ·have c1':((s.length:Int) != (G.length:Int))=false:=by simp[c1]
     have Hsl:=Lib.hid c1
     clear c1
     have hvp:v<g.ports.length:=by rw[<- Hn.out];exact hlt
     go_wp2
     obtain⟨go,rfl⟩:∃ go,go=gk:=⟨_,rfl⟩
     go_loopg [33] s.length (fun q t wr=>∃ x n:Nat,q+x=s.length/\t = .int .i64 x/\wr=W1.drewN n/\Hid (∀ (j:Nat) b z,j<x->(yco g G v)[j]? = some b->s[j]? = some z->b.1<=z/\z<=b.2))
     case atStart=>exact⟨0,n,by omega,rfl,rfl,Lib.hid (fun j b z hj=>absurd hj (by omega))⟩
     case round =>
      obtain⟨x,n,hqx,rfl,rfl,hst⟩:=hrel
      by_cases hxl:x<s.length
      ·have hxG:x<G.length:=by rw[<- Hsl.out];exact hxl
       obtain⟨b5,o5,rfl,hb5,hc5,hr5⟩:=ygi (Hs.out) hxl;obtain⟨b6,o6,rfl,hb6,hc6,hr6⟩:=ygi (HG.out.below Stable.int HbW.out) hxG;obtain⟨b7,o7,lv,rfl,hb7,hc7,hl7⟩:=yga (Hp.out.below (Stable.sl Stable.link) HbW.out) (List.getElem?_eq_getElem hvp);obtain⟨A8,c8,rfl,hF1,hF2⟩:=ybh hl7;obtain⟨ds,hds⟩:∃ ds,g.ports[v]=ds:=⟨_,rfl⟩;have hdeg:yyd g v=ds.length:=by simp[yyd,List.getD,List.getElem?_eq_getElem hvp,hds]
       rw[hds]at hc7 hF1;obtain⟨y,hy⟩:∃ y,s[x]=y:=⟨_,rfl⟩;obtain⟨h,hh⟩:∃ h,G[x]=h:=⟨_,rfl⟩;have Hy?:=Lib.hid (show s[x]? = some y by rw[List.getElem?_eq_getElem hxl,hy])
       have hb?:(yco g G v)[x]? = some (if h = -1 then(-1,(ds.length:Int) - 1)else(0,h)):=by
        simp[yco,hxG,hh,hdeg]
       rw[hy]at hc5 hr5;rw[hh]at hc6 hr6;obtain⟨hr5a,hr5b⟩:=hr5;obtain⟨hr6a,hr6b⟩:=hr6
       clear hl7 hds hdeg hy hh
       by_cases c2:h = -1
       ·have c2':(h == -1)=true:=by simp[c2]
        rw[if_pos c2]at hb?;have Hb?:=Lib.hid hb?
        clear hb? c2
        by_cases c3:y < -1
        ·have Hf:=Lib.hid (Hbad.out (fun h=>by have:=h.2 x _ y Hb?.out Hy?.out;simp only at this;omega))
         go_wp2
         go_quiet (fail)
         go_wp2
         go_quiet (fail)
         go_wp2
         go_ret
         exact⟨yj Hf.out.symm,below_drewN HbW.out _⟩
        ·by_cases c4:(ds.length:Int) - 1<y
         ·have Hf:=Lib.hid (Hbad.out (fun h=>by have:=h.2 x _ y Hb?.out Hy?.out;simp only at this;omega))
          go_wp2
          go_quiet (fail)
          go_wp2
          go_quiet (fail)
          go_wp2
          go_ret
          exact⟨yj Hf.out.symm,below_drewN HbW.out _⟩
         ·have c4d:decide ((ds.length:Int) - 1<y)=false:=by simp;omega
          go_wp2
          go_quiet (fail)
          go_wp2
          go_quiet (fail)
          go_wp2
          go_roundg (gk - 1)
          case measure=>omega
          case rel =>
           refine⟨x+1,_,by omega,by go_num,rfl,Lib.hid (fun j b z hj hb hz=>?_)⟩
           by_cases hjx:j<x
           ·exact hst.out j b z hjx hb hz
           ·obtain rfl:j=x:=by omega
            rw[Hb?.out]at hb;rw[Hy?.out]at hz;cases hb
            cases hz
            simp only;omega
       ·have c2':(h == -1)=false:=by simp[c2]
        rw[if_neg c2]at hb?;have Hb?:=Lib.hid hb?
        clear hb? c2
        by_cases c3:y<0
        ·have Hf:=Lib.hid (Hbad.out (fun h=>by have:=h.2 x _ y Hb?.out Hy?.out;simp only at this;omega))
         go_wp2
         go_quiet (fail)
         go_wp2
         go_ret
         exact⟨yj Hf.out.symm,below_drewN HbW.out _⟩
        ·by_cases c4:h<y
         ·have Hf:=Lib.hid (Hbad.out (fun h=>by have:=h.2 x _ y Hb?.out Hy?.out;simp only at this;omega))
          go_wp2
          go_quiet (fail)
          go_wp2
          go_ret
          exact⟨yj Hf.out.symm,below_drewN HbW.out _⟩
         ·have c4d:decide (h<y)=false:=by simp;omega
          go_wp2
          go_quiet (fail)
          go_wp2
          go_roundg (gk - 1)
          case measure=>omega
          case rel =>
           refine⟨x+1,_,by omega,by go_num,rfl,Lib.hid (fun j b z hj hb hz=>?_)⟩
           by_cases hjx:j<x
           ·exact hst.out j b z hjx hb hz
           ·obtain rfl:j=x:=by omega
            rw[Hb?.out]at hb;rw[Hy?.out]at hz;cases hb
            cases hz
            simp only;omega
      ·obtain rfl:x=s.length:=by omega
       go_wp2
       go_roundg (go - 1)
       case measure=>omega
       case rel =>
        refine⟨v+1,_,by omega,by go_num,rfl,Lib.hid (fun u s' hu hs'=>?_)⟩
        by_cases huv:u<v
        ·exact hok.out u s' huv hs'
        ·obtain rfl:u=v:=by omega
         rw[Hs?.out]at hs';cases hs'
         refine⟨by rw[yiy,Hsl.out],fun j b z hb hz=>hst.out j b z (List.getElem?_eq_some_iff.1 hz).1 hb hz⟩
    ·have c1':((s.length:Int) != (G.length:Int))=true:=by simp;omega
     have Hf:=Lib.hid (Hbad.out (fun h=>c1 (by rw[h.1,yiy])))
     clear c1
     go_wp2
     go_ret
     exact⟨yj Hf.out.symm,below_drewN HbW.out _⟩
   ·obtain rfl:v=c.length:=by omega
    have Ht:=Lib.hid (ysz (n:=g.ports.length) (bs:=yco g G) (c:=c) ⟨Hn.out,fun v s hs=>hok.out v s (List.getElem?_eq_some_iff.1 hs).1 hs⟩)
    go_wp2
    go_ret
    exact⟨yj Ht.out.symm,below_drewN HbW.out _⟩
 ·have n1':((c.length:Int) != (g.ids.length:Int))=true:=by simp;omega
  have Hf:=Lib.hid (ygw (n:=g.ports.length) (bs:=yco g G) (c:=c) (fun h=>n1 (h.1.trans hid.symm)))
  clear n1 hid
  go_enter Tryz.func102,Tryz.ntmps102
  go_wp2
  go_ret
  exact⟨yj Hf.out.symm,(Below.refl _ _).alloc (Nat.le_refl _) _⟩
end Go.Proofs.YtiejahgklcjhkaaGreatDoor

namespace Go.Proofs.YtiejahgklcjhkaaGreatDoor
open Go.RowKit

end Go.Proofs.YtiejahgklcjhkaaGreatDoor

namespace Go.Proofs.YtiejahgklcjhkaaGreatDoor
def yea(g:Gr):Nat:=(g.ports.map List.length).sum
def addL(back:Bool)(l:List (Int × Int))(x:Int × Int):List (Int × Int):=if back then x :: l else l ++ [x]
theorem ydl{back:Bool}{l:List (Int × Int)}{x y:Int × Int}:y ∈ addL back l x ↔ y=x\/y ∈ l:=by
 unfold addL;cases back<;>simp[or_comm]
def ybn(back:Bool)(g:Gr)(a b:Nat)(w:Int):Gr:=⟨g.ids,(g.ports.set a (addL back (g.ports.getD a []) (b,w))).set b (addL back (g.ports.getD b []) (a,w))⟩
theorem ycx(back:Bool)(g:Gr){a b:Nat}(w:Int)(ha:a<g.ports.length)(hb:b<g.ports.length)(v:Nat) :
  (ybn back g a b w).ports.getD v []=if v=b then addL back (g.ports.getD b []) (a,w)else if v=a then addL back (g.ports.getD a []) (b,w)else g.ports.getD v []:=by
 unfold ybn;simp only[List.getD]
 by_cases h1:v=b
 ·subst h1;rw[if_pos rfl,List.getElem?_set_self (by simpa using hb)]
  rfl
 ·rw[if_neg h1,List.getElem?_set_ne (fun q=>h1 q.symm)]
  by_cases h2:v=a
  ·subst h2;rw[if_pos rfl,List.getElem?_set_self ha];rfl
  ·rw[if_neg h2,List.getElem?_set_ne (fun q=>h2 q.symm)]
theorem yob{back:Bool}{l:List (Int × Int)}{v n:Int}{x:Int × Int}(h:ybl l v n)(hx:yfz v n x)(hno:∀ y ∈ l,y.1 ≠ x.1):ybl (addL back l x) v n:=by
 refine⟨fun y hy=>?_,?_⟩
 ·rcases ydl.1 hy with rfl | hy
  ·exact hx
  ·exact h.1 y hy
 ·have hn:x.1 ∉ l.map (·.1):=fun hm=>by
   obtain⟨y,hy,e⟩:=List.mem_map.1 hm;exact hno y hy e
  unfold addL;cases back
  ·simp only[Bool.false_eq_true,if_false,List.map_append,List.map_cons,List.map_nil];rw[List.nodup_append];refine⟨h.2,by simp,fun p hp q hq=>?_⟩
   rw[List.mem_singleton]at hq;subst hq;intro e;exact hn (e ▸ hp)
  ·simp only[if_true,List.map_cons];exact List.nodup_cons.2 ⟨hn,h.2⟩
theorem yxi{back:Bool}{g:Gr}(hg:GoodG g){a b:Nat}{w:Int}(ha:a<g.ports.length)(hb:b<g.ports.length)(hab:a ≠ b)(hw:1<=w/\w<=15)(hno:∀ y ∈ g.ports.getD a [],y.1 ≠ (b:Int)):GoodG (ybn back g a b w):=by
 obtain⟨h1,h2,h3,h4,h5,h6,h7⟩:=hg;have hlen:(ybn back g a b w).ports.length=g.ports.length:=by simp[ybn]
 have gd:∀ (v:Nat) (hv:v<g.ports.length),g.ports.getD v []=g.ports[v]:=fun v hv=>by simp[List.getD,hv]
 have hno2:∀ y ∈ g.ports.getD b [],y.1 ≠ (a:Int):=fun y hy e=>by
  rw[gd b hb]at hy;have:=h7 ⟨b,hb⟩ y hy;rw[e,Int.toNat_natCast]at this;exact hno _ this rfl
 have at_:∀ (v:Nat) (hv:v<g.ports.length),(ybn back g a b w).ports[v]'(by rw[hlen];exact hv)=if v=b then addL back (g.ports.getD b []) (a,w)else if v=a then addL back (g.ports.getD a []) (b,w)else g.ports.getD v []:=fun v hv=>by
  rw[<- ycx back g w ha hb v];simp[List.getD,hlen,hv]
 refine⟨by rw[hlen];exact h1,by rw[hlen];exact h2,by rw[hlen];exact h3,h4,h5,fun v=>?_,fun v l hl=>?_⟩
 ·have hv:v.1<g.ports.length:=Nat.lt_of_lt_of_eq v.isLt hlen;have hl':(((ybn back g a b w).ports.length:Nat):Int)=(g.ports.length:Int):=by rw[hlen]
  rw[hl'];show ybl ((ybn back g a b w).ports[v.1]) _ _;rw[at_ v.1 hv];split
  ·rename_i e
   rw[e];refine yob ?_ ⟨by simp only[];omega,by simp only[];omega,by simp only[];omega,hw.1,hw.2⟩ hno2
   rw[gd b hb];exact h6 ⟨b,hb⟩
  ·split
   ·rename_i e
    rw[e];refine yob ?_ ⟨by simp only[];omega,by simp only[];omega,by simp only[];omega,hw.1,hw.2⟩ hno
    rw[gd a ha];exact h6 ⟨a,ha⟩
   ·rw[gd v.1 hv];exact h6 ⟨v.1,hv⟩
 ·have hv:v.1<g.ports.length:=Nat.lt_of_lt_of_eq v.isLt hlen
  change l ∈ (ybn back g a b w).ports[v.1]at hl
  rw[at_ v.1 hv]at hl
  have old:∀ u x,x ∈ g.ports.getD u []->x ∈ (ybn back g a b w).ports.getD u []:=fun u x hx=>by
   rw[ycx back g w ha hb u];split
   ·rename_i e;subst e;exact ydl.2 (.inr hx)
   ·split
    ·rename_i e;subst e;exact ydl.2 (.inr hx)
    ·exact hx
  have sym:∀ (u:Nat) (hu:u<g.ports.length),l ∈ g.ports.getD u []->((u:Int),l.2) ∈ (ybn back g a b w).ports.getD l.1.toNat []:=fun u hu hx=>by
   rw[gd u hu]at hx;exact old _ _ (h7 ⟨u,hu⟩ l hx)
  split at hl
  ·rename_i e
   rcases ydl.1 hl with rfl | hl
   ·rw[ycx back g w ha hb,e];simp only[Int.toNat_natCast];simp only[if_neg hab,if_true];exact ydl.2 (.inl rfl)
   ·rw[e];exact sym b hb hl
  ·split at hl
   ·rename_i e
    rcases ydl.1 hl with rfl | hl
    ·rw[ycx back g w ha hb,e];simp only[Int.toNat_natCast];simp only[if_true];exact ydl.2 (.inl rfl)
    ·rw[e];exact sym a ha hl
   ·exact sym v.1 hv hl
end Go.Proofs.YtiejahgklcjhkaaGreatDoor

namespace Go.Proofs.YtiejahgklcjhkaaGreatDoor
def Tre(g:Gr)(m:Nat):Prop:=∀ v,0<v->v<m -> ∃ u,u<v/\adj g u v
theorem Tre.walk{g:Gr}{m:Nat}(h:Tre g m):∀ v,v<m -> ∃ k,Walk g 0 k v:=by
 intro v
 induction v using Nat.strongRecOn with
 | _ v ih =>
  intro hv
  by_cases h0:v=0
  ·subst h0;exact⟨0,rfl⟩
  ·obtain⟨u,hu,ha⟩:=h v (by omega) hv
   obtain⟨k,hk⟩:=ih u hu (by omega)
   exact⟨k+1,u,hk,ha⟩
theorem Tre.conn{g:Gr}(hg:GoodG g)(h:Tre g g.ports.length):yow g=true:=by
 unfold yow;rw[(ybx g).2 hg,Bool.true_and,ybdb hg (a:=0) (by have:=hg.1;omega)]
 exact h.walk
theorem yec{g:Gr}{u v:Nat}:adj g u v ↔ ∃ l,l ∈ g.ports.getD u []/\l.1=(v:Int):=by
 constructor
 ·rintro⟨ls,h,l,hl,e⟩;exact⟨l,by simpa [List.getD,h]using hl,e⟩
 ·rintro⟨l,hl,e⟩;cases h:g.ports[u]? with
  | none=>simp[List.getD,h]at hl
  | some ls=>exact⟨ls,h,l,by simpa [List.getD,h]using hl,e⟩
theorem ybeu{back:Bool}{g:Gr}{a b:Nat}{w:Int}(ha:a<g.ports.length)(hb:b<g.ports.length){u v:Nat}(h:adj g u v):adj (ybn back g a b w) u v:=by
 obtain⟨l,hl,e⟩:=yec.1 h;refine yec.2 ⟨l,?_,e⟩;rw[ycx back g w ha hb u];split
 ·rename_i q;subst q;exact ydl.2 (.inr hl)
 ·split
  ·rename_i q;subst q;exact ydl.2 (.inr hl)
  ·exact hl
theorem ybdm{back:Bool}{g:Gr}{a b:Nat}{w:Int}(ha:a<g.ports.length)(hb:b<g.ports.length)(hab:a ≠ b):adj (ybn back g a b w) a b:=by
 refine yec.2 ⟨((b:Int),w),?_,rfl⟩;rw[ycx back g w ha hb a,if_neg hab,if_pos rfl];exact ydl.2 (.inl rfl)
theorem Tre.add{back:Bool}{g:Gr}{a b:Nat}{w:Int}(ha:a<g.ports.length)(hb:b<g.ports.length){m:Nat}(h:Tre g m):Tre (ybn back g a b w) m:=fun v h0 hv=>by
 obtain⟨u,hu,hadj⟩:=h v h0 hv;exact⟨u,hu,ybeu ha hb hadj⟩
def bare(ids:List Int):Gr:=⟨ids,List.replicate ids.length []⟩
theorem bare_good{ids:List Int}(h1:1<=ids.length)(h2:ids.length<=24)(h3:∀ x ∈ ids,0<=x/\x<=255)(h4:ids.Nodup):GoodG (bare ids):=by
 have e:∀ v:Fin (bare ids).ports.length,(bare ids).ports[v] = []:=fun v=>by
  have hv:v.1<ids.length:=by have:=v.isLt;simpa [bare]using this
  show(List.replicate ids.length ([]:List (Int × Int)))[v.1]'(by simpa using hv) = []
  exact List.getElem_replicate ..
 refine⟨by simpa [bare]using h1,by simpa [bare]using h2,by simp[bare],h3,h4,fun v=>?_,fun v l hl=>?_⟩
 ·rw[e v];exact⟨fun l hl=>(nomatch hl),List.nodup_nil⟩
 ·rw[e v]at hl;cases hl
end Go.Proofs.YtiejahgklcjhkaaGreatDoor

namespace Go.Proofs.YtiejahgklcjhkaaGreatDoor
abbrev yzo:Ex:=.leaf 4 0
abbrev eVar(k:Int):Ex:=.leaf 5 k
abbrev eQ(k:Int):Ex:=.leaf 12 k

theorem ybay{α:Type}(g:Gr)(v:Nat)(f:Int × Int->α)(h:Nat->α)(e:∀ q,q<(g.ports.getD v []).length->h q=f ((g.ports.getD v []).getD q (0,0))):(List.range (g.ports.getD v []).length).map h=(g.ports.getD v []).map f:=by
 refine List.ext_getElem (by simp) fun i h1 h2=>?_
 have hi:i<(g.ports.getD v []).length:=by simpa using h1
 rw[List.getElem_map,List.getElem_range,List.getElem_map,e i hi];congr 1;rw[List.getD_eq_getElem?_getD,List.getElem?_eq_getElem hi];rfl
theorem ywh(f:Int × Int->Bool)(ls:List (Int × Int)):yda (ls.map fun l=>ybf (f l))=yxf f ls:=by
 unfold yda yxf
 have:((fun x:Int=>x != 0) ∘ fun l=>ybf (f l))=f:=by
  funext l
  show(ybf (f l) != 0)=f l;unfold ybf;cases f l<;>rfl
 rw[List.findIdx?_map,this]
 all_goals (cases List.findIdx? f ls<;>rfl)

def endP(c:Conf)(k:Nat)(l:Int × Int):Int:=(c.getD l.1.toNat []).getD k 0
theorem yqe(b:Bool):(ybf b != 0)=b:=by cases b<;>rfl
section
variable {nm nd np nt nl:ByteArray} {g:Gr} {c:Conf} {v:Nat}
theorem bT3{x:ByteArray}:yu g v ⟨x,3,0,0,0,0⟩=(-1,((g.ports.getD v []).length:Int) - 1):=by
 show(if (3:Int)=1 then _ else if (3:Int)=2 then _ else if (3:Int)=3 then _ else _)=_
 rw[if_neg (by decide),if_neg (by decide),if_pos rfl]
end
end Go.Proofs.YtiejahgklcjhkaaGreatDoor

namespace Go.Proofs.YtiejahgklcjhkaaGreatDoor
section
variable {g:Gr} {a v:Nat}
theorem yfi(hg:GoodG g)(hc:yow g=true)(ha:a<g.ports.length)(hv:v<g.ports.length):∃ k:Nat,(ydo g a).getD v 0=k/\Walk g a k v/\(∀ j,j<k -> ¬ Walk g a j v)/\k<g.ports.length:=by
 have h0:0<g.ports.length:=by omega
 have hall:(ydo g a).all (fun x=>decide (0<=x))=true:=ybww hg h0 ha ((Bool.and_eq_true _ _ ▸ hc).2);have hl:=yzw hg ha;have hvl:v<(ydo g a).length:=by rw[hl];exact hv
 have e:(ydo g a).getD v 0=(ydo g a)[v]:=by simp[List.getD,hvl]
 have hpos:0<=(ydo g a)[v]:=by simpa using List.all_eq_true.1 hall _ (List.getElem_mem hvl)
 rcases(yhs hg ha).2 v _ (List.getElem?_eq_getElem hvl)with⟨h,_⟩ | ⟨k,h1,h2,h3⟩
 ·omega
 ·exact⟨k,by rw[e,h1],h2,h3,ybsa hg ha h2 h3⟩
theorem ycui{k:Nat}(hg:GoodG g)(hc:yow g=true)(ha:a<g.ports.length)(hv:v<g.ports.length)(h1:Walk g a k v)(h2:∀ j,j<k -> ¬ Walk g a j v):(ydo g a).getD v 0=k:=by
 obtain⟨j,e,h3,h4,_⟩:=yfi hg hc ha hv;rcases Nat.lt_trichotomy j k with h | h | h
 ·exact absurd h3 (h2 j h)
 ·rw[e,h]
 ·exact absurd h1 (h4 k h)
theorem ybvr(hg:GoodG g)(hc:yow g=true)(ha:a<g.ports.length):(ydo g a).getD a 0=0:=ycui hg hc ha ha (k:=0) rfl fun j hj=>by omega
theorem ycst(hg:GoodG g)(hc:yow g=true)(ha:a<g.ports.length)(hv:v<g.ports.length):0<=(ydo g a).getD v 0/\(ydo g a).getD v 0<g.ports.length:=by
 obtain⟨k,e,_,_,h⟩:=yfi hg hc ha hv;omega
theorem ybzv(hg:GoodG g)(hc:yow g=true)(ha:a<g.ports.length)(hv:v<g.ports.length)(hne:v ≠ a):1<=(ydo g a).getD v 0:=by
 obtain⟨k,e,h1,_,_⟩:=yfi hg hc ha hv;cases k with
 | zero=>exact absurd h1 hne
 | succ k=>omega
theorem ybxe(hg:GoodG g)(hc:yow g=true)(ha:a<g.ports.length){u:Nat}(h:adj g u v):(ydo g a).getD v 0<=(ydo g a).getD u 0+1:=by
 obtain⟨hu,hv⟩:=hg.adj_lt h;obtain⟨k,e,h1,_,_⟩:=yfi hg hc ha hu;obtain⟨j,e',_,h3,_⟩:=yfi hg hc ha hv;rw[e,e'];rcases Nat.lt_or_ge (k+1) j with q | q
 ·exact absurd ⟨u,h1,h⟩ (h3 (k+1) q)
 ·omega
theorem ybqx(hg:GoodG g)(hc:yow g=true)(ha:a<g.ports.length)(hv:v<g.ports.length)(hne:v ≠ a):∃ u,adj g v u/\(ydo g a).getD u 0=(ydo g a).getD v 0 - 1:=by
 obtain⟨k,e,h1,h2,_⟩:=yfi hg hc ha hv;cases k with
 | zero=>exact absurd h1 hne
 | succ k =>
  obtain⟨u,h3,h4⟩:=h1;refine⟨u,hg.adj_symm h4,?_⟩;have h5:=ybxe hg hc ha h4;obtain⟨hu,_⟩:=hg.adj_lt h4;obtain⟨j,e',_,h6,_⟩:=yfi hg hc ha hu;rw[e,e']at h5;rcases Nat.lt_or_ge k j with q | q
  ·exact absurd h3 (h6 k q)
  ·rw[e,e'];omega
theorem mem_adj{l:Int × Int}(hg:GoodG g)(hv:v<g.ports.length)(hl:l ∈ g.ports.getD v []):0<=l.1/\l.1.toNat<g.ports.length/\adj g v l.1.toNat/\1<=l.2/\l.2<=15:=by
 have e:g.ports[v]? = some (g.ports.getD v []):=by simp[List.getD,hv]
 have h:=hg.link e hl;exact⟨h.1,by omega,⟨_,e,l,hl,by omega⟩,h.2.2.2.1,h.2.2.2.2⟩
theorem yhz{u:Nat}(h:adj g v u):∃ l ∈ g.ports.getD v [],l.1.toNat=u:=by
 obtain⟨l,hl,e⟩:=yec.1 h;exact⟨l,hl,by rw[e];simp⟩
end
section
variable {nm nd np nt nl:ByteArray} {g:Gr}
end
end Go.Proofs.YtiejahgklcjhkaaGreatDoor

