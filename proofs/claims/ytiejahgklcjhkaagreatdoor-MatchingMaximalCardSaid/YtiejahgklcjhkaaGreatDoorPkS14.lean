/- Joined. -/
import Derived.Test.YtiejahgklcjhkaaGreatDoorPkS13
set_option linter.unusedSimpArgs false
set_option linter.unusedVariables false
set_option maxRecDepth 8000
open Nat renaming reduceEqDiff→zA,reduceAdd→zB,reduceLeDiff→zF,reduceLT→zH,le_refl→zL,pow_lt_pow_right→zQ,testBit_two_pow_sub_one→zV,shiftRight_eq_div_pow→zX,zero_mul→zAA,testBit_lt_two_pow→zAC,pow_le_pow_right→zAF,lt_of_le_of_lt→zAI,lt_of_lt_of_le→zAJ,lt_of_lt_of_eq→zAL,zero_le→zAO,testBit_and→zAR,lt_irrefl→zAV,sub_self→zAX,lt_or_ge→zBA
open Go.Lib renaming hid→zC
open List renaming getElem?_eq_getElem→zD,getD→zK,getElem_mem→zM,getElem?_set_self→zO,getElem?_set_ne→zS,getElem_of_mem→zT,map_cons→zW,getElem?_cons_zero→zAB,range_succ_eq_map→zAD,mem_of_mem_take→zAE,mem_cons_of_mem→zAG,getD_cons_zero→zAH,mem_cons_self→zAK,nodup_append→zAN,take_length→zAP,getElem_map→zAQ,length_map→zAS,range→zAT,replicate→zAU,map_map→zAY
open Go.Proofs.Tryz renaming prog→zG,func96→zU,ntmps96→zY,zeroCells195→zAM,ntmps102→zAW,func102→zAZ
open Bool renaming and_eq_true→zI
open Int renaming toNat_natCast→zJ,natCast_zero→zZ
open BitVec renaming ofInt→zN
open Go
namespace Go.Proofs.YtiejahgklcjhkaaGreatDoor
section
open Go.RowKit
theorem ybdk:zAM=Array.replicate 256 (.bool false):=by kernel_rfl
def Seen(w:World)(g:Nat)(S:List Int):Prop:=∃cur,w.heap[g]?=some (.cells cur 195 (0,0))/\cur.size=256/\∀i:Nat,i<256->cur[i]?=some (.bool (decide ((i:Int)∈S)))
theorem Seen.cell{w:World}{g:Nat}{S:List Int}(h:Seen w g S){i:Nat}(hi:i<256):w.cell? ⟨g,i,none⟩=some (.bool (decide ((i:Int)∈S))):=by
 obtain⟨cur,h1,h2,h3⟩:=h;simp[World.cell?,h1,h3 i hi]
theorem Seen.frozen{w:World}{g:Nat}{S:List Int}(h:Seen w g S)(i:Nat):w.frozen? ⟨g,i,none⟩=false:=by
 obtain⟨cur,h1,h2,h3⟩:=h;simp[World.frozen?,h1]
theorem Seen.set_{w:World}{g:Nat}{S:List Int}(h:Seen w g S){i:Nat}:Seen (w.setCell ⟨g,i,none⟩ (.bool true)) g (S++[(i:Int)]):=by
 obtain⟨cur,h1,h2,h3⟩:=h;refine⟨cur.setIfInBounds i (.bool true),by simp[World.setCell,Array.getElem?_modify,h1],by simp[h2],fun j hj=>?_⟩
 rw[Array.getElem?_setIfInBounds];split
 ·subst_vars
  rw[if_pos (by omega)]
  simp
 ·rw[h3 j hj];congr 3;simp;omega
theorem Seen.start(w:World):Seen (w.alloc (.cells zAM 195)) w.heap.size []:=by
 refine⟨_,heap_alloc_new w _,by rw[ybdk];simp,fun i hi=>?_⟩
 rw[ybdk];simp[hi]
def ybhr(ids:List Int):Bool:=decide ((∀x∈ids,0<=x/\x<=255)/\ids.Nodup)
def yue(ids:List Int)(k:Nat):Prop:=(∀x∈ids.take k,0<=x/\x<=255)/\(ids.take k).Nodup
theorem ybtr{ids:List Int}{k:Nat}(hk:k<ids.length):yue ids (k+1)↔yue ids k/\(0<=ids[k]/\ids[k]<=255)/\ids[k]∉ids.take k:=by
 unfold yue;rw[take_snoc ids k hk,zAN];constructor
 ·rintro⟨h1,h2,_,h3⟩;exact⟨⟨fun x hx=>h1 x (List.mem_append_left _ hx),h2⟩,h1 _ (List.mem_append_right _ (by simp)),fun hm=>h3 _ hm _ (by simp) rfl⟩
 ·rintro⟨⟨h1,h2⟩,h3,h4⟩;refine⟨fun x hx=>?_,h2,by simp,fun a ha b hb e=>?_⟩
  ·rcases List.mem_append.1 hx with hx|hx
   ·exact h1 x hx
   ·simp at hx;subst hx;exact h3
  ·simp at hb;subst hb e;exact h4 ha
theorem ybgb{ids:List Int}{k:Nat}(h:¬yue ids k):ybhr ids=false:=by
 unfold ybhr;rw[decide_eq_false_iff_not];exact fun hd=>h ⟨fun x hx=>hd.1 x (zAE hx),hd.2.sublist (List.take_sublist _ _)⟩
theorem ybmk{ids:List Int}(h:yue ids ids.length):ybhr ids=true:=by
 unfold yue at h;rw[zAP]at h;exact decide_eq_true h
set_option maxRecDepth 100000 in
set_option maxHeartbeats 1000000 in
theorem yrc(iv:Value)(ids:List Int)(w:World)(hi:ymo w iv ids) :
 Calls zG 152 #[iv] w fun e w'=>e = .returned (.bool (ybhr ids))/\Below w.heap.size w w':=by
 obtain⟨A,c,rfl,hA1,hA2⟩:=ybw hi;have Hi:=zC hi
 clear hi
 go_enter Tryz.func152,Tryz.ntmps152
 go_wp2
 go_loopg [8] ids.length (fun q t wr=>∃k:Nat,q+k=ids.length/\t = .int .i64 k/\Hid (Below w.heap.size w wr)/\Hid (Seen wr w.heap.size (ids.take k))/\Hid (yue ids k))
 case atStart=>exact⟨0,by omega,rfl,zC ((Below.refl _ _).alloc (zL _) _),zC (Seen.start w),zC ⟨by simp,by simp⟩⟩
 case round =>
  obtain⟨k,hq,rfl,hbel,hseen,hok⟩:=hrel
  by_cases hlt:k<ids.length
  ·obtain⟨b,off,rfl,hb,hcid,hr⟩:=yih (Hi.out.below Stable.int hbel.out) hlt;obtain⟨x,hx⟩:∃x,ids[k]=x:=⟨_,rfl⟩;have Hsn:=zC (ybtr hlt);rw[hx]at hcid hr Hsn;obtain⟨hr1,hr2⟩:=hr;have Hbad:=zC (fun h=>ybgb (ids:=ids) (k:=k+1) h);have Hts:=zC (take_snoc ids k hlt);rw[hx]at Hts
   clear hx
   by_cases c1:0<=x/\x<=255
   ·obtain⟨c1a,c1b⟩:=c1;obtain⟨n,rfl⟩:=Int.eq_ofNat_of_zero_le c1a;have hcs:=hseen.out.cell (i:=n) (by omega)
    have hfs:=hseen.out.frozen n
    by_cases c2:(n:Int)∈ids.take k
    ·rw[decide_eq_true c2]at hcs;have Hf:=zC (Hbad.out (fun h=>(Hsn.out.1 h).2.2 c2))
     clear c2
     go_wp2
     go_ret
     exact⟨ybi Hf.out.symm,hbel.out⟩
    ·rw[decide_eq_false c2]at hcs;have Hn:=zC (Hsn.out.2 ⟨hok.out,⟨by omega,by omega⟩,c2⟩)
     clear c2
     go_wp2
     go_roundg (gk-1)
     case measure=>omega
     case rel =>
      refine⟨k+1,by omega,by go_num,zC (hbel.out.setCell (zL _) _),zC ?_,Hn⟩
      rw[Hts.out];exact hseen.out.set_
   ·have Hf:=zC (Hbad.out (fun h=>c1 (Hsn.out.1 h).2.1))
    by_cases c3:x<0
    ·clear c1
     go_wp2
     go_ret
     exact⟨ybi Hf.out.symm,hbel.out⟩
    ·have c4:255<x:=by omega
     clear c1
     go_wp2
     go_ret
     exact⟨ybi Hf.out.symm,hbel.out⟩
  ·obtain rfl:k=ids.length:=by omega
   have Ht:=zC (ybmk hok.out)
   go_wp2
   go_ret
   exact⟨ybi Ht.out.symm,hbel.out⟩
theorem ybwb(g:Gr)(h1:1<=g.ids.length)(h2:g.ids.length<=24)(h3:g.ports.length=g.ids.length):yec g=(ybhr g.ids&&symB g.ports):=by
 unfold yec ybhr symB;rw[<-Bool.decide_and];congr 1;apply propext;unfold yw ycdb;constructor
 ·rintro⟨_,_,_,h4,h5,h6,h7⟩;exact⟨⟨h4,h5⟩,h6,h7⟩
 ·rintro⟨⟨h4,h5⟩,h6,h7⟩;exact⟨by omega,by omega,by omega,h4,h5,h6,h7⟩
set_option maxHeartbeats 1000000 in
theorem ybsa(gv:Value)(g:Gr)(w:World)(hg:GrAt w gv g) :
 Calls zG 96 #[gv] w fun e w'=>e = .returned (.bool (yec g))/\Below w.heap.size w w':=by
 obtain⟨i,p,rfl,hi,hp⟩:=hg;obtain⟨A,c,rfl,hA1,hA2⟩:=ybw hi;obtain⟨A2,c2,rfl,hB1,hB2⟩:=ybw hp;have Hi:=zC hi;have Hp:=zC hp
 clear hi hp
 by_cases n1:1<=g.ids.length
 ·by_cases n2:g.ids.length<=24
  ·by_cases n3:g.ports.length=g.ids.length
   ·have n3':((g.ports.length:Int)!=(g.ids.length:Int))=false:=by simp[n3]
    have He:=zC (ybwb g n1 n2 n3);have n3a:g.ports.length<=24:=by omega
    clear n3
    go_enter zU,zY
    go_wp2_with fail
    refine(yrc _ g.ids _ (Hi.out.below Stable.int ((Below.refl _ _).alloc (zL _) _))).mono ?_;rintro e w1 ⟨rfl,hb1⟩;have Hb1:=zC (ybjp hb1);obtain⟨q0,q1⟩:=ycgj hb1
    clear hb1
    cases hd:ybhr g.ids with
    | false =>
      have Hv:=zC (show yec g=false by rw[He.out,hd];rfl)
      go_wp2_with fail
      go_ret
      exact⟨ybi Hv.out.symm,Hb1.out⟩
    | true =>
      have Hv:=zC (show yec g=symB g.ports by rw[He.out,hd];rfl)
      go_wp2_with fail
      refine(ynr _ g.ports _ (Hp.out.below (Stable.sl Stable.link) Hb1.out) (by omega)).mono ?_
      rintro e w2 ⟨rfl,hb2⟩
      go_wp2_with fail
      go_ret
      exact⟨ybi Hv.out.symm,Hb1.out.trans (hb2.mono Hb1.out.size)⟩
   ·have n3':((g.ports.length:Int)!=(g.ids.length:Int))=true:=by simp;omega
    have Hf:=zC (yeg (g:=g) (fun h=>n3 h.2.2.symm))
    clear n3
    go_enter zU,zY
    go_wp2
    go_ret
    exact⟨ybi Hf.out.symm,(Below.refl _ _).alloc (zL _) _⟩
  ·have Hf:=zC (yeg (g:=g) (fun h=>n2 (by omega)))
   go_enter zU,zY
   go_wp2
   go_ret
   exact⟨ybi Hf.out.symm,(Below.refl _ _).alloc (zL _) _⟩
 ·have Hf:=zC (yeg (g:=g) (fun h=>n1 (by omega)))
  go_enter zU,zY
  go_wp2
  go_ret
  exact⟨ybi Hf.out.symm,(Below.refl _ _).alloc (zL _) _⟩
end
section
namespace Sh
open Go Ev Go.RowKit
theorem ygs{x:Int}(h:-4611686018427387904<=x/\x<=4611686018427387904):I64 x:=by
 unfold I64;omega
theorem ybmn{g:Gr}(hg:yw g):GrI g:=by
 obtain⟨h1,h2,h3,h4,h5,h6,h7⟩:=hg;refine⟨fun x hx=>ygs (by have:=h4 x hx;omega),fun ls hls l hl=>?_⟩
 obtain⟨v,hv,rfl⟩:=zT hls;obtain⟨a1,a2,a3,a4,a5⟩:=(h6 ⟨v,hv⟩).1 l hl;exact⟨ygs (by omega),ygs (by omega)⟩
theorem yvq{g:Gr}(hI:GrI g):Returns zG 96 [grV g] (.b (yec g)):=by
 refine ybjh ⟨_,_,zU,rfl⟩ (fun _=>.b) (fun _=>.simple rfl) fun G m us hG hr φ M w us' hR hs hv=>?_;obtain⟨u,rfl,h1⟩:=rvl1 hr;obtain⟨u',rfl,h2⟩:=yfy hv;exact ybsa u' g w (ycyc hG h1 h2 hR hs hI)
end Sh
end
section
namespace Sh
open Go Ev Go.RowKit
theorem ycaj{g:Gr}(hg:yw g){x:VarR}(hx:x.ok=true)(v:Nat):-4096<=(ybh g v x).1/\(ybh g v x).2<=100000:=by
 obtain⟨h1,h2,h3,h4,h5⟩:=ybij hx;obtain⟨h6,h7⟩:=ynk hg hx;have h8:=hg.deg_lt (v:=v);unfold ybh;split
 ·exact⟨by simp only[];omega,by simp only[];omega⟩
 ·split
  ·exact⟨by simp only[];omega,by simp only[];omega⟩
  ·split
   ·exact⟨by simp only[];omega,by simp only[];omega⟩
   ·exact⟨by simp only[];omega,by simp only[];omega⟩
theorem yjc{p:ProgT}{g:Gr}(hg:yw g)(hp:p.ok=true){c:Conf}(hc:yga p g c=true):ConfIn g.ports.length p.vars.length c:=by
 have h:=(yfc _ _ _).1 hc;have hp':=hp;unfold ProgT.ok at hp';simp only[zI,decide_eq_true_eq]at hp';refine⟨h.1.trans hg.2.2.1,fun s hs=>?_⟩;obtain⟨v,hv,rfl⟩:=zT hs;have h2:=h.2 v _ (zD hv);have hl:(c[v]).length=p.vars.length:=by have:=h2.1;simpa using this
 refine⟨hl,fun x hx=>?_⟩;obtain⟨i,hi,rfl⟩:=zT hx;have hi':i<p.vars.length:=by omega
 have h3:=h2.2 i (ybh g v p.vars[i]) _ (by simp[hi']) (zD hi)
 have h4:=ycaj hg (List.all_eq_true.1 hp'.1.1.2 _ (zM hi')) v;unfold InB;omega
structure Checked(Q1 Q2:(Nat->Option ABlk)->Value->Prop)(p:ProgT)(g:Gr):Prop where
 hg:yw g
 hp:p.ok=true
 hf:yve p g=true
 hV:Returns zG 191 [.ag (ygz Q1 Q2 p.raw)] (.b true)
theorem Checked.gv{Q1 Q2:(Nat->Option ABlk)->Value->Prop}{p:ProgT}{g:Gr}(h:Checked Q1 Q2 p g):Returns zG 96 [grV g] (.b true):=by
 have e:=yvq (ybmn h.hg);rw[(yfn g).2 h.hg]at e;exact e
section
variable {Q1 Q2:(Nat->Option ABlk)->Value->Prop}{p:ProgT}{g:Gr}
theorem ybuk(h:Checked Q1 Q2 p g)(c:Conf):Returns zG 112 [.ag (ygz Q1 Q2 p.raw),grV g,ybk c] (.i .i64 (if yga p g c then 0 else 10)):=by
 refine Returns.of (ycxx _ _ ?_);have hp':=h.hp;unfold ProgT.ok at hp';simp only[zI,decide_eq_true_eq]at hp';have hid:=h.hg.2.2.1;have h24:=h.hg.2.1;have hF:=yccc p h.hg h.hp h.hf h.hV h.gv;have hT:=ybdp p.raw h.hg hp'.1.1.2 hp'.1.1.1.2;have hW:=ybms (n:=g.ids.length) p.vars (by omega) (ybh g) c (by omega)
 simp only[ygz,grV]at hF hT;simp only[c112,ycpg,ycvo,ygz,grV,go_sem,zA,zB,zH,↓reduceIte,reduceCtorEq];refine hF.use ?_;simp only[ybf,ycjm,ycsl,ycws,go_sem,zA,zB,↓reduceIte,reduceCtorEq];refine⟨fun h=>absurd rfl h,hT.useS ?_ ?_⟩
 ·exact⟨ytx ⟨Sim.refl _,ysu _ _,ysu _ _,trivial⟩,Sim.refl _,trivial⟩
 simp only[yjf]at hW ⊢;simp only[go_sem,↓reduceIte];refine hW.use ?_;simp only[go_sem];have hcf:∀b,yrh g.ids.length (fun v=>p.vars.map (ybh g v)) c=b->yga p g c=b:=fun b h=>h;refine⟨fun h1=>?_,fun h1=>?_⟩
 ·simp only[ycrk,hcf _ h1,yba,go_sem,↓reduceIte]
 ·simp only[ycsx,hcf _ h1,yba,go_sem,↓reduceIte]
theorem ybmm(k:Int):Returns zG 108 [.i .i64 k] (.b (decide (1<=k)&&decide (k<=4))):=by
 refine Returns.of (ydcm _ _ ?_);simp only[c108,ycpv,ycje,ykz,go_sem,zA,zB,↓reduceIte,reduceCtorEq]
 by_cases h:k>=1<;>simp[h]
end
end Sh
end
section
theorem yob(s a:Nat):∀b,yfb s (a+b)=yfb s a+yfb (s>>>a) b
 |0=>rfl
 | b+1=>by
   show yfb s (a+b)+(s.testBit (a+b)).toNat=_;rw[yob s a b];show _=yfb s a+(yfb (s>>>a) b+((s>>>a).testBit b).toNat);rw[Nat.testBit_shiftRight];omega
theorem yoj(s:Nat):∀b,b<=8->yfb (s&&&255) b=yfb s b
 |0,_=>rfl
 | b+1,h=>by
   show yfb _ b+_=yfb s b+_;rw[yoj s b (by omega),zAR,show(255:Nat)=2^8-1 from rfl,zV]
   simp[show b<8 by omega]
theorem ybpd(s:Nat):popP s=yfb (s>>>24&&&255) 8+yfb (s>>>16&&&255) 8+yfb (s>>>8&&&255) 8+yfb (s&&&255) 8:=by
 simp only[yoj _ 8 (zL _)];have h1:=yob s 8 24;have h2:=yob (s>>>8) 8 16;have h3:=yob (s>>>8>>>8) 8 8;simp only[<-Nat.shiftRight_add,zB]at h1 h2 h3;unfold popP;omega
namespace Sh
open Ev Go.RowKit
theorem yys:∀k,k<256->yxb.getD k 0=yfb k 8:=by decide
theorem yddz:yxb.length=256:=by decide
theorem ydfi(a v:Nat):(a:Int).fdiv (2^v)=((a>>>v:Nat):Int):=by
 have h:=ybqa (a:=a) (v:=v)
 rwa [zJ]at h
theorem ycrj{a:Nat}(ha:a<2^32):IntKind.wrap .u32 (((zN (IntKind.bits .u32) (a:Int))&&&zN (IntKind.bits .u32) 255).toNat:Int)=((a&&&255:Nat):Int):=u32_and (b:=255) ha (by decide)
theorem ydfw{a n:Nat}(h:a<2^32):a>>>n<2^32:=by rw[zX];exact zAI (Nat.div_le_self _ _) h
theorem ycay{s:Nat}(hs:s<2^32):Returns zG 104 [.i .u32 s] (.i .i64 (popP s)):=by
 refine Returns.of (ycyo _ _ ?_);simp only[c104,ycml,ycwp,clash,go_sem,Int.reduceToNat,zA,zB,↓reduceIte,reduceCtorEq];have f1:=ycrj hs;have f2:=fun n=>ycrj (ydfw (n:=n) hs);simp only[IntKind.bits]at f1 f2;simp only[ydfi,f1,f2,zJ,yddz];have hp:=ybpd s;have l1:s>>>24<256:=by rw[zX];omega
 have b1:∀x:Nat,x&&&255<256:=fun x=>zAI Nat.and_le_right (by omega)
 rw[yoj (s>>>24) 8 (zL _)]at hp;rw[yys _ l1,yys _ (b1 (s>>>16)),yys _ (b1 (s>>>8)),yys _ (b1 s)];have q1:=yko (s>>>24) 8;have q2:=yko (s>>>16&&&255) 8;have q3:=yko (s>>>8&&&255) 8;have q4:=yko (s&&&255) 8;have w1:=b1 (s>>>16);have w2:=b1 (s>>>8);have w3:=b1 s;have u8k:∀x:Int,0<=x->x<=255->inK .u8 x:=fun x h1 h2=>⟨by simpa[IntKind.min,IntKind.signed]using h1,by simpa[IntKind.max,IntKind.bits,IntKind.signed]using h2⟩
 refine⟨⟨by omega,by decide⟩,⟨by omega,by omega⟩,⟨by omega,by decide⟩,by omega,u8k _ (by omega) (by omega),⟨by omega,by decide⟩,by omega,u8k _ (by omega) (by omega),by omega,u8k _ (by omega) (by omega),?_⟩
 rw[wrap_in (ikw (by omega) (by omega)),hp]
 exact Sim.refl _
def cntV(k:Cnt):List SV:=[.i .i64 k.steps,.i .i64 k.moves,.i .i64 k.rounds,.i .i64 k.begun,.i .u32 k.pend]
theorem ybxb{e:Nat}(he:e<2^24):Returns zG 195 [.i .u32 e] (.ag (cntV (ydw e))):=by
 refine Returns.of (yczq _ _ ?_);simp only[c195,yckk,ycmw,go_sem,zA,zB,zH,↓reduceIte,reduceCtorEq];have e1:e&&&16777215=e:=by rw[show(16777215:Nat)=2^24-1 from rfl,Nat.and_two_pow_sub_one_of_lt_two_pow he]
 have e2:IntKind.wrap .u32 (((zN (IntKind.bits .u32) (e:Int))&&&zN (IntKind.bits .u32) 16777215).toNat:Int)=((e&&&16777215:Nat):Int):=u32_and (b:=16777215) (by omega) (by decide)
 simp only[IntKind.bits]at e2;rw[e2,e1];exact Sim.refl _
def usV(l:List Nat):SV:=.sl 1 l.length (fun k=>[.i .u32 ((l.getD k 0:Nat):Int)])
theorem ydra{a:Nat}(ha:a<2^24):IntKind.wrap .u32 (((zN (IntKind.bits .u32) (a:Int)) &&& ~~~zN (IntKind.bits .u32) 16777215).toNat:Int)=0:=by
 have h:=u32_andNot (a:=a) (b:=16777215) (by omega) (by decide)
 have e:difB a 16777215=0:=by
  rw[ycb];intro i;rw[yhj,show(16777215:Nat)=2^24-1 from rfl,zV]
  by_cases hi:i<24
  ·simp[hi]
  ·rw[zAC (zAJ ha (zAF (by omega) (by omega)))]
   rfl
 rw[e]at h;exact h
theorem yqr(l:List Nat)(hl:l.length<=10)(h:∀k,k<l.length->l.getD k 0<2^24):Returns zG 223 [usV l] (.b true):=by
 refine Returns.of (ydbg _ _ ?_);simp only[c223,ycov,ycsq,usV,go_sem,zB,↓reduceIte,reduceCtorEq];refine ybj (σ:=Nat) (fun k=>⟨[(7,.i .i64 k),(6,.i .i64 l.length),(5,usV l)],[]⟩) (fun k=>k<=l.length) (fun k=>l.length-k) 0 (zAO _) ?_ ?_
 ·refine yh [] [] [] ?_;simp only[usV,allQ,live,yc,zZ,go_sem,zA,↓reduceIte,reduceCtorEq]
 ·intro k hk;simp only[ycrl,ycqo,ycuc,ycjy,usV,go_sem,zA,zB,↓reduceIte,reduceCtorEq];refine⟨fun hlt=>?_,fun hlt=>?_⟩
  ·have hk':k<l.length:=by omega
   have e0:=ydra (h k hk');simp only[IntKind.bits]at e0;rw[e0];refine⟨⟨by omega,by omega⟩,fun h=>absurd rfl h,fun _=>?_⟩
   simp only[ycik,go_sem,zA,zB,↓reduceIte,reduceCtorEq];refine⟨ikw (by omega) (by omega),?_⟩
   refine yj (k+1) (by omega) (by omega) ?_
   refine yh [] [] [] ?_;simp only[allQ,live,yc,yba,go_sem,zA,↓reduceIte,reduceCtorEq];omega
  ·simp only[ycur,ykz,go_sem,↓reduceIte]
theorem ybns{k:Cnt}(hk : k.ok)(hs:k.steps<=4096):Returns zG 222 [.ag (cntV k)] (.b true):=by
 refine Returns.of (yczu _ _ ?_);obtain⟨h1,h2,h3,h4,h5,h6⟩:=hk
 have hP:=yqr [k.pend] (by simp) (fun i hi=>by have:i=0:=by simp at hi;omega
                                               subst this;exact h6)
 have f1:decide ((k.steps:Int)<0)=false:=by simp
 have f2:decide ((k.steps:Int)>4096)=false:=by simp;omega
 have f3:decide ((k.rounds:Int)<0)=false:=by simp
 have f4:decide ((k.rounds:Int)>k.begun)=false:=by simp;omega
 have f5:decide ((k.begun:Int)>k.steps)=false:=by simp;omega
 have f6:decide ((k.begun:Int)>k.rounds+1)=false:=by simp;omega
 have f7:decide ((k.steps:Int)<=k.moves)=true:=by simp;omega
 have f8:decide ((k.moves:Int)<=24*k.steps)=true:=by simp;omega
 simp(maxSteps:=5000000) only [c222,ycsv,yctx,cntV,f1,f2,f3,f4,f5,go_sem,zA,zB,zF,zH,↓reduceIte,reduceCtorEq];simp only[yckc,f6,go_sem,zA,zB,zF,↓reduceIte,reduceCtorEq];refine⟨ikw (by omega) (by omega),?_⟩
 simp(maxSteps:=5000000) only [ycoj,f7,f8,go_sem,zA,zB,zF,zH,↓reduceIte,reduceCtorEq];refine⟨ikw (by omega) (by omega),?_⟩
 refine .inl ⟨fun q hq=>?_,hP.useS ?_ ?_⟩
 ·obtain rfl:q=0:=by omega
  simp only[go_sem]
 ·exact⟨ylf fun q hq=>by obtain rfl:q=0:=by omega
                         rfl,trivial⟩
 simp only[ybf,ykz,go_sem,zA,zB,↓reduceIte,reduceCtorEq]
theorem ydaf{k:Cnt}(hk:k.ok)(hs:k.steps<4096){s e:Nat}(h0:s≠0)(hs24:s<2^24)(he:e<2^24):Returns zG 197 [.ag (cntV k),.i .u32 s,.i .u32 e] (.tp [.ag (cntV (addP k s e)),.i .i64 0]):=by
 refine Returns.of (yddi _ _ ?_);have hV:=ybns hk (by omega)
 have hO:=ycay (s:=s) (by omega)
 have hP:=yqr [s,e] (by simp) (fun i hi=>by
  have:i=0\/i=1:=by simp at hi;omega
  rcases this with rfl|rfl
  ·exact hs24
  ·exact he)
 obtain⟨h1,h2,h3,h4,h5,h6⟩:=hk;simp only[cntV]at hV;simp only[c197,ycoz,ycoo,cntV,go_sem,zA,zB,zH,↓reduceIte];refine hV.use ?_;have z0:((s:Int)==0)=false:=by simp;omega
 simp only[ybf,ycmb,z0,go_sem,zA,zB,zF,zH,↓reduceIte,reduceCtorEq];refine .inl ⟨fun q hq=>?_,hP.useS ?_ ?_⟩
 ·have:q=0\/q=1:=by omega
  rcases this with rfl|rfl
  ·simp only[go_sem]
  ·simp only[go_sem]
 ·exact⟨ylf fun q hq=>by
   have:q=0\/q=1:=by omega
   rcases this with rfl|rfl<;>rfl,trivial⟩
 have z1:((k.steps:Int)==4096)=false:=by simp;omega
 simp only[ycnt,ycpk,z1,go_sem,zA,zB,zF,↓reduceIte,reduceCtorEq];refine⟨ikw (by omega) (by omega),?_⟩
 simp only[yckm,clash,go_sem,zA,zB,zF,↓reduceIte,reduceCtorEq];refine hO.use ?_;have hpop:=ybwt s hs24;have a1:=u32_andNot (a:=k.pend) (b:=s) (by omega) (by omega)
 have hd:difB k.pend s<2^24:=yyn h6;have a2:=u32_and (a:=difB k.pend s) (b:=e) (by omega) (by omega)
 obtain⟨P,hPe⟩:∃P,difB k.pend s&&&e=P:=⟨_,rfl⟩;rw[hPe]at a2;simp only[IntKind.bits]at a1 a2;simp only[ybf,go_sem,zA,zB,zF,↓reduceIte,reduceCtorEq];refine⟨ikw (by omega) (by omega),?_⟩
 simp only[ycjf,ycag,ybpv,a1,a2,go_sem,zA,zB,zF,↓reduceIte,reduceCtorEq];refine⟨by decide,ikw (by omega) (by omega),fun hP0=>?_,fun hP0=>?_⟩
 ·have hP1:P=0:=by omega
  have ea:addP k s e=⟨k.steps+1,k.moves+popP s,k.rounds+1,k.rounds+1,e⟩:=by unfold addP;simp only[hPe,hP1,if_true]
  rw[ea];simp only[ybub,ybze,ybhn,go_sem,zA,zB,zF,↓reduceIte,reduceCtorEq];exact Sim.refl _
 ·have hP1:¬P=0:=by omega
  have ea:addP k s e=⟨k.steps+1,k.moves+popP s,k.rounds,k.rounds+1,P⟩:=by unfold addP;simp only[hPe,if_neg hP1]
  rw[ea];simp only[ybhn,go_sem,zA,zB,↓reduceIte];exact Sim.refl _
end Sh
end
section
def netP(ls:List (Int×Int)):Nat:=ls.foldl (fun a l=>a|||2^l.1.toNat) 0
theorem ybzv(ls:List (Int×Int))(k:Nat)(h:k<ls.length):netP (ls.take (k+1))=netP (ls.take k)|||2^(ls.getD k (0,0)).1.toNat:=by
 unfold netP;rw[List.take_succ_eq_append_getElem h,List.foldl_append,Sh.getD_at h];rfl
theorem ydey(ls:List (Int×Int))(h:∀l∈ls,l.1<24):netP ls<2^24:=by
 unfold netP
 have:∀(ls:List (Int×Int)) (a:Nat),(∀l∈ls,l.1<24)->a<2^24->ls.foldl (fun a l=>a|||2^l.1.toNat) a<2^24:=by
  intro ls
  induction ls with
  |nil=>intro a _ h;exact h
  | cons l ls ih =>
    intro a hl ha;refine ih _ (fun x hx=>hl x (zAG _ hx)) (Nat.or_lt_two_pow ha ?_);have:=hl l zAK;exact zQ (by omega) (by omega)
 exact this ls 0 h (by decide)
namespace Sh
open Ev Go.RowKit
theorem u32k{a:Nat}(h:a<2^32):inK .u32 (a:Int):=⟨by simp[IntKind.min,IntKind.signed],by simp[IntKind.max,IntKind.bits,IntKind.signed];omega⟩
theorem ydcs{g:Gr}(hg:yw g):Returns zG 109 [grV g] (.i .u32 (2^g.ids.length-1:Nat)):=by
 refine Returns.of (ycyz _ _ ?_);have h3:=hg.2.2.1;have h4:=hg.2.1;simp only[c109,yclx,ycqh,grV,yu,go_sem,zA,zB,zF,zH,↓reduceIte,reduceCtorEq];have h5:=yhf (v:=g.ids.length) (by omega)
 rw[zJ]at h5;have h6:2^g.ids.length<2^32:=zQ (by omega) (by omega)
 have h7:1<=2^g.ids.length:=Nat.one_le_two_pow;have h8:(((2^g.ids.length:Nat):Int))-1=((2^g.ids.length-1:Nat):Int):=by omega
 rw[h5,h8];refine⟨⟨by omega,by show _<((32:Nat):Int);omega⟩,u32k (by omega),Sim.refl _⟩
theorem ybmu{g:Gr}(hg:yw g):Returns zG 110 [grV g] (usV (g.ports.map netP)):=by
 refine Returns.of (yddd _ _ ?_);have h3:=hg.2.2.1;have h4:=hg.2.1;simp only[c110,ycvg,ycme,ycic,grV,yu,ybb,go_sem,zA,zB,zH,↓reduceIte,reduceCtorEq];refine⟨by omega,?_⟩
 obtain⟨n,hn⟩:∃n,g.ports.length=n:=⟨_,rfl⟩
 let val:Nat->Nat->Nat:=fun k i=>if i<k then netP (g.ports.getD i [])else 0
 refine ybj (σ:=Nat) (fun k=>⟨[(15,.i .i64 k),(14,.i .i64 n),(13,ybb g.ports),(3,.os (11,0) 0 n true)],
  [(11,.one (some ⟨40,false,1,n,fun i=>[.i .u32 (val k i:Nat)]⟩))]⟩) (fun k=>k<=n) (fun k=>n-k) 0 (zAO _) ?_ ?_
 ·refine yh [] [] [] ?_;simp only[ybb,hn,allQ,live,yc,yba,zZ,go_sem,zA,↓reduceIte,reduceCtorEq];simp[val]
 ·intro k hk;obtain⟨L,hL⟩:∃L,g.ports.getD k []=L:=⟨_,rfl⟩;simp only[ycll,ycpt,ycvb,ybb,ybc,hn,hL,go_sem,zA,zB,↓reduceIte,reduceCtorEq];refine⟨fun hlt=>?_,fun hlt=>?_⟩
  ·have hk':k<n:=by omega
   have hkp:k<g.ports.length:=by omega
   have hlk:∀l∈L,0<=l.1/\l.1<24:=fun l hl=>by
    rw[<-hL,getD_at hkp]at hl;obtain⟨a1,a2,_⟩:=(hg.2.2.2.2.2.1 ⟨k,hkp⟩).1 l hl;exact⟨a1,by omega⟩
   have hdeg:=hg.deg_lt (v:=k);rw[hL]at hdeg;refine⟨by omega,?_⟩
   obtain⟨m,hm⟩:∃m,L.length=m:=⟨_,rfl⟩;rw[hm]
   let val2:Nat->Nat->Nat:=fun j i=>if i<k then netP (g.ports.getD i [])else if i=k then netP (L.take j)else 0
   refine ybj (σ:=Nat) (fun j=>⟨[(22,.i .i64 j),(21,.i .i64 m),(20,ybc L),(4,.i .i64 k),(15,.i .i64 k),(14,.i .i64 n),(13,ybb g.ports),(3,.os (11,0) 0 n true)],
    [(11,.one (some ⟨40,false,1,n,fun i=>[.i .u32 (val2 j i:Nat)]⟩))]⟩) (fun j=>j<=m) (fun j=>m-j) 0 (zAO _) ?_ ?_
   ·refine yh [] [] [] ?_;simp only[ybb,ybc,hn,hm,allQ,live,yc,yba,zZ,go_sem,zA,↓reduceIte,reduceCtorEq];intro i hi;simp only[val,val2]
    by_cases q:i<k
    ·rw[if_pos q,if_pos q]
    ·rw[if_neg q,if_neg q]
     by_cases q2:i=k
     ·rw[if_pos q2];rfl
     ·rw[if_neg q2]
   ·intro j hj;obtain⟨l,hl⟩:∃l,L.getD j (0,0)=l:=⟨_,rfl⟩;simp only[ycsg,ycty,ybb,ybc,hn,hm,hl,go_sem,zA,zB,zH,↓reduceIte,reduceCtorEq];refine⟨fun hlj=>⟨by omega,?_⟩,fun hlj=>?_⟩
    ·have hj':j<L.length:=by omega
     have hl2:=hlk l (by rw[<-hl,getD_at hj'];exact zM _)
     obtain⟨t,ht⟩:∃t:Nat,l.1=t:=⟨l.1.toNat,by omega⟩
     have h24t:t<24:=by omega
     have hval:val2 j k<2^24:=by
      simp only[val2,if_neg (zAV k),if_true];exact ydey _ fun l hl=>(hlk l (zAE hl)).2
     have hp:2^t<2^24:=zQ (by omega) h24t
     have hsh:=yhf (v:=t) (by omega)
     have hor:=u32_or (a:=val2 j k) (b:=2^t) (by omega) (by omega)
     rw[zJ]at hsh;simp only[IntKind.bits]at hor;simp only[ycig,ht,clash,hsh,hor,go_sem,zA,zB,zF,↓reduceIte,reduceCtorEq];refine⟨by omega,by omega,⟨by omega,by show _<((32:Nat):Int);omega⟩,by omega,by omega,by decide,?_⟩
     simp only[ycvd,go_sem,zA,zB,↓reduceIte,reduceCtorEq];refine⟨ikw (by omega) (by omega),?_⟩
     refine yj (j+1) (by omega) (by omega) ?_
     refine yh [] [] [] ?_;simp only[allQ,live,yc,yba,go_sem,zA,↓reduceIte,reduceCtorEq];refine⟨by omega,fun i hi=>?_⟩
     have hsn:=ybzv L j hj';rw[hl,ht,zJ]at hsn
     by_cases q:i=k
     ·simp only[if_pos q];subst q;simp only[go_sem,live,yba,go_sem,reduceCtorEq];simp only[val2,if_neg (zAV i),if_true,hsn]
     ·simp only[if_neg q];simp only[go_sem,live,yba,go_sem,reduceCtorEq];simp only[val2,if_neg q]
    ·obtain rfl:j=m:=by omega
     simp only[ybsm,go_sem,zA,zB,↓reduceIte,reduceCtorEq];refine⟨ikw (by omega) (by omega),?_⟩
     refine yj (k+1) (by omega) (by omega) ?_
     refine yh [] [] [] ?_;simp only[allQ,live,yc,yba,go_sem,zA,↓reduceIte,reduceCtorEq];refine⟨by omega,fun i hi=>?_⟩
     simp only[val,val2]
     by_cases q:i<k
     ·rw[if_pos q,if_pos (by omega)]
     ·rw[if_neg q]
      by_cases q2:i=k
      ·rw[if_pos q2,if_pos (by omega),q2,hL,<-hm,zAP]
      ·rw[if_neg q2,if_neg (by omega)]
  ·obtain rfl:k=n:=by omega
   simp only[ybxk,go_sem,zA,zB,↓reduceIte,reduceCtorEq];unfold usV;rw[zAS,hn];refine ylf fun i hi=>?_;have hi':i<g.ports.length:=by omega
   simp only[val,if_pos hi];simp[zK,hi']
end Sh
end
section
namespace Sh
open Go Ev
def ydgx:LO:=[o3 (.mv (ci' 0)) 4 0]
def ydmx:LO:=[mv' 1 5 0,o3 (.bin .lss (.tmp 5) (ci' 1)) 6 1]
def ydgg:LO:=[o3 (.mv (ci' 0)) 4 0]
def ydge:LO:=[mv' 0 7 0,mv' 1 8 0,bn' .rem 7 8 9 3,mv' 9 0 7]
def ydlw:LO:=[mv' 0 10 0,o3 (.bin .lss (.tmp 10) (ci' 0)) 11 1]
def ydhz:LO:=[mv' 0 12 0,mv' 1 13 0,bn' .add 12 13 14 3,mv' 14 0 7]
def ydji:LO:=[mv' 0 15 0,mv' 15 4 1]
def c39:SC:=(.seq (.reg false ydgx) (.seq (.seq (.reg false ydmx) (.cond (.tmp 6) (.seq (.reg false ydgg) .ret) .skip)) (.seq (.reg false ydge) (.seq (.seq (.reg false ydlw) (.cond (.tmp 11) (.reg false ydhz) .skip)) (.seq (.reg false ydji) .ret)))))
theorem ydgy:Fn 39 c39 [.t 4]:=fn_0 Tryz.func39 (by kernel_rfl) (by kernel_rfl)
def ydir:LO:=[o3 (.mv (ci' 0)) 4 0]
def ydiu:LO:=[mv' 1 5 0,mv' 0 6 0,ln' 6 7 2,bn' .lss 5 7 8 7]
def ydmg:LO:=[mv' 0 9 0,mv' 1 10 0,ix' 1 9 10 11 3,ld' false 1 11 12 7,mv' 12 4 15]
def ydnx:LO:=[o3 (.mv (ci' 0)) 4 0]
def c77:SC:=(.seq (.reg false ydir) (.seq (.seq (.reg false ydiu) (.cond (.tmp 8) (.seq (.reg false ydmg) .ret) .skip)) (.seq (.reg false ydnx) .ret)))
theorem ydgf:Fn 77 c77 [.t 4]:=fn_0 Tryz.func77 (by kernel_rfl) (by kernel_rfl)
def ycvv:LO:=[o3 (.box 27 (.tmp 0)) 3 0,o3 (.mv (.const (.bool false))) 6 0]
def ycwh:LO:=[o3 (.mv (ci' 0)) 7 0]
def ycpi:LO:=[mv' 7 8 0,fa' 1 1 3 9 0,ld' false 1 9 10 2,mv' 1 11 0,ix' 1 10 11 12 14,ld' false 1 12 13 30,ln' 13 14 62,bn' .lss 8 14 15 127]
def ycpa:LO:=[fa' 1 1 3 18 0,ld' false 1 18 19 1,mv' 1 20 0,ix' 1 19 20 21 7,ld' false 1 21 22 15,mv' 7 23 0,ix' 2 22 23 24 63,fa' 0 1 24 25 127,ld' false 1 25 26 255,mv' 2 27 0,bn' .eql 26 27 28 1023]
def ycmu:LO:=[o3 (.mv (.const (.bool true))) 6 0]
def ycmo:LO:=[mv' 7 16 0,o3 (.bin .add (.tmp 16) (ci' 1)) 17 1,mv' 17 7 3]
def ycno:LO:=[o3 (.mv (.const (.bool false))) 6 0]
def c128:SC:=(.seq (.reg false ycvv) (.seq (.seq (.reg false ycwh) (.block 0 (.loop (.seq (.seq (.reg false ycpi) (.cond (.tmp 15) .skip (.exit 0))) (.seq (.block 1 (.seq (.reg false ycpa) (.cond (.tmp 28) (.seq (.reg false ycmu) .ret) .skip))) (.reg false ycmo)))))) (.seq (.reg false ycno) .ret)))
theorem ydbp:Fn 128 c128 [.t 6]:=fn_0 Tryz.func128 (by kernel_rfl) (by kernel_rfl)
def ycyk:LO:=[o3 (.box 24 (.tmp 0)) 5 0,o3 (.box 27 (.tmp 1)) 6 0]
def yddx:LO:=[mv' 2 12 0,mv' 3 13 0,bn' .eql 12 13 14 3,mv' 14 15 7,⟨.load true 2 (.tmp 6),some 16,some (15,false),15⟩,⟨.mv (.tmp 2),some 17,some (15,false),15⟩,⟨.mv (.tmp 3),some 18,some (15,false),15⟩,⟨.call (.func 128) [(.tmp 16),(.tmp 17),(.tmp 18)],some 19,some (15,false),127⟩,o3 (.pick (.tmp 15) (.const (.bool true)) (.tmp 19)) 20 255]
def ybod:LO:=[mv' 3 21 0,mv' 4 22 0,o3 (.build [.i .i64 0,.i .i64 0] [(0,1,(.tmp 21)),(1,1,(.tmp 22))]) 23 3,mv' 2 24 0,mv' 4 25 0,o3 (.build [.i .i64 0,.i .i64 0] [(0,1,(.tmp 24)),(1,1,(.tmp 25))]) 26 24,o3 (.alloc 95 1 [.i .i64 0,.i .i64 0]) 10 0,o3 (.alloc 95 1 [.i .i64 0,.i .i64 0]) 11 0,o0 (.store 2 (.tmp 10) (.tmp 23)) 199,o0 (.store 2 (.tmp 11) (.tmp 26)) 511]
def ybmq:LO:=[fa' 5 1 5 27 0,ld' false 1 27 28 1]
def ybvk:LO:=[fa' 1 1 6 29 0,ld' false 1 29 30 1,mv' 2 31 0,ld' true 2 10 32 0,o3 (.bslice 95 2 1 [.i .i64 0,.i .i64 0] [(0,2,(.tmp 32))]) 33 8,fa' 1 1 6 34 0,ld' false 1 34 35 32,mv' 2 36 0,ix' 1 35 36 37 224,ld' false 1 37 38 480,o3 (.app 95 2 16 (.tmp 33) (.tmp 38)) 39 1016,ix' 1 30 31 40 2047,o0 (.store 1 (.tmp 40) (.tmp 39)) 4095]
def ybwu:LO:=[fa' 1 1 6 41 0,ld' false 1 41 42 1,mv' 3 43 0,ld' true 2 11 44 0,o3 (.bslice 95 2 1 [.i .i64 0,.i .i64 0] [(0,2,(.tmp 44))]) 45 8,fa' 1 1 6 46 0,ld' false 1 46 47 32,mv' 3 48 0,ix' 1 47 48 49 224,ld' false 1 49 50 480,o3 (.app 95 2 16 (.tmp 45) (.tmp 50)) 51 1016,ix' 1 42 43 52 2047,o0 (.store 1 (.tmp 52) (.tmp 51)) 4095]
def ydko:LO:=[fa' 1 1 6 53 0,ld' false 1 53 54 1,mv' 2 55 0,fa' 1 1 6 56 0,ld' false 1 56 57 8,mv' 3 58 0,fa' 1 1 6 59 0,ld' false 1 59 60 64,mv' 2 61 0,ix' 1 60 61 62 448,ld' false 1 62 63 960,ld' true 2 10 64 0,o3 (.bslice 95 2 1 [.i .i64 0,.i .i64 0] [(0,2,(.tmp 64))]) 65 2048,o3 (.app 95 2 16 (.tmp 63) (.tmp 65)) 66 8128,fa' 1 1 6 67 0,ld' false 1 67 68 16384,mv' 3 69 0,ix' 1 68 69 70 114688,ld' false 1 70 71 245760,ld' true 2 11 72 0,o3 (.bslice 95 2 1 [.i .i64 0,.i .i64 0] [(0,2,(.tmp 72))]) 73 524288,o3 (.app 95 2 16 (.tmp 71) (.tmp 73)) 74 2097088,ix' 1 54 55 75 4194247,o0 (.store 1 (.tmp 75) (.tmp 66)) 8388551,ix' 1 57 58 76 16777215,o0 (.store 1 (.tmp 76) (.tmp 74)) 33554431]
def c76:SC:=(.seq (.reg false ycyk) (.seq (.seq (.reg false yddx) (.cond (.tmp 20) .ret .skip)) (.seq (.reg false ybod) (.seq (.seq (.reg false ybmq) (.cond (.tmp 28) (.seq (.reg true ybvk) (.seq (.reg true ybwu) .ret)) .skip)) (.reg true ydko)))))
theorem ydfd:FnM 76 c76 []:=fn_m Tryz.func76 (by kernel_rfl) (by kernel_rfl)
def ydjj:LO:=[o3 (.box 24 (.tmp 0)) 2 0,o3 (.alloc 27 1 [.a (.slice none 0 0),.a (.slice none 0 0)]) 4 0]
def ydls:LO:=[fa' 0 1 2 10 0,ld' false 1 10 11 1,o3 (.wsub (.tmp 11) (ci' 1)) 12 3,mv' 1 13 0,cl' 39 [12,13] 14 15,o3 (.bin .add (ci' 1) (.tmp 14)) 15 31,mv' 15 5 63]
def ydjt:LO:=[mv' 5 16 0,o3 (.mk 71 1 24 [.a (.slice none 0 0)] (.tmp 16) (.tmp 16)) 17 1,o3 (.build [.a (.slice none 0 0),.a (.slice none 0 0)] [(1,1,(.tmp 17))]) 18 3,o3 (.alloc 27 1 [.a (.slice none 0 0),.a (.slice none 0 0)]) 6 0,o0 (.store 2 (.tmp 6) (.tmp 18)) 15]
def ydiw:LO:=[o3 (.mv (ci' 0)) 7 0]
def ydnz:LO:=[mv' 7 19 0,mv' 5 20 0,bn' .lss 19 20 21 3]
def ydjh:LO:=[fa' 3 1 2 24 0,ld' false 1 24 25 1,mv' 7 26 0,cl' 77 [25,26] 27 7,o3 (.call (.func 39) [(.tmp 27),(ci' 256)]) 28 15,mv' 28 8 31]
def ydic:LO:=[o3 (.mv (ci' 0)) 9 0]
def ydhs:LO:=[mv' 9 29 0,mv' 7 30 0,bn' .lss 29 30 31 3]
def ycvz:LO:=[fa' 0 1 6 34 0,ld' false 1 34 35 1,mv' 9 36 0,ix' 1 35 36 37 7,ld' false 1 37 38 15,mv' 8 39 0,bn' .eql 38 39 40 63]
def ycnq:LO:=[mv' 8 41 0,o3 (.bin .add (.tmp 41) (ci' 1)) 42 1,o3 (.bin .rem (.tmp 42) (ci' 256)) 43 3,mv' 43 8 7,o3 (.mv (.const (.int .i64 (-1)))) 9 15]
def ydhm:LO:=[mv' 9 32 0,o3 (.bin .add (.tmp 32) (ci' 1)) 33 1,mv' 33 9 3]
def ycqu:LO:=[fa' 0 1 6 44 0,ld' false 1 44 45 1,mv' 8 46 0,o3 (.bslice 3 1 1 [.i .i64 0] [(0,1,(.tmp 46))]) 47 4,o3 (.app 3 1 8 (.tmp 45) (.tmp 47)) 48 15,fa' 0 1 6 49 31,o0 (.store 1 (.tmp 49) (.tmp 48)) 63]
def ydhj:LO:=[mv' 7 22 0,o3 (.bin .add (.tmp 22) (ci' 1)) 23 1,mv' 23 7 3]
def yclh:LO:=[ld' true 2 6 50 0,o0 (.store 2 (.tmp 4) (.tmp 50)) 1]
def c75:SC:=(.seq (.reg false ydjj) (.seq (.reg false ydls) (.seq (.reg false ydjt) (.seq (.seq (.reg false ydiw) (.block 0 (.loop (.seq (.seq (.reg false ydnz) (.cond (.tmp 21) .skip (.exit 0))) (.seq (.block 1 (.seq (.reg false ydjh) (.seq (.seq (.reg false ydic) (.block 2 (.loop (.seq (.seq (.reg false ydhs) (.cond (.tmp 31) .skip (.exit 2))) (.seq (.block 3 (.seq (.reg false ycvz) (.cond (.tmp 40) (.reg false ycnq) .skip))) (.reg false ydhm)))))) (.reg false ycqu)))) (.reg false ydhj)))))) (.seq (.reg false yclh) .ret)))))
theorem yddt:FnM 75 c75 [.c 4 true 2]:=fn_m Tryz.func75 (by kernel_rfl) (by kernel_rfl)
def ydld:LO:=[o3 (.box 24 (.tmp 0)) 2 0,o3 (.alloc 27 1 [.a (.slice none 0 0),.a (.slice none 0 0)]) 4 0]
def ydhy:LO:=[ld' true 6 2 7 0,mv' 1 8 0,cl' 75 [7,8] 9 3,o3 (.alloc 27 1 [.a (.slice none 0 0),.a (.slice none 0 0)]) 5 0,o0 (.store 2 (.tmp 5) (.tmp 9)) 15]
def ydix:LO:=[o3 (.mv (ci' 1)) 6 0]
def yczm:LO:=[mv' 6 10 0,fa' 1 1 5 11 0,ld' false 1 11 12 2,ln' 12 13 6,bn' .lss 10 13 14 15]
def ydll:LO:=[ld' true 6 2 17 0,ld' true 2 5 18 0,fa' 1 1 2 19 0,ld' false 1 19 20 4,mv' 6 21 0,o3 (.bin .sub (.tmp 21) (ci' 1)) 22 16,cl' 77 [20,22] 23 60,mv' 6 24 0,cl' 39 [23,24] 25 252,mv' 6 26 0,fa' 2 1 2 27 0,ld' false 1 27 28 1024,mv' 6 29 0,o3 (.bin .sub (.tmp 29) (ci' 1)) 30 4096,cl' 77 [28,30] 31 15868,o3 (.call (.func 39) [(.tmp 31),(ci' 15)]) 32 32252,o3 (.bin .add (ci' 1) (.tmp 32)) 33 65020,cl' 76 [17,18,25,26,33] 34 131071]
def ydft:LO:=[mv' 6 15 0,o3 (.bin .add (.tmp 15) (ci' 1)) 16 1,mv' 16 6 3]
def ydnc:LO:=[ld' true 2 5 35 0,o0 (.store 2 (.tmp 4) (.tmp 35)) 1]
def c21:SC:=(.seq (.reg false ydld) (.seq (.reg false ydhy) (.seq (.seq (.reg false ydix) (.block 0 (.loop (.seq (.seq (.reg false yczm) (.cond (.tmp 14) .skip (.exit 0))) (.seq (.block 1 (.reg true ydll)) (.reg false ydft)))))) (.seq (.reg false ydnc) .ret))))
theorem ycyj:FnM 21 c21 [.c 4 true 2]:=fn_m Tryz.func21 (by kernel_rfl) (by kernel_rfl)
def ycju:LO:=[o3 (.box 24 (.tmp 0)) 2 0,o3 (.box 27 (.tmp 1)) 3 0,o3 (.alloc 27 1 [.a (.slice none 0 0),.a (.slice none 0 0)]) 4 0]
def ycsy:LO:=[fa' 1 1 3 7 0,ld' false 1 7 8 1,ln' 8 9 3,mv' 9 5 7]
def yctc:LO:=[mv' 5 10 0,mv' 10 6 1]
def ybla:LO:=[mv' 6 11 0,o3 (.bin .add (.tmp 11) (ci' 1)) 12 1,fa' 1 1 2 13 0,ld' false 1 13 14 4,ln' 14 15 12,bn' .lss 12 15 16 31,mv' 16 17 63,⟨.mv (.tmp 6),some 18,some (17,true),127⟩,⟨.bin .lss (.tmp 18) (ci' 60),some 19,some (17,true),255⟩,o3 (.pick (.tmp 17) (.tmp 19) (.const (.bool false))) 20 511]
def yclr:LO:=[ld' true 6 2 23 0,ld' true 2 3 24 0,fa' 1 1 2 25 0,ld' false 1 25 26 4,mv' 6 27 0,ix' 1 26 27 28 28,ld' false 1 28 29 60,mv' 5 30 0,cl' 39 [29,30] 31 252,fa' 1 1 2 32 0,ld' false 1 32 33 512,mv' 6 34 0,o3 (.bin .add (.tmp 34) (ci' 1)) 35 2048,ix' 1 33 35 36 7680,ld' false 1 36 37 15872,mv' 5 38 0,cl' 39 [37,38] 39 65532,fa' 2 1 2 40 0,ld' false 1 40 41 131072,mv' 6 42 0,cl' 77 [41,42] 43 1048572,o3 (.call (.func 39) [(.tmp 43),(ci' 15)]) 44 2097148,o3 (.bin .add (ci' 1) (.tmp 44)) 45 4194300,cl' 76 [23,24,31,39,45] 46 8388607]
def ycvj:LO:=[mv' 6 21 0,o3 (.bin .add (.tmp 21) (ci' 2)) 22 1,mv' 22 6 3]
def ybvz:LO:=[ld' true 2 3 47 0,o0 (.store 2 (.tmp 4) (.tmp 47)) 1]
def c105:SC:=(.seq (.reg false ycju) (.seq (.reg false ycsy) (.seq (.seq (.reg false yctc) (.block 0 (.loop (.seq (.seq (.reg false ybla) (.cond (.tmp 20) .skip (.exit 0))) (.seq (.block 1 (.reg true yclr)) (.reg false ycvj)))))) (.seq (.reg false ybvz) .ret))))
theorem ycfn:FnM 105 c105 [.c 4 true 2]:=fn_m Tryz.func105 (by kernel_rfl) (by kernel_rfl)
def ydhp:LO:=[o3 (.box 24 (.tmp 0)) 2 0,o3 (.alloc 27 1 [.a (.slice none 0 0),.a (.slice none 0 0)]) 4 0]
def ydkk:LO:=[ld' true 6 2 5 0,ld' true 6 2 6 0,mv' 1 7 0,cl' 21 [6,7] 8 6,cl' 105 [5,8] 9 15,o0 (.store 2 (.tmp 4) (.tmp 9)) 31]
def c70:SC:=(.seq (.reg false ydhp) (.seq (.reg true ydkk) .ret))
theorem ydcb:FnU 70 c70 [.c 4 true 2]:=fn_u Tryz.func70 (by kernel_rfl) (by kernel_rfl)
def ydlh:LO:=[o3 (.box 27 (.tmp 0)) 3 0,o3 (.mv (.const (.slice none 0 0))) 6 0]
def ydmu:LO:=[fa' 1 1 3 16 0,ld' false 1 16 17 1,ln' 17 18 3,mv' 18 7 7,o3 (.mv (ci' 0)) 8 15]
def ydjf:LO:=[o3 (.mv (ci' 0)) 9 0]
def ydnr:LO:=[mv' 9 19 0,mv' 7 20 0,bn' .lss 19 20 21 3]
def ydkz:LO:=[mv' 8 24 0,fa' 0 1 3 25 0,ld' false 1 25 26 2,mv' 9 27 0,ix' 1 26 27 28 14,ld' false 1 28 29 30,o3 (.mm true (.tmp 24) (.tmp 29)) 30 63,mv' 30 8 127]
def ydlm:LO:=[mv' 9 22 0,o3 (.bin .add (.tmp 22) (ci' 1)) 23 1,mv' 23 9 3]
def ydmf:LO:=[o3 (.mv (.const (.slice none 0 0))) 10 0]
def ydfn:LO:=[o3 (.mv (ci' 0)) 11 0]
def ydfm:LO:=[mv' 11 31 0,mv' 7 32 0,bn' .lss 31 32 33 3]
def ycwq:LO:=[o3 (.mv (.const (.slice none 0 0))) 12 0]
def ycrg:LO:=[o3 (.mv (ci' 0)) 13 0]
def ycnm:LO:=[mv' 13 36 0,mv' 1 37 0,ln' 37 38 2,bn' .lss 36 38 39 7]
def ycou:LO:=[mv' 1 42 0,mv' 13 43 0,ix' 6 42 43 44 3,fa' 2 1 44 45 7,ld' false 1 45 46 15,mv' 1 47 0,mv' 13 48 0,ix' 6 47 48 49 96,fa' 3 1 49 50 224,ld' false 1 50 51 480,mv' 1 52 0,mv' 13 53 0,ix' 6 52 53 54 3072,fa' 4 1 54 55 7168,ld' false 1 55 56 15360,mv' 7 57 0,bn' .mul 56 57 58 64512,bn' .add 51 58 59 131040,mv' 1 60 0,mv' 13 61 0,ix' 6 60 61 62 786432,fa' 5 1 62 63 1835008,ld' false 1 63 64 3932160,mv' 8 65 0,bn' .mul 64 65 66 16515072,bn' .add 59 66 67 33554400,mv' 46 14 31,mv' 67 15 134217727]
def ychh:LO:=[mv' 1 68 0,mv' 13 69 0,ix' 6 68 69 70 3,fa' 1 1 70 71 7,ld' false 1 71 72 15]
def yblu:LO:=[o3 (.bin .eql (.tmp 72) (ci' 2)) 74 0,mv' 74 73 1]
def ybjd:LO:=[o3 (.mv (ci' 0)) 14 0,o3 (.mv (ci' 1)) 15 1]
def ybjs:LO:=[o3 (.bin .eql (.tmp 72) (ci' 3)) 76 0,mv' 76 75 1]
def ybkj:LO:=[fa' 1 1 3 77 0,ld' false 1 77 78 1,mv' 11 79 0,ix' 1 78 79 80 7,ld' false 1 80 81 15,ln' 81 82 31,o3 (.bin .sub (.tmp 82) (ci' 1)) 83 63,o3 (.mv (.const (.int .i64 (-1)))) 14 0,mv' 83 15 255]
def yblm:LO:=[mv' 12 84 0,mv' 14 85 0,mv' 2 86 0,mv' 11 87 0,mv' 1 88 0,ln' 88 89 16,bn' .mul 87 89 90 56,mv' 13 91 0,bn' .add 90 91 92 248,cl' 77 [86,92] 93 508,mv' 15 94 0,mv' 14 95 0,bn' .sub 94 95 96 3072,o3 (.bin .add (.tmp 96) (ci' 1)) 97 7168,cl' 39 [93,97] 98 16380,bn' .add 85 98 99 32766,o3 (.bslice 3 1 1 [.i .i64 0] [(0,1,(.tmp 99))]) 100 65534,o3 (.app 3 1 8 (.tmp 84) (.tmp 100)) 101 131071,mv' 101 12 262143]
def yblz:LO:=[mv' 13 40 0,o3 (.bin .add (.tmp 40) (ci' 1)) 41 1,mv' 41 13 3]
def ycwx:LO:=[mv' 10 102 0,mv' 12 103 0,o3 (.bslice 22 1 1 [.a (.slice none 0 0)] [(0,1,(.tmp 103))]) 104 2,o3 (.app 22 1 24 (.tmp 102) (.tmp 104)) 105 7,mv' 105 10 15]
def ydoi:LO:=[mv' 11 34 0,o3 (.bin .add (.tmp 34) (ci' 1)) 35 1,mv' 35 11 3]
def ycuv:LO:=[mv' 10 106 0,mv' 106 6 1]
def c24:SC:=(.seq (.reg false ydlh) (.seq (.reg false ydmu) (.seq (.seq (.reg false ydjf) (.block 0 (.loop (.seq (.seq (.reg false ydnr) (.cond (.tmp 21) .skip (.exit 0))) (.seq (.block 1 (.reg false ydkz)) (.reg false ydlm)))))) (.seq (.reg false ydmf) (.seq (.seq (.reg false ydfn) (.block 2 (.loop (.seq (.seq (.reg false ydfm) (.cond (.tmp 33) .skip (.exit 2))) (.seq (.block 3 (.seq (.reg false ycwq) (.seq (.seq (.reg false ycrg) (.block 4 (.loop (.seq (.seq (.reg false ycnm) (.cond (.tmp 39) .skip (.exit 4))) (.seq (.block 5 (.seq (.reg true ycou) (.seq (.seq (.reg false ychh) (.block 6 (.seq (.reg false yblu) (.cond (.tmp 73) (.reg false ybjd) (.seq (.reg false ybjs) (.cond (.tmp 75) (.reg true ybkj) .skip)))))) (.reg false yblm)))) (.reg false yblz)))))) (.reg false ycwx)))) (.reg false ydoi)))))) (.seq (.reg false ycuv) .ret))))))
theorem ydia:Fn 24 c24 [.t 6]:=fn_0 Tryz.func24 (by kernel_rfl) (by kernel_rfl)
def ydkg:LO:=[o3 (.mv (.const (.slice none 0 0))) 4 0]
def ydhe:LO:=[o3 (.mv (.const (.slice none 0 0))) 5 0]
def ydfv:LO:=[o3 (.mv (ci' 0)) 6 0]
def ydob:LO:=[mv' 6 9 0,mv' 1 10 0,bn' .lss 9 10 11 3]
def ydgw:LO:=[mv' 0 14 0,ln' 14 15 1,o3 (.bin .eql (.tmp 15) (ci' 0)) 16 3]
def ydjm:LO:=[mv' 5 17 0,o3 (.bslice 40 1 1 [.i .u32 0] [(0,1,(.const (.int .u32 4294967295)))]) 18 0,o3 (.app 40 1 4 (.tmp 17) (.tmp 18)) 19 3,mv' 19 5 7]
def ydjr:LO:=[mv' 0 20 0,mv' 6 21 0,mv' 0 22 0,ln' 22 23 4,bn' .rem 21 23 24 14,ix' 1 20 24 25 31,ld' false 1 25 26 63,mv' 6 27 0,mv' 0 28 0,ln' 28 29 256,bn' .quo 27 29 30 896,o3 (.bin .rem (.tmp 30) (ci' 24)) 31 1920,o3 (.conv .u64 (.tmp 31)) 32 3968,mv' 26 7 127,mv' 32 8 16383]
def ydgt:LO:=[mv' 7 33 0,o3 (.bin .and (.tmp 33) (.const (.int .u32 16777215))) 34 1,mv' 34 7 3]
def ydla:LO:=[mv' 5 35 0,mv' 7 36 0,mv' 8 37 0,bn' .shl 36 37 38 6,mv' 7 39 0,mv' 8 40 0,o3 (.bin .sub (.const (.int .u64 24)) (.tmp 40)) 41 32,bn' .shr 39 41 42 112,bn' .or 38 42 43 254,o3 (.bin .and (.tmp 43) (.const (.int .u32 16777215))) 44 510,o3 (.bslice 40 1 1 [.i .u32 0] [(0,1,(.tmp 44))]) 45 1022,o3 (.app 40 1 4 (.tmp 35) (.tmp 45)) 46 2047,mv' 46 5 4095]
def yczo:LO:=[mv' 6 12 0,o3 (.bin .add (.tmp 12) (ci' 1)) 13 1,mv' 13 6 3]
def ycvy:LO:=[mv' 5 47 0,mv' 47 4 1]
def c26:SC:=(.seq (.reg false ydkg) (.seq (.reg false ydhe) (.seq (.seq (.reg false ydfv) (.block 0 (.loop (.seq (.seq (.reg false ydob) (.cond (.tmp 11) .skip (.exit 0))) (.seq (.block 1 (.seq (.seq (.reg false ydgw) (.cond (.tmp 16) (.seq (.reg false ydjm) (.exit 1)) .skip)) (.seq (.reg true ydjr) (.seq (.reg false ydgt) (.reg false ydla))))) (.reg false yczo)))))) (.seq (.reg false ycvy) .ret))))
theorem ydih:Fn 26 c26 [.t 4]:=fn_0 Tryz.func26 (by kernel_rfl) (by kernel_rfl)
def ydjx:LO:=[o3 (.box 27 (.tmp 1)) 6 0,o3 (.mv (.const (.slice none 0 0))) 10 0,o3 (.mv (.const (.slice none 0 0))) 11 2,o3 (.mv (.const (.bool false))) 12 6]
def ydle:LO:=[mv' 0 17 0,cl' 37 [17] 18 1,ld' true 2 6 19 0,mv' 2 20 0,mv' 3 21 0,mv' 4 22 0,cl' 78 [18,19,20,21,22] 23 63,mv' 23 16 127,xt' 16 0 24 255,xt' 16 1 25 255,xt' 16 2 26 255,mv' 24 13 511,mv' 25 14 3071,mv' 26 15 8191]
def ydgv:LO:=[mv' 13 27 0,mv' 14 28 0,mv' 15 29 0,o3 (.bin .eql (.tmp 29) (ci' 0)) 30 4,mv' 30 31 12,⟨.mv (.tmp 13),some 32,some (31,true),28⟩,⟨.len (.tmp 32),some 33,some (31,true),60⟩,⟨.mv (.tmp 14),some 34,some (31,true),28⟩,⟨.len (.tmp 34),some 35,some (31,true),156⟩,⟨.bin .eql (.tmp 33) (.tmp 35),some 36,some (31,true),508⟩,o3 (.pick (.tmp 31) (.tmp 36) (.const (.bool false))) 37 1020,mv' 37 38 2044,⟨.mv (.tmp 13),some 39,some (38,true),4092⟩,⟨.len (.tmp 39),some 40,some (38,true),8188⟩,⟨.bin .gtr (.tmp 40) (ci' 0),some 41,some (38,true),16380⟩,o3 (.pick (.tmp 38) (.tmp 41) (.const (.bool false))) 42 32764,mv' 27 10 4093,mv' 28 11 69631,mv' 42 12 262143]
def c22:SC:=(.seq (.reg false ydjx) (.seq (.reg true ydle) (.seq (.reg false ydgv) .ret)))
theorem ydoa:Fn 22 c22 [.t 10,.t 11,.t 12]:=fn_0 Tryz.func22 (by kernel_rfl) (by kernel_rfl)
end Sh
end
section
namespace Sh
open Ev Go.RowKit
instance:Inhabited Cnt:=⟨⟨0,0,0,0,0⟩⟩
def seeO(cs:List Conf)(ks:List Cnt):Own:=[(1,.one (some ⟨29,true,1,1,fun _=>[.os (2,0) 0 cs.length true]⟩)),(2,.one (some ⟨34,false,1,cs.length,fun i=>[ybk (cs.getD i [])]⟩)),
 (3,.one (some ⟨30,true,1,1,fun _=>[.os (4,0) 0 ks.length true]⟩)),(4,.one (some ⟨48,false,5,ks.length,fun i=>cntV (ks.getD i default)⟩))]
def ydbi:Own:=[(1,.one (some ⟨29,true,1,1,fun _=>[.a (.slice none 0 0)]⟩)),(3,.one (some ⟨30,true,1,1,fun _=>[.a (.slice none 0 0)]⟩))]
theorem ycfa(cs:List Conf)(ks:List Cnt)(h1:0<cs.length/\cs.length<=5000)(h2:0<ks.length/\ks.length<=5000){c:Conf}(hc:∀s∈c,0<s.length/\s.length<=1000)(hl:c.length<=1000)(e:Nat)(k:Cnt) :
 Cm zG 131 [(1,0),(3,0)] (seeO cs ks) [ybk c,.i .u32 e,.ag (cntV k),.pt (1,0) 0 0,.pt (3,0) 0 0] fun r o=>r = .tp []/\o=seeO (cs++[c]) (ks++[k]):=by
 refine ybks [(1,0),(3,0)] [] _ _ _ ?_;obtain⟨n,hn⟩:∃n,cs.length=n:=⟨_,rfl⟩;obtain⟨m,hm⟩:∃m,ks.length=m:=⟨_,rfl⟩;have hC:=yzl c hc hl;obtain⟨O2,hO2⟩:∃O,seeO (cs++[c]) (ks++[k])=O:=⟨_,rfl⟩;rw[hO2];simp only[c131,ybzh,ybzw,ybrf,seeO,cntV,hn,hm,go_sem,zA,zB,zH,↓reduceIte,reduceCtorEq];refine hC.use ?_;simp only[ybf,clash,ygi,go_sem,zA,zB,zF,zH,↓reduceIte,reduceCtorEq];refine⟨by decide,⟨by omega,by omega⟩,by decide,by decide,⟨by omega,by omega⟩,.tp [],O2,?_,?_,rfl,rfl⟩
 ·subst hO2;refine ycx [(2,fun i=>(12,i)),(4,fun i=>(16,i))] [] [] ?_;simp only[seeO,cntV,List.length_append,hn,hm,allQ,live,yc,go_sem,zA,↓reduceIte,reduceCtorEq];have gl:∀{α:Type}(l:List α) (x d:α) (i:Nat),i<l.length->(l++[x]).getD i d=l.getD i d:=fun l x d i h=>by simp[zK,List.getElem?_append_left h]
  have gr:∀{α:Type}(l:List α) (x d:α),(l++[x]).getD l.length d=x:=fun l x d=>by simp[zK]
  refine⟨fun i hi=>?_,fun i hi=>?_⟩
  ·by_cases q:i<n
   ·simp only[if_pos q,gl cs c [] i (by omega)]
    simp only[go_sem,live,yc,go_sem]
   ·obtain rfl:i=n:=by omega
    simp only[if_neg q,zAX,zAA];have e:=gr cs c [];rw[hn]at e;simp only[e,live,yc,go_sem]
  ·by_cases q:i<m
   ·simp only[if_pos q,gl ks k default i (by omega)]
    simp only[go_sem,live,yc,go_sem,reduceCtorEq]
   ·obtain rfl:i=m:=by omega
    simp only[if_neg q,zAX,zAA];have e:=gr ks k default;rw[hm]at e;simp only[e,live,yc,go_sem,reduceCtorEq]
 ·subst hO2;simp only[seeO,cntV,ybx,yed,allQ,live,go_sem,zA,↓reduceIte]
theorem ybvm{c:Conf}(hc:∀s∈c,0<s.length/\s.length<=1000)(hl:c.length<=1000)(e:Nat)(k:Cnt) :
 Cm zG 131 [(1,0),(3,0)] ydbi [ybk c,.i .u32 e,.ag (cntV k),.pt (1,0) 0 0,.pt (3,0) 0 0] fun r o=>r = .tp []/\o=seeO [c] [k]:=by
 refine ybks [(1,0),(3,0)] [] _ _ _ ?_;have hC:=yzl c hc hl;obtain⟨O2,hO2⟩:∃O,seeO [c] [k]=O:=⟨_,rfl⟩;rw[hO2];simp only[c131,ybzh,ybzw,ybrf,ydbi,cntV,go_sem,zA,zB,zH,↓reduceIte,reduceCtorEq];refine hC.use ?_;simp only[ybf,clash,ygi,go_sem,zA,zB,zF,zH,Nat.reduceMul,↓reduceIte,reduceCtorEq];refine⟨by decide,by decide,by decide,.tp [],O2,?_,?_,rfl,rfl⟩
 ·subst hO2;refine ycx [(2,fun i=>(12,i)),(4,fun i=>(16,i))] [] [] ?_;simp only[seeO,cntV,allQ,live,yc,go_sem,zA,↓reduceIte,reduceCtorEq];refine⟨fun i hi=>?_,fun i hi=>?_⟩
  ·obtain rfl:i=0:=by omega
   simp only[zAA];simp only[zAH,live,yc,go_sem]
  ·obtain rfl:i=0:=by omega
   simp only[zAA];simp only[zAH,live,yc,go_sem,reduceCtorEq]
 ·subst hO2;simp only[seeO,cntV,ybx,yed,allQ,live,go_sem,zA,↓reduceIte]
structure DaemonOk(kind:Int)(net:List Nat)(res:Nat->Nat->Nat):Prop where
 resolve:∀(e w:Nat),e<2^24->e<2^net.length->e≠0->w<2^32->Returns zG 111 [usV net,.i .i64 kind,.i .u32 e,.i .u32 w] (.i .u32 (res e w))
 permits:∀(e w:Nat),e<2^24->e<2^net.length->e≠0->w<2^32->Returns zG 196 [usV net,.i .i64 kind,.i .u32 e,.i .u32 (res e w)] (.b true)
 zero:∀(w:Nat),w<2^32->∃x:Nat,Returns zG 111 [usV net,.i .i64 kind,.i .u32 0,.i .u32 w] (.i .u32 x)
 sub:∀(e w:Nat),e≠0->e<2^24->res e w≠0/\subB (res e w) e
theorem ybfw{kind:Int}{net:List Nat}{res:Nat->Nat->Nat}(hd:DaemonOk kind net res)(rest:SV)(liv:SV)(mv:SV){ws:List Nat}(hw:∀k,ws.getD k 0<2^32){e:Nat}(he:e<2^24)(hen:e<2^net.length)(h0:e≠0){k:Nat}(hk:k<ws.length) :
 Returns zG 169 [.i .i64 k,.i .u32 e,.rf [mv,usV net,.i .i64 kind,liv,rest],.rf [usV ws]] (.tp [.i .u32 (res e (ws.getD k 0)),.b true]):=by
 refine Returns.of (ybyf _ _ ?_);have hR:=hd.resolve e (ws.getD k 0) he hen h0 (hw k);have z0:((e:Int)!=0)=true:=by simp;omega
 simp only[usV]at hR;simp only[c169,ybzp,ybul,usV,clash,go_sem,zA,zB,zF,↓reduceIte,reduceCtorEq];refine⟨by omega,hR.use ?_⟩
 simp only[ybf,clash,z0,go_sem,zA,zB,↓reduceIte,reduceCtorEq];exact Sim.refl _
theorem ybir{kind:Int}{net:List Nat}{res:Nat->Nat->Nat}(hd:DaemonOk kind net res)(rest:SV)(liv:SV)(mv:SV){ws:List Nat}(hw:∀k,ws.getD k 0<2^32){k:Nat}(hk:k<ws.length) :
 ∃x:Nat,Returns zG 169 [.i .i64 k,.i .u32 0,.rf [mv,usV net,.i .i64 kind,liv,rest],.rf [usV ws]] (.tp [.i .u32 x,.b false]):=by
 obtain⟨x,hR⟩:=hd.zero (ws.getD k 0) (hw k);refine⟨x,Returns.of (ybyf _ _ ?_)⟩;simp only[usV]at hR;simp only[c169,ybzp,ybul,usV,clash,go_sem,zA,zB,zF,↓reduceIte,reduceCtorEq];refine⟨by omega,hR.use ?_⟩
 simp only[ybf,clash,Int.reduceBNe,go_sem,zA,zB,↓reduceIte,reduceCtorEq];exact Sim.refl _
theorem ybgy{s e n:Nat}(h:subB s e)(he:e<2^n):s<2^n:=by
 refine Nat.lt_pow_two_of_testBit _ fun i hi=>?_;cases hb:s.testBit i with
 |false=>rfl
 | true =>
   have:=h i hb;rw[zAC (zAJ he (zAF (by omega) hi))]at this
   cases this
theorem ycgz{s e:Nat}(h:subB s e):difB s e=0:=by
 rw[ycb];intro i;rw[yhj];cases hb:s.testBit i with
 |false=>rfl
 |true=>rw[h i hb];rfl
theorem ydcl(e w:Nat)(h0:e≠0)(he:e<2^24):resD e w≠0/\subB (resD e w) e:=by
 unfold resD;split
 ·exact⟨yczb h0 (by omega),ybjr e⟩
 ·rename_i h
  refine⟨h,fun i hi=>?_⟩;rw[zAR,zI]at hi;exact hi.2
end Sh
end
section
def stAt(S:Sys)(res:Nat->Nat->Nat):List Nat->Conf->Cnt->Nat->Conf×Cnt
 |_,c,k,0=>(c,k)
 |ws,c,k,i+1=>stAt S res ws.tail (S.mv c (res (S.en c) (ws.getD 0 0))) (addP k (res (S.en c) (ws.getD 0 0)) (S.en (S.mv c (res (S.en c) (ws.getD 0 0))))) i
theorem ybbo(S:Sys)(res:Nat->Nat->Nat):∀(i:Nat) (ws:List Nat) (c:Conf) (k:Cnt),
 stAt S res ws c k (i+1)=(S.mv (stAt S res ws c k i).1 (res (S.en (stAt S res ws c k i).1) (ws.getD i 0)),addP (stAt S res ws c k i).2 (res (S.en (stAt S res ws c k i).1) (ws.getD i 0)) (S.en (S.mv (stAt S res ws c k i).1 (res (S.en (stAt S res ws c k i).1) (ws.getD i 0)))))
 |0,ws,c,k=>rfl
 | i+1,ws,c,k=>by
   show stAt S res ws.tail _ _ (i+1)=_;rw[ybbo S res i ws.tail];have e:ws.tail.getD i 0=ws.getD (i+1) 0:=by cases ws<;>rfl
   rw[e];rfl
theorem ybdl(S:Sys)(res:Nat->Nat->Nat):∀(ws:List Nat) (c:Conf) (k:Cnt) (i:Nat),(∀j,j<i->S.en (stAt S res ws c k j).1≠0)->i<=ws.length->(i=ws.length\/S.en (stAt S res ws c k i).1=0) ->
 S.run res ws c k=(zAT i).map fun j=>stAt S res ws c k (j+1)
 | [],c,k,i,_,hi,_=>by
   have:i=0:=by simpa using hi
   subst this;rfl
 | w :: ws,c,k,0,_,_,h=>by
   have h0:S.en c=0:=by
    rcases h with h|h
    ·simp at h
    ·exact h
   unfold Sys.run;rw[if_pos h0];rfl
 | w :: ws,c,k,i+1,hj,hi,h=>by
   have h0:S.en c≠0:=hj 0 (by omega)
   unfold Sys.run;rw[if_neg h0];simp only
   have e:=ybdl S res ws (S.mv c (res (S.en c) w)) (addP k (res (S.en c) w) (S.en (S.mv c (res (S.en c) w)))) i (fun j hj'=>hj (j+1) (by omega)) (by simpa using hi) (by
    rcases h with h|h
    ·exact .inl (by simpa using h)
    ·exact .inr h)
   rw[e,zAD,zW,zAY];rfl
theorem ybow(S:Sys)(res:Nat->Nat->Nat)(ws:List Nat)(c:Conf)(i:Nat)(hj:∀j,j<i->S.en (stAt S res ws c (ydw (S.en c)) j).1≠0)(hi:i<=ws.length)(h:i=ws.length\/S.en (stAt S res ws c (ydw (S.en c)) i).1=0) :
 S.runs res ws c=(zAT (i+1)).map fun j=>stAt S res ws c (ydw (S.en c)) j:=by
 unfold Sys.runs;rw[ybdl S res ws c _ i hj hi h,zAD,zW,zAY];rfl
theorem ycgp{kind:Int}{b:Int×Int}(hb:b.1<=b.2)(h3:kind=3->b.1 <= -1 /\ -1<=b.2)(x:Int):b.1<=yik kind b x/\yik kind b x<=b.2:=by
 unfold yik;split
 ·assumption
 ·split
  ·exact h3 (by assumption)
  ·split<;>omega
namespace Sh
theorem ybje{p:ProgT}{g:Gr}(hg:yw g)(hp:p.ok=true)(hf:yve p g=true){x:VarR}(hx:x∈p.vars)(v:Nat):(ybh g v x).1<=(ybh g v x).2/\(x.kind=3->(ybh g v x).1 <= -1 /\ -1<=(ybh g v x).2):=by
 have h1:=List.all_eq_true.1 hf x hx;have hp':=hp;unfold ProgT.ok at hp';simp only[zI,decide_eq_true_eq]at hp';have hxo:=ybij (List.all_eq_true.1 hp'.1.1.2 _ hx);rcases hxo.1 with h|h|h
 ·have e:ybh g v x=ybh g 0 x:=by unfold ybh;rw[if_pos h,if_pos h]
  rw[e];simp[h]at h1;exact⟨h1.1,fun q=>by omega⟩
 ·unfold ybh;rw[if_neg (by omega),if_pos h]
  exact⟨by decide,fun q=>by omega⟩
 ·unfold ybh;rw[if_neg (by omega),if_neg (by omega),if_pos h]
  exact⟨by simp only[];omega,fun _=>⟨by simp only[];omega,by simp only[];omega⟩⟩
theorem ybqs{p:ProgT}{g:Gr}(hg:yw g)(hp:p.ok=true)(hf:yve p g=true){v:Nat}{s:List Int}(hs:yer (p.vars.map (ybh g v)) s){a:Int}(ha:0<=a/\a<p.vars.length)(y:Int) :
 yer (p.vars.map (ybh g v)) (s.set a.toNat (yik (p.vars.getD a.toNat default).kind (ybh g v (p.vars.getD a.toNat default)) y)):=by
 refine⟨by rw[List.length_set];exact hs.1,fun i b x hb hx=>?_⟩
 by_cases q:a.toNat=i
 ·subst q;have hlt:a.toNat<p.vars.length:=by omega
  rw[List.getElem?_map,zD hlt]at hb;cases hb
  have hl:a.toNat<s.length:=by rw[hs.1,zAS];exact hlt
  rw[zO hl]at hx;cases hx
  rw[getD_at hlt];obtain⟨h1,h2⟩:=ybje hg hp hf (zM hlt) v;exact ycgp h1 h2 y
 ·rw[zS q]at hx;exact hs.2 i b x hb hx
theorem yvx{p:ProgT}{g:Gr}(hg:yw g)(hp:p.ok=true)(hf:yve p g=true)(c:Conf)(v:Nat):∀(sets:List (Int×Ex)) (s:List Int),(∀a∈sets,0<=a.1/\a.1<p.vars.length)->yer (p.vars.map (ybh g v)) s->yer (p.vars.map (ybh g v)) (yln p g c v s sets)
 |[],s,_,hs=>hs
 | a::sets,s,ha,hs=>by
   show yer _ (yln p g c v (s.set _ _) sets);exact yvx hg hp hf c v sets _ (fun x hx=>ha x (zAG _ hx)) (ybqs hg hp hf hs (ha a zAK) _)
theorem ykm{p:ProgT}{g:Gr}(hg:yw g)(hp:p.ok=true)(hf:yve p g=true){c:Conf}(hc:yga p g c=true)(s:Nat):yga p g (yex p g c s)=true:=by
 have h:=(yfc _ _ _).1 hc;refine(yfc _ _ _).2 ⟨by rw[yjz];exact h.1,fun v st hst=>?_⟩
 have hv:v<c.length:=by
  have:=(List.getElem?_eq_some_iff.1 hst).1
  rwa [yjz]at this
 have e:st=(yex p g c s).getD v []:=by simp[zK,hst]
 rw[ymy p g c s hv]at e;have hold:=h.2 v (c.getD v []) (by rw[getD_at hv];exact zD hv)
 rw[e];split
 ·unfold yzn;refine yvx hg hp hf c v _ _ (fun a ha=>?_) hold;have hp':=hp;unfold ProgT.ok at hp';simp only[zI,decide_eq_true_eq]at hp'
  by_cases hr:(ygd p g c v).toNat<p.rules.length
  ·rw[getD_at hr]at ha;have hok:=List.all_eq_true.1 hp'.2 _ (zM hr);unfold RuleT.ok at hok;simp only[zI,decide_eq_true_eq]at hok;have:=List.all_eq_true.1 hok.2 a ha;simp only[zI,decide_eq_true_eq]at this;exact this.1.1
  ·have:p.rules.getD (ygd p g c v).toNat default=default:=by simp[zK,List.getElem?_eq_none (Nat.le_of_not_lt hr)]
   rw[this]at ha;cases ha
 ·exact hold
theorem yph{p:ProgT}{g:Gr}(hg:yw g)(hp:p.ok=true){c:Conf}(hc:yga p g c=true):(∀s∈c,0<s.length/\s.length<=1000)/\c.length<=1000:=by
 have h:=yjc hg hp hc;have hp':=hp;unfold ProgT.ok at hp';simp only[zI,decide_eq_true_eq]at hp';have:=hg.2.1;exact⟨fun s hs=>by have:=(h.row s hs).1;omega,by rw[h.len];omega⟩
theorem ycbn(p:ProgT)(g:Gr)(c:Conf):ybp p g c<2^g.ids.length:=yrw _ _
end Sh
end
section
structure Tgt(S:Sys)(V:Conf->Prop)(T:Conf->Nat->List Int):Prop where
 valid:∀c s,V c->s≠0->subB s (S.en c)->V (S.mv c s)
 stay:∀c s v,V c->v<S.n->s.testBit v=false->(S.mv c s).getD v []=c.getD v []
 move:∀c s v,V c->v<S.n->s.testBit v=true->subB s (S.en c)->(S.mv c s).getD v []=T c v
 en:∀c v,V c->v<S.n->((S.en c).testBit v=false↔c.getD v []=T c v)
theorem Tgt.rounds{S:Sys}{V:Conf->Prop}{T:Conf->Nat->List Int}(h:Tgt S V T){P:Nat->Nat->List Int->Prop}(hT:∀c v r,V c->v<S.n->(∀u,u<S.n->P r u (c.getD u []))->P (r+1) v (T c v))(hl:∀r v s,P (r+1) v s->P r v s):ByRounds S V P where
 valid:=h.valid
 stay:=h.stay
 move:=fun c s v r hv hn hb hs hall=>by rw[h.move c s v hv hn hb hs];exact hT c v r hv hn hall
 rest:=fun c v r hv hn hb hall=>by rw[(h.en c v hv hn).1 hb];exact hT c v r hv hn hall
 less:=hl
theorem Sys.run_last{S:Sys}{res:Nat->Nat->Nat}:∀(ws:List Nat) (c:Conf) (k:Cnt) (i:Nat),i+1<(S.run res ws c k).length->∀p,(S.run res ws c k)[i]?=some p->S.en p.1≠0
 |[],c,k,i,h,p,hp=>by simp[Sys.run]at h
 | w :: ws,c,k,i,h,p,hp=>by
   unfold Sys.run at h hp;split at h
   ·simp at h
   ·rename_i h0
    rw[if_neg h0]at hp;cases i with
    | zero =>
      simp only[zAB]at hp;cases hp
      simp only[List.length_cons]at h;cases ws with
      |nil=>simp[Sys.run]at h
      | cons w' ws =>
        unfold Sys.run at h;split at h
        ·simp at h
        ·assumption
    |succ i=>exact Sys.run_last ws _ _ i (by simpa using h) p (by simpa using hp)
theorem Sys.runs_last{S:Sys}{res:Nat->Nat->Nat}{ws:List Nat}{c:Conf}{i:Nat}(h:i+1<(S.runs res ws c).length){p:Conf×Cnt}(hp:(S.runs res ws c)[i]?=some p):S.en p.1≠0:=by
 unfold Sys.runs at h hp;cases i with
 | zero =>
   simp only[zAB]at hp;cases hp
   cases ws with
   |nil=>simp[Sys.run]at h
   | cons w ws =>
     unfold Sys.run at h;split at h
     ·simp at h
     ·assumption
 |succ i=>exact Sys.run_last ws _ _ i (by simpa using h) p (by simpa using hp)
end
section
open Go.RowKit
end
section
open Go.RowKit
theorem ylg(g:Gr)(G:List Int)(v:Nat):(ydt g G v).length=G.length:=by simp[ydt]
set_option maxHeartbeats 2000000 in
theorem ypl(gv cv Gv:Value)(g:Gr)(c:Conf)(G:List Int)(w:World)(hg:GrAt w gv g)(hc:ycky w cv c)(hG:ymo w Gv G)(hgood:yw g) :
 Calls zG 102 #[gv,cv,Gv] w fun e w'=>e = .returned (.bool (yrh g.ports.length (ydt g G) c))/\Below w.heap.size w w':=by
 have hn24:=hgood.2.1;have hid:=hgood.2.2.1;have Hid':=zC hid
 clear hgood
 obtain⟨i,p,rfl,hi,hp⟩:=hg;obtain⟨A,c0,rfl,hA1,hA2⟩:=ybw hi;obtain⟨A2,c2,rfl,hB1,hB2⟩:=ybw hp;obtain⟨A3,c3,rfl,hC1,hC2⟩:=ybw hc;obtain⟨A4,c4,rfl,hD1,hD2⟩:=ybw hG;have Hp:=zC hp;have Hc:=zC hc;have HG:=zC hG
 clear hi hp hc hG
 by_cases n1:c.length=g.ids.length
 ·have n1':((c.length:Int)!=(g.ids.length:Int))=false:=by simp[n1]
  have Hn:=zC (n1.trans hid);have hcn:c.length<=24:=by omega
  clear n1 hid
  go_enter zAZ,zAW
  go_wp2
  obtain⟨W1,hW1⟩:∃W,W=w.alloc (.cells #[.slice A g.ids.length c0,.slice A2 g.ports.length c2] 27):=⟨_,rfl⟩;have hbox:W1.cell? ⟨w.heap.size,1,none⟩=some (.slice A2 g.ports.length c2):=by subst hW1;simp
  have HbW:=zC (show Below w.heap.size w W1 by subst hW1;exact(Below.refl _ _).alloc (zL _) _)
  rw[<-hW1]
  clear hW1
  go_loopg [21] c.length (fun q t wr=>∃v n:Nat,q+v=c.length/\t = .int .i64 v/\wr=W1.drewN n/\Hid (∀(u:Nat) s,u<v->c[u]?=some s->yer (ydt g G u) s))
  case atStart=>exact⟨0,0,by omega,rfl,rfl,zC (fun u s hu=>absurd hu (by omega))⟩
  case round =>
   obtain⟨v,n,hq,rfl,rfl,hok⟩:=hrel
   by_cases hlt:v<c.length
   ·obtain⟨b3,off3,sv,rfl,hb3,hcs,hs⟩:=yid (Hc.out.below (Stable.sl Stable.int) HbW.out) (zD hlt);obtain⟨A5,c5,rfl,hE1,hE2⟩:=ybw hs;obtain⟨s,hse⟩:∃s,c[v]=s:=⟨_,rfl⟩;have Hs?:=zC (show c[v]?=some s by rw[zD hlt,hse])
    rw[hse]at hs hcs hE1;have Hbad:=zC (show ¬yer (ydt g G v) s->yrh g.ports.length (ydt g G) c=false from fun h=>yiw (fun hc=>h (hc.2 v s Hs?.out)))
    have Hs:=zC hs
    clear hs hse
    by_cases c1:s.length=G.length
    ·have c1':((s.length:Int)!=(G.length:Int))=false:=by simp[c1]
     have Hsl:=zC c1
     clear c1
     have hvp:v<g.ports.length:=by rw[<-Hn.out];exact hlt
     go_wp2
     obtain⟨go,rfl⟩:∃go,go=gk:=⟨_,rfl⟩
     go_loopg [33] s.length (fun q t wr=>∃x n:Nat,q+x=s.length/\t = .int .i64 x/\wr=W1.drewN n/\Hid (∀(j:Nat) b z,j<x->(ydt g G v)[j]?=some b->s[j]?=some z->b.1<=z/\z<=b.2))
     case atStart=>exact⟨0,n,by omega,rfl,rfl,zC (fun j b z hj=>absurd hj (by omega))⟩
     case round =>
      obtain⟨x,n,hqx,rfl,rfl,hst⟩:=hrel
      by_cases hxl:x<s.length
      ·have hxG:x<G.length:=by rw[<-Hsl.out];exact hxl
       obtain⟨b5,o5,rfl,hb5,hc5,hr5⟩:=yih (Hs.out) hxl;obtain⟨b6,o6,rfl,hb6,hc6,hr6⟩:=yih (HG.out.below Stable.int HbW.out) hxG;obtain⟨b7,o7,lv,rfl,hb7,hc7,hl7⟩:=yid (Hp.out.below (Stable.sl Stable.link) HbW.out) (zD hvp);obtain⟨A8,c8,rfl,hF1,hF2⟩:=ybw hl7;obtain⟨ds,hds⟩:∃ds,g.ports[v]=ds:=⟨_,rfl⟩;have hdeg:ybcg g v=ds.length:=by simp[ybcg,zK,zD hvp,hds]
       rw[hds]at hc7 hF1;obtain⟨y,hy⟩:∃y,s[x]=y:=⟨_,rfl⟩;obtain⟨h,hh⟩:∃h,G[x]=h:=⟨_,rfl⟩;have Hy?:=zC (show s[x]?=some y by rw[zD hxl,hy])
       have hb?:(ydt g G v)[x]?=some (if h = -1 then(-1,(ds.length:Int)-1)else(0,h)):=by
        simp[ydt,hxG,hh,hdeg]
       rw[hy]at hc5 hr5;rw[hh]at hc6 hr6;obtain⟨hr5a,hr5b⟩:=hr5;obtain⟨hr6a,hr6b⟩:=hr6
       clear hl7 hds hdeg hy hh
       by_cases c2:h = -1
       ·have c2':(h == -1)=true:=by simp[c2]
        rw[if_pos c2]at hb?;have Hb?:=zC hb?
        clear hb? c2
        by_cases c3:y < -1
        ·have Hf:=zC (Hbad.out (fun h=>by have:=h.2 x _ y Hb?.out Hy?.out;simp only at this;omega))
         go_wp2
         go_quiet (fail)
         go_wp2
         go_quiet (fail)
         go_wp2
         go_ret
         exact⟨ybi Hf.out.symm,below_drewN HbW.out _⟩
        ·by_cases c4:(ds.length:Int)-1<y
         ·have Hf:=zC (Hbad.out (fun h=>by have:=h.2 x _ y Hb?.out Hy?.out;simp only at this;omega))
          go_wp2
          go_quiet (fail)
          go_wp2
          go_quiet (fail)
          go_wp2
          go_ret
          exact⟨ybi Hf.out.symm,below_drewN HbW.out _⟩
         ·have c4d:decide ((ds.length:Int)-1<y)=false:=by simp;omega
          go_wp2
          go_quiet (fail)
          go_wp2
          go_quiet (fail)
          go_wp2
          go_roundg (gk-1)
          case measure=>omega
          case rel =>
           refine⟨x+1,_,by omega,by go_num,rfl,zC (fun j b z hj hb hz=>?_)⟩
           by_cases hjx:j<x
           ·exact hst.out j b z hjx hb hz
           ·obtain rfl:j=x:=by omega
            rw[Hb?.out]at hb;rw[Hy?.out]at hz;cases hb
            cases hz
            simp only;omega
       ·have c2':(h == -1)=false:=by simp[c2]
        rw[if_neg c2]at hb?;have Hb?:=zC hb?
        clear hb? c2
        by_cases c3:y<0
        ·have Hf:=zC (Hbad.out (fun h=>by have:=h.2 x _ y Hb?.out Hy?.out;simp only at this;omega))
         go_wp2
         go_quiet (fail)
         go_wp2
         go_ret
         exact⟨ybi Hf.out.symm,below_drewN HbW.out _⟩
        ·by_cases c4:h<y
         ·have Hf:=zC (Hbad.out (fun h=>by have:=h.2 x _ y Hb?.out Hy?.out;simp only at this;omega))
          go_wp2
          go_quiet (fail)
          go_wp2
          go_ret
          exact⟨ybi Hf.out.symm,below_drewN HbW.out _⟩
         ·have c4d:decide (h<y)=false:=by simp;omega
          go_wp2
          go_quiet (fail)
          go_wp2
          go_roundg (gk-1)
          case measure=>omega
          case rel =>
           refine⟨x+1,_,by omega,by go_num,rfl,zC (fun j b z hj hb hz=>?_)⟩
           by_cases hjx:j<x
           ·exact hst.out j b z hjx hb hz
           ·obtain rfl:j=x:=by omega
            rw[Hb?.out]at hb;rw[Hy?.out]at hz;cases hb
            cases hz
            simp only;omega
      ·obtain rfl:x=s.length:=by omega
       go_wp2
       go_roundg (go-1)
       case measure=>omega
       case rel =>
        refine⟨v+1,_,by omega,by go_num,rfl,zC (fun u s' hu hs'=>?_)⟩
        by_cases huv:u<v
        ·exact hok.out u s' huv hs'
        ·obtain rfl:u=v:=by omega
         rw[Hs?.out]at hs';cases hs'
         refine⟨by rw[ylg,Hsl.out],fun j b z hb hz=>hst.out j b z (List.getElem?_eq_some_iff.1 hz).1 hb hz⟩
    ·have c1':((s.length:Int)!=(G.length:Int))=true:=by simp;omega
     have Hf:=zC (Hbad.out (fun h=>c1 (by rw[h.1,ylg])))
     clear c1
     go_wp2
     go_ret
     exact⟨ybi Hf.out.symm,below_drewN HbW.out _⟩
   ·obtain rfl:v=c.length:=by omega
    have Ht:=zC (yxg (n:=g.ports.length) (bs:=ydt g G) (c:=c) ⟨Hn.out,fun v s hs=>hok.out v s (List.getElem?_eq_some_iff.1 hs).1 hs⟩)
    go_wp2
    go_ret
    exact⟨ybi Ht.out.symm,below_drewN HbW.out _⟩
 ·have n1':((c.length:Int)!=(g.ids.length:Int))=true:=by simp;omega
  have Hf:=zC (yiw (n:=g.ports.length) (bs:=ydt g G) (c:=c) (fun h=>n1 (h.1.trans hid.symm)))
  clear n1 hid
  go_enter zAZ,zAW
  go_wp2
  go_ret
  exact⟨ybi Hf.out.symm,(Below.refl _ _).alloc (zL _) _⟩
end
section
open Go.RowKit
end
section
def ylz(g:Gr):Nat:=(g.ports.map List.length).sum
def addL(back:Bool)(l:List (Int×Int))(x:Int×Int):List (Int×Int):=if back then x::l else l++[x]
theorem yep{back:Bool}{l:List (Int×Int)}{x y:Int×Int}:y∈addL back l x↔y=x\/y∈l:=by
 unfold addL;cases back<;>simp[or_comm]
def ycj(back:Bool)(g:Gr)(a b:Nat)(w:Int):Gr:=⟨g.ids,(g.ports.set a (addL back (g.ports.getD a []) (b,w))).set b (addL back (g.ports.getD b []) (a,w))⟩
theorem yeb(back:Bool)(g:Gr){a b:Nat}(w:Int)(ha:a<g.ports.length)(hb:b<g.ports.length)(v:Nat) :
 (ycj back g a b w).ports.getD v []=if v=b then addL back (g.ports.getD b []) (a,w)else if v=a then addL back (g.ports.getD a []) (b,w)else g.ports.getD v []:=by
 unfold ycj;simp only[zK]
 by_cases h1:v=b
 ·subst h1;rw[if_pos rfl,zO (by simpa using hb)]
  rfl
 ·rw[if_neg h1,zS (fun q=>h1 q.symm)]
  by_cases h2:v=a
  ·subst h2;rw[if_pos rfl,zO ha];rfl
  ·rw[if_neg h2,zS (fun q=>h2 q.symm)]
theorem yra{back:Bool}{l:List (Int×Int)}{v n:Int}{x:Int×Int}(h:ych l v n)(hx:yhy v n x)(hno:∀y∈l,y.1≠x.1):ych (addL back l x) v n:=by
 refine⟨fun y hy=>?_,?_⟩
 ·rcases yep.1 hy with rfl|hy
  ·exact hx
  ·exact h.1 y hy
 ·have hn:x.1∉l.map (·.1):=fun hm=>by
   obtain⟨y,hy,e⟩:=List.mem_map.1 hm;exact hno y hy e
  unfold addL;cases back
  ·simp only[Bool.false_eq_true,if_false,List.map_append,zW,List.map_nil];rw[zAN];refine⟨h.2,by simp,fun p hp q hq=>?_⟩
   rw[List.mem_singleton]at hq;subst hq;intro e;exact hn (e▸hp)
  ·simp only[if_true,zW];exact List.nodup_cons.2 ⟨hn,h.2⟩
theorem ybeg{back:Bool}{g:Gr}(hg:yw g){a b:Nat}{w:Int}(ha:a<g.ports.length)(hb:b<g.ports.length)(hab:a≠b)(hw:1<=w/\w<=15)(hno:∀y∈g.ports.getD a [],y.1≠(b:Int)):yw (ycj back g a b w):=by
 obtain⟨h1,h2,h3,h4,h5,h6,h7⟩:=hg;have hlen:(ycj back g a b w).ports.length=g.ports.length:=by simp[ycj]
 have gd:∀(v:Nat) (hv:v<g.ports.length),g.ports.getD v []=g.ports[v]:=fun v hv=>by simp[zK,hv]
 have hno2:∀y∈g.ports.getD b [],y.1≠(a:Int):=fun y hy e=>by
  rw[gd b hb]at hy;have:=h7 ⟨b,hb⟩ y hy;rw[e,zJ]at this;exact hno _ this rfl
 have at_:∀(v:Nat) (hv:v<g.ports.length),(ycj back g a b w).ports[v]'(by rw[hlen];exact hv)=if v=b then addL back (g.ports.getD b []) (a,w)else if v=a then addL back (g.ports.getD a []) (b,w)else g.ports.getD v []:=fun v hv=>by
  rw[<-yeb back g w ha hb v];simp[zK,hlen,hv]
 refine⟨by rw[hlen];exact h1,by rw[hlen];exact h2,by rw[hlen];exact h3,h4,h5,fun v=>?_,fun v l hl=>?_⟩
 ·have hv:v.1<g.ports.length:=zAL v.isLt hlen;have hl':(((ycj back g a b w).ports.length:Nat):Int)=(g.ports.length:Int):=by rw[hlen]
  rw[hl'];show ych ((ycj back g a b w).ports[v.1]) _ _;rw[at_ v.1 hv];split
  ·rename_i e
   rw[e];refine yra ?_ ⟨by simp only[];omega,by simp only[];omega,by simp only[];omega,hw.1,hw.2⟩ hno2
   rw[gd b hb];exact h6 ⟨b,hb⟩
  ·split
   ·rename_i e
    rw[e];refine yra ?_ ⟨by simp only[];omega,by simp only[];omega,by simp only[];omega,hw.1,hw.2⟩ hno
    rw[gd a ha];exact h6 ⟨a,ha⟩
   ·rw[gd v.1 hv];exact h6 ⟨v.1,hv⟩
 ·have hv:v.1<g.ports.length:=zAL v.isLt hlen
  change l∈(ycj back g a b w).ports[v.1]at hl
  rw[at_ v.1 hv]at hl
  have old:∀u x,x∈g.ports.getD u []->x∈(ycj back g a b w).ports.getD u []:=fun u x hx=>by
   rw[yeb back g w ha hb u];split
   ·rename_i e;subst e;exact yep.2 (.inr hx)
   ·split
    ·rename_i e;subst e;exact yep.2 (.inr hx)
    ·exact hx
  have sym:∀(u:Nat) (hu:u<g.ports.length),l∈g.ports.getD u []->((u:Int),l.2)∈(ycj back g a b w).ports.getD l.1.toNat []:=fun u hu hx=>by
   rw[gd u hu]at hx;exact old _ _ (h7 ⟨u,hu⟩ l hx)
  split at hl
  ·rename_i e
   rcases yep.1 hl with rfl|hl
   ·rw[yeb back g w ha hb,e];simp only[zJ];simp only[if_neg hab,if_true];exact yep.2 (.inl rfl)
   ·rw[e];exact sym b hb hl
  ·split at hl
   ·rename_i e
    rcases yep.1 hl with rfl|hl
    ·rw[yeb back g w ha hb,e];simp only[zJ];simp only[if_true];exact yep.2 (.inl rfl)
    ·rw[e];exact sym a ha hl
   ·exact sym v.1 hv hl
end
section
def Tre(g:Gr)(m:Nat):Prop:=∀v,0<v->v<m->∃u,u<v/\adj g u v
theorem Tre.walk{g:Gr}{m:Nat}(h:Tre g m):∀v,v<m->∃k,Walk g 0 k v:=by
 intro v
 induction v using Nat.strongRecOn with
 | _ v ih =>
   intro hv
   by_cases h0:v=0
   ·subst h0;exact⟨0,rfl⟩
   ·obtain⟨u,hu,ha⟩:=h v (by omega) hv
    obtain⟨k,hk⟩:=ih u hu (by omega)
    exact⟨k+1,u,hk,ha⟩
theorem Tre.conn{g:Gr}(hg:yw g)(h:Tre g g.ports.length):yrn g=true:=by
 unfold yrn;rw[(yfn g).2 hg,Bool.true_and,ybgr hg (a:=0) (by have:=hg.1;omega)]
 exact h.walk
theorem yfk{g:Gr}{u v:Nat}:adj g u v↔∃l,l∈g.ports.getD u []/\l.1=(v:Int):=by
 constructor
 ·rintro⟨ls,h,l,hl,e⟩;exact⟨l,by simpa[zK,h]using hl,e⟩
 ·rintro⟨l,hl,e⟩;cases h:g.ports[u]? with
  |none=>simp[zK,h]at hl
  |some ls=>exact⟨ls,h,l,by simpa[zK,h]using hl,e⟩
theorem ybht{back:Bool}{g:Gr}{a b:Nat}{w:Int}(ha:a<g.ports.length)(hb:b<g.ports.length){u v:Nat}(h:adj g u v):adj (ycj back g a b w) u v:=by
 obtain⟨l,hl,e⟩:=yfk.1 h;refine yfk.2 ⟨l,?_,e⟩;rw[yeb back g w ha hb u];split
 ·rename_i q;subst q;exact yep.2 (.inr hl)
 ·split
  ·rename_i q;subst q;exact yep.2 (.inr hl)
  ·exact hl
theorem ybih{back:Bool}{g:Gr}{a b:Nat}{w:Int}(ha:a<g.ports.length)(hb:b<g.ports.length)(hab:a≠b):adj (ycj back g a b w) a b:=by
 refine yfk.2 ⟨((b:Int),w),?_,rfl⟩;rw[yeb back g w ha hb a,if_neg hab,if_pos rfl];exact yep.2 (.inl rfl)
theorem Tre.add{back:Bool}{g:Gr}{a b:Nat}{w:Int}(ha:a<g.ports.length)(hb:b<g.ports.length){m:Nat}(h:Tre g m):Tre (ycj back g a b w) m:=fun v h0 hv=>by
 obtain⟨u,hu,hadj⟩:=h v h0 hv;exact⟨u,hu,ybht ha hb hadj⟩
def bare(ids:List Int):Gr:=⟨ids,zAU ids.length []⟩
theorem ybbn{ids:List Int}(h1:1<=ids.length)(h2:ids.length<=24)(h3:∀x∈ids,0<=x/\x<=255)(h4:ids.Nodup):yw (bare ids):=by
 have e:∀v:Fin (bare ids).ports.length,(bare ids).ports[v]=[]:=fun v=>by
  have hv:v.1<ids.length:=by have:=v.isLt;simpa[bare]using this
  show(zAU ids.length ([]:List (Int×Int)))[v.1]'(by simpa using hv)=[]
  exact List.getElem_replicate ..
 refine⟨by simpa[bare]using h1,by simpa[bare]using h2,by simp[bare],h3,h4,fun v=>?_,fun v l hl=>?_⟩
 ·rw[e v];exact⟨fun l hl=>(nomatch hl),List.nodup_nil⟩
 ·rw[e v]at hl;cases hl
end
section
abbrev ybee:Ex:=.leaf 4 0
abbrev eVar(k:Int):Ex:=.leaf 5 k
abbrev eQ(k:Int):Ex:=.leaf 12 k
theorem ybas{α:Type}(g:Gr)(v:Nat)(f:Int×Int->α)(h:Nat->α)(e:∀q,q<(g.ports.getD v []).length->h q=f ((g.ports.getD v []).getD q (0,0))):(zAT (g.ports.getD v []).length).map h=(g.ports.getD v []).map f:=by
 refine List.ext_getElem (by simp) fun i h1 h2=>?_
 have hi:i<(g.ports.getD v []).length:=by simpa using h1
 rw[zAQ,List.getElem_range,zAQ,e i hi];congr 1;rw[List.getD_eq_getElem?_getD,zD hi];rfl
theorem yze(f:Int×Int->Bool)(ls:List (Int×Int)):yeh (ls.map fun l=>ybr (f l))=ybes f ls:=by
 unfold yeh ybes
 have:((fun x:Int=>x != 0) ∘ fun l=>ybr (f l))=f:=by
  funext l
  show(ybr (f l)!=0)=f l;unfold ybr;cases f l<;>rfl
 rw[List.findIdx?_map,this]
 all_goals (cases List.findIdx? f ls<;>rfl)
def endP(c:Conf)(k:Nat)(l:Int×Int):Int:=(c.getD l.1.toNat []).getD k 0
theorem ytf(b:Bool):(ybr b != 0)=b:=by cases b<;>rfl
section
variable {nm nd np nt nl:ByteArray}{g:Gr}{c:Conf}{v:Nat}
theorem bT3{x:ByteArray}:ybh g v ⟨x,3,0,0,0,0⟩=(-1,((g.ports.getD v []).length:Int)-1):=by
 show(if (3:Int)=1 then _ else if (3:Int)=2 then _ else if (3:Int)=3 then _ else _)=_
 rw[if_neg (by decide),if_neg (by decide),if_pos rfl]
end
end
section
section
variable {g:Gr}{a v:Nat}
theorem ygy(hg:yw g)(hc:yrn g=true)(ha:a<g.ports.length)(hv:v<g.ports.length):∃k:Nat,(yeq g a).getD v 0=k/\Walk g a k v/\(∀j,j<k->¬Walk g a j v)/\k<g.ports.length:=by
 have h0:0<g.ports.length:=by omega
 have hall:(yeq g a).all (fun x=>decide (0<=x))=true:=ycfs hg h0 ha ((zI _ _▸hc).2);have hl:=ybch hg ha;have hvl:v<(yeq g a).length:=by rw[hl];exact hv
 have e:(yeq g a).getD v 0=(yeq g a)[v]:=by simp[zK,hvl]
 have hpos:0<=(yeq g a)[v]:=by simpa using List.all_eq_true.1 hall _ (zM hvl)
 rcases(yjy hg ha).2 v _ (zD hvl)with⟨h,_⟩|⟨k,h1,h2,h3⟩
 ·omega
 ·exact⟨k,by rw[e,h1],h2,h3,ybsc hg ha h2 h3⟩
theorem ycxn{k:Nat}(hg:yw g)(hc:yrn g=true)(ha:a<g.ports.length)(hv:v<g.ports.length)(h1:Walk g a k v)(h2:∀j,j<k->¬Walk g a j v):(yeq g a).getD v 0=k:=by
 obtain⟨j,e,h3,h4,_⟩:=ygy hg hc ha hv;rcases Nat.lt_trichotomy j k with h|h|h
 ·exact absurd h3 (h2 j h)
 ·rw[e,h]
 ·exact absurd h1 (h4 k h)
theorem ybvt(hg:yw g)(hc:yrn g=true)(ha:a<g.ports.length):(yeq g a).getD a 0=0:=ycxn hg hc ha ha (k:=0) rfl fun j hj=>by omega
theorem ydbx(hg:yw g)(hc:yrn g=true)(ha:a<g.ports.length)(hv:v<g.ports.length):0<=(yeq g a).getD v 0/\(yeq g a).getD v 0<g.ports.length:=by
 obtain⟨k,e,_,_,h⟩:=ygy hg hc ha hv;omega
theorem ycer(hg:yw g)(hc:yrn g=true)(ha:a<g.ports.length)(hv:v<g.ports.length)(hne:v≠a):1<=(yeq g a).getD v 0:=by
 obtain⟨k,e,h1,_,_⟩:=ygy hg hc ha hv;cases k with
 |zero=>exact absurd h1 hne
 |succ k=>omega
theorem ycgn(hg:yw g)(hc:yrn g=true)(ha:a<g.ports.length){u:Nat}(h:adj g u v):(yeq g a).getD v 0<=(yeq g a).getD u 0+1:=by
 obtain⟨hu,hv⟩:=hg.adj_lt h;obtain⟨k,e,h1,_,_⟩:=ygy hg hc ha hu;obtain⟨j,e',_,h3,_⟩:=ygy hg hc ha hv;rw[e,e'];rcases zBA (k+1) j with q|q
 ·exact absurd ⟨u,h1,h⟩ (h3 (k+1) q)
 ·omega
theorem ybtt(hg:yw g)(hc:yrn g=true)(ha:a<g.ports.length)(hv:v<g.ports.length)(hne:v≠a):∃u,adj g v u/\(yeq g a).getD u 0=(yeq g a).getD v 0-1:=by
 obtain⟨k,e,h1,h2,_⟩:=ygy hg hc ha hv;cases k with
 |zero=>exact absurd h1 hne
 | succ k =>
   obtain⟨u,h3,h4⟩:=h1;refine⟨u,hg.adj_symm h4,?_⟩;have h5:=ycgn hg hc ha h4;obtain⟨hu,_⟩:=hg.adj_lt h4;obtain⟨j,e',_,h6,_⟩:=ygy hg hc ha hu;rw[e,e']at h5;rcases zBA k j with q|q
   ·exact absurd h3 (h6 k q)
   ·rw[e,e'];omega
theorem ycg{l:Int×Int}(hg:yw g)(hv:v<g.ports.length)(hl:l∈g.ports.getD v []):0<=l.1/\l.1.toNat<g.ports.length/\adj g v l.1.toNat/\1<=l.2/\l.2<=15:=by
 have e:g.ports[v]?=some (g.ports.getD v []):=by simp[zK,hv]
 have h:=hg.link e hl;exact⟨h.1,by omega,⟨_,e,l,hl,by omega⟩,h.2.2.2.1,h.2.2.2.2⟩
theorem yll{u:Nat}(h:adj g v u):∃l∈g.ports.getD v [],l.1.toNat=u:=by
 obtain⟨l,hl,e⟩:=yfk.1 h;exact⟨l,hl,by rw[e];simp⟩
end
section
variable {nm nd np nt nl:ByteArray}{g:Gr}
end
end
end Go.Proofs.YtiejahgklcjhkaaGreatDoor
