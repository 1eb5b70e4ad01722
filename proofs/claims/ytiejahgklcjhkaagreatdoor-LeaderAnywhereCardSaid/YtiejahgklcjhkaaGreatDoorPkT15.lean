/- Joined. -/
import Derived.Test.YtiejahgklcjhkaaGreatDoorPkT14
set_option linter.unusedSimpArgs false
set_option linter.unusedVariables false
set_option maxRecDepth 8000
open Nat renaming reduceEqDiff→zA,reduceAdd→zB,reduceLeDiff→zC,reduceLT→zG,reduceBEq→zI,and_two_pow_sub_one_of_lt_two_pow→zN,le_refl→zQ,zero_mul→zT,pow_le_pow_right→zU,pow_lt_pow_right→zZ,zero_le→zAB,testBit_two_pow_sub_one→zAD,lt_of_lt_of_le→zAE,shiftRight_eq_div_pow→zAI,sub_self→zAK,testBit_lt_two_pow→zAL,lt_of_le_of_lt→zAQ,lt_irrefl→zAX,reduceMul→zAZ,and_zero→zBA
open Go.Lib renaming hid→zD
open Go.Proofs.Tryz renaming prog→zF,func96→zAC,ntmps96→zAJ,underlying22→zAT,zeroCells195→zAU
open List renaming getElem?_eq_getElem→zH,replicate→zM,getElem_mem→zS,getD_cons_zero→zV,getElem_append_left→zW,range→zX,getElem_of_mem→zAA,getD→zAF,getElem_append_right→zAH,range_succ_eq_map→zAM,mem_of_mem_take→zAN,mem_cons_of_mem→zAO,map_cons→zAP,mem_cons_self→zAR,length_append→zAS,take_length→zAV,length_map→zAW,map_map→zBB
open Int renaming natCast_zero→zJ,toNat_natCast→zO,eq_ofNat_of_zero_le→zY,reduceBEq→zAG,reduceBNe→zAY
open Bool renaming and_eq_true→zK
open BitVec renaming ofInt→zL
open Go
namespace Go.Proofs.YtiejahgklcjhkaaGreatDoor
section
namespace Sh
open Go Ev
def ytq(p:ProgT)(g:Gr):Bool:=p.vars.all fun x=>decide (x.kind=1)==false||(decide ((ybh g 0 x).1<=(ybh g 0 x).2)&&decide ((ybh g 0 x).2-(ybh g 0 x).1+1<=4096))
def ygo(Q1 Q2:(Nat->Option ABlk)->Value->Prop)(p:ProgR):List SV:=[.a (.string p.name),.ex Q1 (ydd p.vars),.ex Q2 (ydb p.rules)]
theorem ycbu{Q1 Q2:(Nat->Option ABlk)->Value->Prop}(p:ProgT){g:Gr}(hg:ybc g)(hp:p.ok=true)(hf:ytq p g=true)(hV:Returns zF 191 [.ag (ygo Q1 Q2 p.raw)] (.b true))(hG:Returns zF 96 [grV g] (.b true)) :
 Returns zF 155 [.ag (ygo Q1 Q2 p.raw),grV g] (.i .i64 0):=by
 refine Returns.of (ydcx _ _ ?_);have hp':=hp;unfold ProgT.ok at hp';simp only[zK,decide_eq_true_eq]at hp';have hvars:p.raw.vars=p.vars:=rfl;simp only[ygo,grV]at hV hG;simp only[c155,ycrj,ycov,ycuq,ycvi,ycll,ycgu,ygo,grV,go_sem,zA,zB,zG,↓reduceIte,reduceCtorEq];refine hV.use ?_;simp only[ybi,go_sem,zA,zB,↓reduceIte];refine hG.use ?_;simp only[ydd,hvars,go_sem,zA,zB,zC,↓reduceIte,reduceCtorEq]
 have hall:∀k,k<p.vars.length->(p.vars.getD k default).ok=true/\((p.vars.getD k default).kind=1->(ybh g 0 (p.vars.getD k default)).1<=(ybh g 0 (p.vars.getD k default)).2/\(ybh g 0 (p.vars.getD k default)).2-(ybh g 0 (p.vars.getD k default)).1+1<=4096):=fun k hk=>by
  rw[getD_at hk];refine⟨List.all_eq_true.1 hp'.1.1.2 _ (zS _),fun h1=>?_⟩;have:=List.all_eq_true.1 hf _ (zS hk)
  simpa[h1]using this
 refine ybj (σ:=Nat) (fun k=>⟨[(18,.i .i64 k),(17,.i .i64 p.vars.length),(16,.ex Q1 (ydd p.vars)),(3,.pt (3,0) 0 0)],[(3,.one (some ⟨27,true,2,1,fun _=>[yx g.ids,ybe g.ports]⟩))]⟩) (fun k=>k<=p.vars.length) (fun k=>p.vars.length-k) 0 (zAB _) ?_ ?_
 ·refine yj [] [] [] ?_;simp only[ydd,allQ,live,yg,zJ,go_sem,zA,↓reduceIte,reduceCtorEq]
 ·intro k hk;obtain⟨x,hx⟩:∃x,p.vars.getD k default=x:=⟨_,rfl⟩;simp only[yckf,ycse,ycqd,yctm,ybyc,ycah,ybpa,ybqi,ydd,varC,splice,ybb,hx,go_sem,zA,zB,zC,zG,↓reduceIte,reduceCtorEq];intro hlt;have hk':k<p.vars.length:=by omega
  obtain⟨hxo,hxb⟩:=hall k hk';rw[hx]at hxo hxb;have hB:=yur hg hxo (v:=0) (by have:=hg.1;omega)
  simp only[varC,grV,zJ]at hB;obtain⟨hb1,hb2⟩:=ynb hg hxo;have hvo:=ybeo hxo;refine⟨by omega,fun h1=>⟨ikw (by omega) (by omega),?_⟩,fun h1=>hB.use ?_⟩
  ·refine yw (k+1) (by omega) (by omega) ?_
   refine yj [] [] [] ?_;simp only[allQ,live,yg,ybb,go_sem,zA,↓reduceIte,reduceCtorEq];omega
  ·obtain⟨hb3,hb4⟩:=hxb h1;obtain⟨b1,hb1'⟩:∃b,(ybh g 0 x).1=b:=⟨_,rfl⟩;obtain⟨b2,hb2'⟩:∃b,(ybh g 0 x).2=b:=⟨_,rfl⟩;have e:ybh g 0 x=(x.lo,x.hi+x.perNode*(g.ids.length:Int)+x.perID*maxI g.ids):=by unfold ybh;rw[if_pos h1]
   rw[e]at hb1' hb2';simp only[]at hb1' hb2';simp only[e]at hb3 hb4;rw[e];simp only[ybi,ybb,go_sem,zA,zB,↓reduceIte,reduceCtorEq];simp only[hb1',hb2']at hb3 hb4 ⊢;refine⟨fun _=>⟨ikw (by omega) (by omega),ikw (by omega) (by omega),fun hgt=>absurd hb4 (by omega),fun _=>⟨ikw (by omega) (by omega),?_⟩⟩,fun hlt2=>absurd hb3 (by omega)⟩
   refine yw (k+1) (by omega) (by omega) ?_
   refine yj [] [] [] ?_;simp only[allQ,live,yg,ybb,go_sem,zA,↓reduceIte,reduceCtorEq];omega
end Sh
end
section
open Go.RowKit
theorem ybut(n k:Nat)(hk:k<n):(zM k (-1:Int)++zM (n-k) 0).set k (-1)=zM (k+1) (-1)++zM (n-(k+1)) 0:=by
 apply List.ext_getElem
 ·simp;omega
 ·intro i h1 h2;rw[List.getElem_set];split
  ·subst_vars
   rw[zW (by simp)]
   simp
  ·by_cases hi:i<k
   ·rw[zW (by simpa using hi),zW (by simp;omega)];simp
   ·rw[zAH (by simp;omega),zAH (by simp;omega)];simp
theorem ymg(g:Gr)(a:Nat)(h:g.ports.length<=24):1+yck (start g a)<=30:=by
 have h1:=List.countP_le_length (p:=fun x:Int=>decide (x<0)) (l:=start g a);have h2:(start g a).length=g.ports.length:=by simp[start]
 unfold yck;omega
set_option maxHeartbeats 2000000 in
theorem ybmn(gv:Value)(g:Gr)(a:Nat)(w:World)(hg:GrAt w gv g)(hgood:ybc g)(ha:a<g.ports.length) :
 Calls zF 139 #[gv,.int .i64 a] w (ycyf (ybt g a) w):=by
 have hn24:=hgood.2.1;have Hgood:=zD hgood
 clear hgood
 obtain⟨i,p,rfl,hi,hp⟩:=hg;obtain⟨A2,c2,rfl,hB1,hB2⟩:=ycq hp;have Hp:=zD hp
 clear hi hp
 have hmk:=ybbz g.ports.length (by omega)
 go_enter Tryz.func139,Tryz.ntmps139
 go_wp2
 go_loopg [17] g.ports.length (fun q t wr=>∃k:Nat,q+k=g.ports.length/\t = .int .i64 k/\Hid (Below (w.heap.size+1) (w.alloc (.cells #[i,.slice A2 g.ports.length c2] 27)) wr)/\Hid (IBlk wr (w.heap.size+1) (zM k (-1)++zM (g.ports.length-k) 0)))
 case atStart =>
  refine⟨0,by omega,rfl,zD ((Below.refl _ _).alloc (by simp) _),zD ?_⟩
  have:=IBlk.new (w.alloc (.cells #[i,.slice A2 g.ports.length c2] 27)) (zM g.ports.length (0:Int))
  simpa using this
 case round =>
  obtain⟨k,hq,rfl,hbel,hblk⟩:=hrel
  by_cases hlt:k<g.ports.length
  ·obtain⟨x,hx⟩:∃x,wr.cell? ⟨w.heap.size+1,k,none⟩=some (.int .i64 x):=⟨_,hblk.out.cell (by simp;omega)⟩
   have hf:=hblk.out.frozen k
   go_wp2
   go_roundg (gk-1)
   case measure=>omega
   case rel =>
    refine⟨k+1,by omega,by go_num,zD (hbel.out.setCell (by simp) _),zD ?_⟩
    have:=hblk.out.set_ k (-1)
    rwa [ybut _ _ hlt]at this
  ·obtain rfl:k=g.ports.length:=by omega
   have hblk0:IBlk wr (w.heap.size+1) (zM g.ports.length (-1)):=by simpa using hblk.out
   obtain⟨x,hx⟩:∃x,wr.cell? ⟨w.heap.size+1,a,none⟩=some (.int .i64 x):=⟨_,hblk0.cell (by simpa using ha)⟩
   have hf:=hblk0.frozen a;have Hb0:=zD hblk0
   clear hblk0 hblk hmk
   go_wp2
   go_loopg [7] (1+yck (start g a)) (fun q t wr=>∃R Q,q=Q.length+yck R/\q<=30/\Hid (Below (w.heap.size+1) (w.alloc (.cells #[i,.slice A2 g.ports.length c2] 27)) wr)/\Hid (IBlk wr (w.heap.size+1) R)/\Hid (BfsInv g a R Q)/\Hid (Owns wr (w.heap.size+2) 3 1 t Q.length (Q.map (fun q:Nat=>Value.int .i64 (q:Int)))))
   case atStart =>
    refine⟨start g a,[a],rfl,ymg g a hn24,zD ((hbel.out.setCell (by simp) _).alloc (by have:=hbel.out.size;simp at this ⊢;omega) _),zD ((Hb0.out.set_ a 0).alloc _),zD (BfsInv.start ha),zD ?_⟩
    refine⟨rfl,.inr ⟨_,0,1,#[.int .i64 (a:Int)],rfl,?_,?_,zQ _,by simp[maxLen],by simp,?_⟩⟩
    ·have:=Hb0.out.lt;simp;omega
    ·have:=heap_alloc_new (wr.setCell ⟨w.heap.size+1,a,none⟩ (.int .i64 0)) (.cells #[.int .i64 (a:Int)] 3);simpa using this
    ·intro j u hu
     simpa using hu
   case round =>
    clear hbel Hb0 hx hf
    obtain⟨R,Q,hq,hq30,hbel,hblk,hinv,hown⟩:=hrel;obtain⟨AQ,cQ,rfl⟩:=hown.out.val;cases Q with
    | nil =>
      have Hd:=zD (hinv.out.isDist.unique (ydq Hgood.out ha))
      go_wp2
      go_ret
      have h:=hblk.out.ints (fun x hx=>by have:=hinv.out.isDist.bound Hgood.out ha x hx;unfold I64;omega) (by rw[hinv.out.len];omega)
      rw[hinv.out.len,Hd.out]at h;exact⟨_,rfl,h,(box2 hbel.out).2.2.1⟩
    | cons v Q =>
      obtain⟨gQ,oQ,cap,hv,hg1,hg2,hg3,hg4,hcell⟩:=hown.out.form (by simp)
      cases hv
      have hc0:=hcell 0 (.int .i64 (v:Int)) rfl;simp only[Nat.add_zero]at hc0;have Hcell:=zD hcell;obtain⟨d,hd⟩:=hinv.out.qin v (by simp)
      have hvl:v<g.ports.length:=by rw[<-hinv.out.len];exact(List.getElem?_eq_some_iff.1 hd).1
      obtain⟨q0,q1,hbw,hsz⟩:=box2 hbel.out;obtain⟨b2,off2,lv,rfl,hb2,hclw,hls⟩:=ymw Hp.out (zH hvl);have hcl:=yji hbw _ _ hclw
      clear hclw
      obtain⟨A3,c3,rfl,hl1,hl2⟩:=ycq hls;obtain⟨ls,hle⟩:∃ls,g.ports[v]=ls:=⟨_,rfl⟩;have Hlp:=zD (show g.ports[v]?=some ls by rw[zH hvl,hle])
      rw[hle]at hls hcl hl1;have Hls:=zD hls;have Hin:=zD (hinv.out.pop hd ls);have Hbw:=zD hbw
      clear hle hls hbw hcell hinv hd
      simp only[List.length_cons]at hq hg3 hown hc0;obtain⟨i0,hi0,hz0,hz1,hz2⟩:=info_parts ybii;obtain⟨vQ,hsl,hoQ,hobQ⟩:=ycfx (P:=zF) zAT hi0 hz1 hown.out (k:=1) (by simp) (by simp)
      simp only[Nat.add_sub_cancel,Nat.mul_one,zAP,List.drop_succ_cons,List.drop_zero]at hoQ;have hsl':∀W,(Instr.slice 22 (.slice (some ⟨gQ,oQ,none⟩) (Q.length+1) cQ) (some (.int .i64 1)) none none).run zF W = .ok vQ W:=fun W=>by simpa using hsl W
      have HoQ:=zD hoQ;have Hi0:=zD (show _/\_/\_/\_ from⟨hi0,hz0,hz1,hz2⟩)
      clear hoQ hown hsl hobQ hi0 hz0 hz1 hz2
      unfold maxLen at hg4
      go_wp2
      clear hsl'
      obtain⟨go,rfl⟩:∃go,go=gk:=⟨_,rfl⟩
      go_loopg [43,7] ls.length (fun q t tq wr=>∃(k:Nat) (R:List Int) (Q:List Nat),q+k=ls.length/\t = .int .i64 k/\Hid (go=Q.length+1+yck R)/\Hid (Below (w.heap.size+1) (w.alloc (.cells #[i,.slice (some ⟨b2,off2,none⟩) g.ports.length c2] 27)) wr)/\Hid (IBlk wr (w.heap.size+1) R)/\Hid (BfsIn g a v d ls k R Q)/\Hid (Owns wr (w.heap.size+2) 3 1 tq Q.length (Q.map (fun q:Nat=>Value.int .i64 (q:Int)))))
      case atStart=>exact⟨0,R,Q,by omega,rfl,zD (by omega),hbel,hblk,Hin,HoQ⟩
      case round =>
       clear hbel hblk Hin HoQ hq hcl q0 q1 Hbw hsz
       obtain⟨k,R,Q,hq,rfl,Hgk,hbel,hblk,Hin,HoQ⟩:=hrel
       by_cases hlt:k<ls.length
       ·obtain⟨q0,q1,hbw,hsz⟩:=box2 hbel.out;have Hbw:=zD hbw;obtain⟨A4,c4,e4,_,_,hE⟩:=Hls.out.below Stable.link hbw;cases e4
        obtain⟨b3,off3,rfl,hb3,hE⟩:=hE (by omega)
        obtain⟨⟨l1,wt⟩,hle⟩:∃l,ls[k]=l:=⟨_,rfl⟩;have hl?:ls[k]?=some (l1,wt):=by rw[zH hlt,hle]
        obtain⟨hx1,hx2,⟨hr1,hr2⟩,⟨hr3,hr4⟩⟩:=hE k _ hl?;obtain⟨k1,k2,k3,k4,k5⟩:=Hgood.out.link Hlp.out (List.mem_of_getElem? hl?);simp only at k1 k2 k3 k4 k5 hx1 hx2 hr1 hr2 hr3 hr4;obtain⟨u,rfl⟩:=zY k1;have hul:u<R.length:=by rw[Hin.out.len];omega
        have hvR:v<R.length:=by rw[Hin.out.len];omega
        have hRv:R[v]?=some (d:Int):=Hin.out.rv;have hcv:=hblk.out.cell hvR;rw[show R[v]=(d:Int)by have:=zH hvR;rw[hRv]at this;exact(Option.some.inj this).symm]at hcv
        have hcu:=hblk.out.cell hul;have hfu:=hblk.out.frozen u
        have hd24:d<g.ports.length:=by
         rcases Hin.out.val v _ hRv with e|⟨k',e,h1,h2⟩
         ·omega
         ·obtain rfl:d=k':=by omega
          exact yrq Hgood.out ha h1 h2
        have hle1:ls[k].1=(u:Int):=by rw[hle]
        have hRu:R[u]?=some R[u]:=zH hul;have hB:w.heap.size+1<wr.heap.size:=hblk.out.lt
        clear hE hl? hle hbw k1 k3 hRv
        by_cases hneg:R[u]<0
        ·have hRm:R[u]?=some (-1):=by
          rcases Hin.out.val u _ hRu with e|⟨k',e,_⟩
          ·exact hRu.trans (congrArg some e)
          ·exact absurd e (by omega)
         have Hd:=zD (Hin.out.discover Hlp.out hlt hle1 hRm);have Hun:=zD (yrw (R:=R) (u:=u) (x:=(d:Int)+1) hRm (by omega))
         clear hRu hRm hle1
         go_wp2
         go_region
         go_wp2_with (at_builtin;refine yne _ rfl _ _ 22 rfl (w.heap.size+2) 3 i0 (.int .i64 0) 1 8 zAT Hi0.out.1 Hi0.out.2.1 Hi0.out.2.2.1 Hi0.out.2.2.2 rfl (by decide) u7 Q.length (Q.map (fun q:Nat=>Value.int .i64 (q:Int))) (by rfl) ?hown _ 1 1 [.int .i64 (u:Int)] (by rfl) rfl ?c1 ?c2 ?c3 ?c4 ?c5 ?_)
         case hown=>exact(((HoQ.out.low (p:=⟨w.heap.size+1,u,none⟩) (by simp) _).alloc _).alloc _).drew
         case c1=>exact yccs (by simp)
         case c2=>simp[Value.oneCell']
         case c3=>have:=Hgk.out;simp only[maxLen];omega
         case c4=>have:=Hgk.out;omega
         case c5=>simp;omega
         intro vQ' w' hown' hgr hob;have hgo:=Hgk.out;have Hown:=zD hown';have Hgr:=zD hgr
         clear hown' hgr hob
         go_wp2
         go_roundg (gk-1)
         case measure=>omega
         case rel =>
          have hb1:=(((hbel.out.setCell (p:=⟨w.heap.size+1,u,none⟩) (by simp) (.int .i64 ((d:Int)+1))).alloc (by simp;omega) (.cells #[.int .i64 (u:Int),.int .i64 wt] 95)).alloc (by simp;omega) (.cells #[.int .i64 (u:Int)] 3)).drew
          have hk1:=((((hblk.out.set_ u ((d:Int)+1)).alloc (.cells #[.int .i64 (u:Int),.int .i64 wt] 95)).alloc (.cells #[.int .i64 (u:Int)] 3)).drew);refine⟨k+1,R.set u ((d:Int)+1),Q++[u],by omega,by go_num,zD ?_,zD (hb1.grown Hgr.out (by simp;omega) (fun x hx=>?_)),zD (hk1.grown Hgr.out (fun e=>?_)),Hd,zD ?_⟩
          ·have:=Hun.out;simp;omega
          ·have:=(HoQ.out.lt hx).1;omega
          ·have:=(HoQ.out.lt e.symm).1;omega
          ·have:=Hown.out
           simpa using this
        ·have hpos:0<=R[u]:=by omega
         obtain⟨j,hj⟩:=zY hpos;have Hsk:=zD (Hin.out.skip hlt (j:=j) (by rw[hle1,zO,hRu,hj]))
         clear hRu hle1 hj
         go_wp2
         have hgo:=Hgk.out
         go_roundg (gk-1)
         case measure=>omega
         case rel=>exact⟨k+1,R,Q,by omega,by go_num,Hgk,zD (hbel.out.alloc (by omega) _),zD (hblk.out.alloc _),Hsk,zD (HoQ.out.alloc _)⟩
       ·obtain rfl:k=ls.length:=by omega
        go_wp2
        have hgo:=Hgk.out
        go_roundg (Q.length+yck R)
        case measure=>omega
        case rel=>exact⟨R,Q,rfl,by omega,hbel,hblk,zD (Hin.out.finish Hlp.out),HoQ⟩
end
section
open Go.RowKit
theorem yzn:zAU=Array.replicate 256 (.bool false):=by kernel_rfl
def Seen(w:World)(g:Nat)(S:List Int):Prop:=∃cur,w.heap[g]?=some (.cells cur 195 (0,0))/\cur.size=256/\∀i:Nat,i<256->cur[i]?=some (.bool (decide ((i:Int)∈S)))
theorem Seen.cell{w:World}{g:Nat}{S:List Int}(h:Seen w g S){i:Nat}(hi:i<256):w.cell? ⟨g,i,none⟩=some (.bool (decide ((i:Int)∈S))):=by
 obtain⟨cur,h1,h2,h3⟩:=h;simp[World.cell?,h1,h3 i hi]
theorem Seen.frozen{w:World}{g:Nat}{S:List Int}(h:Seen w g S)(i:Nat):w.frozen? ⟨g,i,none⟩=false:=by
 obtain⟨cur,h1,h2,h3⟩:=h;simp[World.frozen?,h1]
theorem Seen.set_{w:World}{g:Nat}{S:List Int}(h:Seen w g S){i:Nat}:Seen (w.setCell ⟨g,i,none⟩ (.bool true)) g (S++[(i:Int)]):=by
 obtain⟨cur,h1,h2,h3⟩:=h;refine⟨cur.setIfInBounds i (.bool true),by simp[World.setCell,Array.getElem?_modify,h1],by simp[h2],fun j hj=>?_⟩
 rw[Array.getElem?_setIfInBounds];split
 ·subst_vars
  rw[if_pos (by omega)]
  simp
 ·rw[h3 j hj];congr 3;simp;omega
theorem Seen.start(w:World):Seen (w.alloc (.cells zAU 195)) w.heap.size []:=by
 refine⟨_,heap_alloc_new w _,by rw[yzn];simp,fun i hi=>?_⟩
 rw[yzn];simp[hi]
def ybet(ids:List Int):Bool:=decide ((∀x∈ids,0<=x/\x<=255)/\ids.Nodup)
def yrx(ids:List Int)(k:Nat):Prop:=(∀x∈ids.take k,0<=x/\x<=255)/\(ids.take k).Nodup
theorem ybqt{ids:List Int}{k:Nat}(hk:k<ids.length):yrx ids (k+1)↔yrx ids k/\(0<=ids[k]/\ids[k]<=255)/\ids[k]∉ids.take k:=by
 unfold yrx;rw[take_snoc ids k hk,List.nodup_append];constructor
 ·rintro⟨h1,h2,_,h3⟩;exact⟨⟨fun x hx=>h1 x (List.mem_append_left _ hx),h2⟩,h1 _ (List.mem_append_right _ (by simp)),fun hm=>h3 _ hm _ (by simp) rfl⟩
 ·rintro⟨⟨h1,h2⟩,h3,h4⟩;refine⟨fun x hx=>?_,h2,by simp,fun a ha b hb e=>?_⟩
  ·rcases List.mem_append.1 hx with hx|hx
   ·exact h1 x hx
   ·simp at hx;subst hx;exact h3
  ·simp at hb;subst hb e;exact h4 ha
theorem ybft{ids:List Int}{k:Nat}(h:¬yrx ids k):ybet ids=false:=by
 unfold ybet;rw[decide_eq_false_iff_not];exact fun hd=>h ⟨fun x hx=>hd.1 x (zAN hx),hd.2.sublist (List.take_sublist _ _)⟩
theorem yblw{ids:List Int}(h:yrx ids ids.length):ybet ids=true:=by
 unfold yrx at h;rw[zAV]at h;exact decide_eq_true h
set_option maxRecDepth 100000 in
set_option maxHeartbeats 1000000 in
theorem yqb(iv:Value)(ids:List Int)(w:World)(hi:yku w iv ids) :
 Calls zF 152 #[iv] w fun e w'=>e = .returned (.bool (ybet ids))/\Below w.heap.size w w':=by
 obtain⟨A,c,rfl,hA1,hA2⟩:=ycq hi;have Hi:=zD hi
 clear hi
 go_enter Tryz.func152,Tryz.ntmps152
 go_wp2
 go_loopg [8] ids.length (fun q t wr=>∃k:Nat,q+k=ids.length/\t = .int .i64 k/\Hid (Below w.heap.size w wr)/\Hid (Seen wr w.heap.size (ids.take k))/\Hid (yrx ids k))
 case atStart=>exact⟨0,by omega,rfl,zD ((Below.refl _ _).alloc (zQ _) _),zD (Seen.start w),zD ⟨by simp,by simp⟩⟩
 case round =>
  obtain⟨k,hq,rfl,hbel,hseen,hok⟩:=hrel
  by_cases hlt:k<ids.length
  ·obtain⟨b,off,rfl,hb,hcid,hr⟩:=yna (Hi.out.below Stable.int hbel.out) hlt;obtain⟨x,hx⟩:∃x,ids[k]=x:=⟨_,rfl⟩;have Hsn:=zD (ybqt hlt);rw[hx]at hcid hr Hsn;obtain⟨hr1,hr2⟩:=hr;have Hbad:=zD (fun h=>ybft (ids:=ids) (k:=k+1) h);have Hts:=zD (take_snoc ids k hlt);rw[hx]at Hts
   clear hx
   by_cases c1:0<=x/\x<=255
   ·obtain⟨c1a,c1b⟩:=c1;obtain⟨n,rfl⟩:=zY c1a;have hcs:=hseen.out.cell (i:=n) (by omega)
    have hfs:=hseen.out.frozen n
    by_cases c2:(n:Int)∈ids.take k
    ·rw[decide_eq_true c2]at hcs;have Hf:=zD (Hbad.out (fun h=>(Hsn.out.1 h).2.2 c2))
     clear c2
     go_wp2
     go_ret
     exact⟨ybo Hf.out.symm,hbel.out⟩
    ·rw[decide_eq_false c2]at hcs;have Hn:=zD (Hsn.out.2 ⟨hok.out,⟨by omega,by omega⟩,c2⟩)
     clear c2
     go_wp2
     go_roundg (gk-1)
     case measure=>omega
     case rel =>
      refine⟨k+1,by omega,by go_num,zD (hbel.out.setCell (zQ _) _),zD ?_,Hn⟩
      rw[Hts.out];exact hseen.out.set_
   ·have Hf:=zD (Hbad.out (fun h=>c1 (Hsn.out.1 h).2.1))
    by_cases c3:x<0
    ·clear c1
     go_wp2
     go_ret
     exact⟨ybo Hf.out.symm,hbel.out⟩
    ·have c4:255<x:=by omega
     clear c1
     go_wp2
     go_ret
     exact⟨ybo Hf.out.symm,hbel.out⟩
  ·obtain rfl:k=ids.length:=by omega
   have Ht:=zD (yblw hok.out)
   go_wp2
   go_ret
   exact⟨ybo Ht.out.symm,hbel.out⟩
theorem ybww(g:Gr)(h1:1<=g.ids.length)(h2:g.ids.length<=24)(h3:g.ports.length=g.ids.length):yhz g=(ybet g.ids&&symB g.ports):=by
 unfold yhz ybet symB;rw[<-Bool.decide_and];congr 1;apply propext;unfold ybc ycex;constructor
 ·rintro⟨_,_,_,h4,h5,h6,h7⟩;exact⟨⟨h4,h5⟩,h6,h7⟩
 ·rintro⟨⟨h4,h5⟩,h6,h7⟩;exact⟨by omega,by omega,by omega,h4,h5,h6,h7⟩
set_option maxHeartbeats 1000000 in
theorem yrn(gv:Value)(g:Gr)(w:World)(hg:GrAt w gv g) :
 Calls zF 96 #[gv] w fun e w'=>e = .returned (.bool (yhz g))/\Below w.heap.size w w':=by
 obtain⟨i,p,rfl,hi,hp⟩:=hg;obtain⟨A,c,rfl,hA1,hA2⟩:=ycq hi;obtain⟨A2,c2,rfl,hB1,hB2⟩:=ycq hp;have Hi:=zD hi;have Hp:=zD hp
 clear hi hp
 by_cases n1:1<=g.ids.length
 ·by_cases n2:g.ids.length<=24
  ·by_cases n3:g.ports.length=g.ids.length
   ·have n3':((g.ports.length:Int)!=(g.ids.length:Int))=false:=by simp[n3]
    have He:=zD (ybww g n1 n2 n3);have n3a:g.ports.length<=24:=by omega
    clear n3
    go_enter zAC,zAJ
    go_wp2_with fail
    refine(yqb _ g.ids _ (Hi.out.below Stable.int ((Below.refl _ _).alloc (zQ _) _))).mono ?_;rintro e w1 ⟨rfl,hb1⟩;have Hb1:=zD (ybqx hb1);obtain⟨q0,q1⟩:=ydgw hb1
    clear hb1
    cases hd:ybet g.ids with
    | false =>
      have Hv:=zD (show yhz g=false by rw[He.out,hd];rfl)
      go_wp2_with fail
      go_ret
      exact⟨ybo Hv.out.symm,Hb1.out⟩
    | true =>
      have Hv:=zD (show yhz g=symB g.ports by rw[He.out,hd];rfl)
      go_wp2_with fail
      refine(ynd _ g.ports _ (Hp.out.below (Stable.sl Stable.link) Hb1.out) (by omega)).mono ?_
      rintro e w2 ⟨rfl,hb2⟩
      go_wp2_with fail
      go_ret
      exact⟨ybo Hv.out.symm,Hb1.out.trans (hb2.mono Hb1.out.size)⟩
   ·have n3':((g.ports.length:Int)!=(g.ids.length:Int))=true:=by simp;omega
    have Hf:=zD (yhq (g:=g) (fun h=>n3 h.2.2.symm))
    clear n3
    go_enter zAC,zAJ
    go_wp2
    go_ret
    exact⟨ybo Hf.out.symm,(Below.refl _ _).alloc (zQ _) _⟩
  ·have Hf:=zD (yhq (g:=g) (fun h=>n2 (by omega)))
   go_enter zAC,zAJ
   go_wp2
   go_ret
   exact⟨ybo Hf.out.symm,(Below.refl _ _).alloc (zQ _) _⟩
 ·have Hf:=zD (yhq (g:=g) (fun h=>n1 (by omega)))
  go_enter zAC,zAJ
  go_wp2
  go_ret
  exact⟨ybo Hf.out.symm,(Below.refl _ _).alloc (zQ _) _⟩
end
section
namespace Sh
open Go Ev Go.RowKit
theorem yhu{x:Int}(h:-4611686018427387904<=x/\x<=4611686018427387904):I64 x:=by
 unfold I64;omega
theorem ybmm{g:Gr}(hg:ybc g):GrI g:=by
 obtain⟨h1,h2,h3,h4,h5,h6,h7⟩:=hg;refine⟨fun x hx=>yhu (by have:=h4 x hx;omega),fun ls hls l hl=>?_⟩
 obtain⟨v,hv,rfl⟩:=zAA hls;obtain⟨a1,a2,a3,a4,a5⟩:=(h6 ⟨v,hv⟩).1 l hl;exact⟨yhu (by omega),yhu (by omega)⟩
theorem ynp{g:Gr}(hI:GrI g):Returns zF 96 [grV g] (.b (yhz g)):=by
 refine ybjg ⟨_,_,zAC,rfl⟩ (fun _=>.b) (fun _=>.simple rfl) fun G m us hG hr φ M w us' hR hs hv=>?_;obtain⟨u,rfl,h1⟩:=rvl1 hr;obtain⟨u',rfl,h2⟩:=yhs hv;exact yrn u' g w (ycyx hG h1 h2 hR hs hI)
end Sh
end
section
namespace Sh
open Go Ev Go.RowKit
theorem ybqd{g:Gr}(hg:ybc g){x:VarR}(hx:x.ok=true)(v:Nat):-4096<=(ybh g v x).1/\(ybh g v x).2<=100000:=by
 obtain⟨h1,h2,h3,h4,h5⟩:=ybeo hx;obtain⟨h6,h7⟩:=ynb hg hx;have h8:=hg.deg_lt (v:=v);unfold ybh;split
 ·exact⟨by simp only[];omega,by simp only[];omega⟩
 ·split
  ·exact⟨by simp only[];omega,by simp only[];omega⟩
  ·split
   ·exact⟨by simp only[];omega,by simp only[];omega⟩
   ·exact⟨by simp only[];omega,by simp only[];omega⟩
theorem ykd{p:ProgT}{g:Gr}(hg:ybc g)(hp:p.ok=true){c:Conf}(hc:yga p g c=true):ConfIn g.ports.length p.vars.length c:=by
 have h:=(yff _ _ _).1 hc;have hp':=hp;unfold ProgT.ok at hp';simp only[zK,decide_eq_true_eq]at hp';refine⟨h.1.trans hg.2.2.1,fun s hs=>?_⟩;obtain⟨v,hv,rfl⟩:=zAA hs;have h2:=h.2 v _ (zH hv);have hl:(c[v]).length=p.vars.length:=by have:=h2.1;simpa using this
 refine⟨hl,fun x hx=>?_⟩;obtain⟨i,hi,rfl⟩:=zAA hx;have hi':i<p.vars.length:=by omega
 have h3:=h2.2 i (ybh g v p.vars[i]) _ (by simp[hi']) (zH hi)
 have h4:=ybqd hg (List.all_eq_true.1 hp'.1.1.2 _ (zS hi')) v;unfold InB;omega
structure Checked(Q1 Q2:(Nat->Option ABlk)->Value->Prop)(p:ProgT)(g:Gr):Prop where
 hg:ybc g
 hp:p.ok=true
 hf:ytq p g=true
 hV:Returns zF 191 [.ag (ygo Q1 Q2 p.raw)] (.b true)
theorem Checked.gv{Q1 Q2:(Nat->Option ABlk)->Value->Prop}{p:ProgT}{g:Gr}(h:Checked Q1 Q2 p g):Returns zF 96 [grV g] (.b true):=by
 have e:=ynp (ybmm h.hg);rw[(ydw g).2 h.hg]at e;exact e
section
variable {Q1 Q2:(Nat->Option ABlk)->Value->Prop}{p:ProgT}{g:Gr}
theorem ybwj(h:Checked Q1 Q2 p g)(c:Conf):Returns zF 112 [.ag (ygo Q1 Q2 p.raw),grV g,ybl c] (.i .i64 (if yga p g c then 0 else 10)):=by
 refine Returns.of (ydea _ _ ?_);have hp':=h.hp;unfold ProgT.ok at hp';simp only[zK,decide_eq_true_eq]at hp';have hid:=h.hg.2.2.1;have h24:=h.hg.2.1;have hF:=ycbu p h.hg h.hp h.hf h.hV h.gv;have hT:=ybch p.raw h.hg hp'.1.1.2 hp'.1.1.1.2;have hW:=ybkl (n:=g.ids.length) p.vars (by omega) (ybh g) c (by omega)
 simp only[ygo,grV]at hF hT;simp only[c112,yctv,ycho,ygo,grV,go_sem,zA,zB,zG,↓reduceIte,reduceCtorEq];refine hF.use ?_;simp only[ybi,yctj,ycml,ycwl,go_sem,zA,zB,↓reduceIte,reduceCtorEq];refine⟨fun h=>absurd rfl h,hT.useS ?_ ?_⟩
 ·exact⟨yqy ⟨Sim.refl _,yso _ _,yso _ _,trivial⟩,Sim.refl _,trivial⟩
 simp only[yjd]at hW ⊢;simp only[go_sem,↓reduceIte];refine hW.use ?_;simp only[go_sem];have hcf:∀b,ynt g.ids.length (fun v=>p.vars.map (ybh g v)) c=b->yga p g c=b:=fun b h=>h;refine⟨fun h1=>?_,fun h1=>?_⟩
 ·simp only[yclw,hcf _ h1,ybb,go_sem,↓reduceIte]
 ·simp only[ycvj,hcf _ h1,ybb,go_sem,↓reduceIte]
theorem ybjs(k:Int):Returns zF 108 [.i .i64 k] (.b (decide (1<=k)&&decide (k<=4))):=by
 refine Returns.of (ydad _ _ ?_);simp only[c108,ycpp,yctq,yjn,go_sem,zA,zB,↓reduceIte,reduceCtorEq]
 by_cases h:k>=1<;>simp[h]
end
end Sh
end
section
theorem yml(s a:Nat):∀b,yge s (a+b)=yge s a+yge (s>>>a) b
 |0=>rfl
 | b+1=>by
   show yge s (a+b)+(s.testBit (a+b)).toNat=_;rw[yml s a b];show _=yge s a+(yge (s>>>a) b+((s>>>a).testBit b).toNat);rw[Nat.testBit_shiftRight];omega
theorem ynz(s:Nat):∀b,b<=8->yge (s&&&255) b=yge s b
 |0,_=>rfl
 | b+1,h=>by
   show yge _ b+_=yge s b+_;rw[ynz s b (by omega),Nat.testBit_and,show(255:Nat)=2^8-1 from rfl,zAD]
   simp[show b<8 by omega]
theorem ybjt(s:Nat):popP s=yge (s>>>24&&&255) 8+yge (s>>>16&&&255) 8+yge (s>>>8&&&255) 8+yge (s&&&255) 8:=by
 simp only[ynz _ 8 (zQ _)];have h1:=yml s 8 24;have h2:=yml (s>>>8) 8 16;have h3:=yml (s>>>8>>>8) 8 8;simp only[<-Nat.shiftRight_add,zB]at h1 h2 h3;unfold popP;omega
namespace Sh
open Ev Go.RowKit
theorem yww:∀k,k<256->yut.getD k 0=yge k 8:=by decide
theorem ydbb:yut.length=256:=by decide
theorem ydbc(a v:Nat):(a:Int).fdiv (2^v)=((a>>>v:Nat):Int):=by
 have h:=ybzd (a:=a) (v:=v)
 rwa [zO]at h
theorem ycgw{a:Nat}(ha:a<2^32):IntKind.wrap .u32 (((zL (IntKind.bits .u32) (a:Int))&&&zL (IntKind.bits .u32) 255).toNat:Int)=((a&&&255:Nat):Int):=u32_and (b:=255) ha (by decide)
theorem ydly{a n:Nat}(h:a<2^32):a>>>n<2^32:=by rw[zAI];exact zAQ (Nat.div_le_self _ _) h
theorem ycdm{s:Nat}(hs:s<2^32):Returns zF 104 [.i .u32 s] (.i .i64 (popP s)):=by
 refine Returns.of (ydel _ _ ?_);simp only[c104,yckp,ycmu,clash,go_sem,Int.reduceToNat,zA,zB,↓reduceIte,reduceCtorEq];have f1:=ycgw hs;have f2:=fun n=>ycgw (ydly (n:=n) hs);simp only[IntKind.bits]at f1 f2;simp only[ydbc,f1,f2,zO,ydbb];have hp:=ybjt s;have l1:s>>>24<256:=by rw[zAI];omega
 have b1:∀x:Nat,x&&&255<256:=fun x=>zAQ Nat.and_le_right (by omega)
 rw[ynz (s>>>24) 8 (zQ _)]at hp;rw[yww _ l1,yww _ (b1 (s>>>16)),yww _ (b1 (s>>>8)),yww _ (b1 s)];have q1:=ykg (s>>>24) 8;have q2:=ykg (s>>>16&&&255) 8;have q3:=ykg (s>>>8&&&255) 8;have q4:=ykg (s&&&255) 8;have w1:=b1 (s>>>16);have w2:=b1 (s>>>8);have w3:=b1 s;have u8k:∀x:Int,0<=x->x<=255->inK .u8 x:=fun x h1 h2=>⟨by simpa[IntKind.min,IntKind.signed]using h1,by simpa[IntKind.max,IntKind.bits,IntKind.signed]using h2⟩
 refine⟨⟨by omega,by decide⟩,⟨by omega,by omega⟩,⟨by omega,by decide⟩,by omega,u8k _ (by omega) (by omega),⟨by omega,by decide⟩,by omega,u8k _ (by omega) (by omega),by omega,u8k _ (by omega) (by omega),?_⟩
 rw[wrap_in (ikw (by omega) (by omega)),hp]
 exact Sim.refl _
def cntV(k:Cnt):List SV:=[.i .i64 k.steps,.i .i64 k.moves,.i .i64 k.rounds,.i .i64 k.begun,.i .u32 k.pend]
theorem ybtf{e:Nat}(he:e<2^24):Returns zF 195 [.i .u32 e] (.ag (cntV (ydx e))):=by
 refine Returns.of (ydbf _ _ ?_);simp only[c195,ycjh,ychm,go_sem,zA,zB,zG,↓reduceIte,reduceCtorEq];have e1:e&&&16777215=e:=by rw[show(16777215:Nat)=2^24-1 from rfl,zN he]
 have e2:IntKind.wrap .u32 (((zL (IntKind.bits .u32) (e:Int))&&&zL (IntKind.bits .u32) 16777215).toNat:Int)=((e&&&16777215:Nat):Int):=u32_and (b:=16777215) (by omega) (by decide)
 simp only[IntKind.bits]at e2;rw[e2,e1];exact Sim.refl _
def usV(l:List Nat):SV:=.sl 1 l.length (fun k=>[.i .u32 ((l.getD k 0:Nat):Int)])
theorem ydpz{a:Nat}(ha:a<2^24):IntKind.wrap .u32 (((zL (IntKind.bits .u32) (a:Int)) &&& ~~~zL (IntKind.bits .u32) 16777215).toNat:Int)=0:=by
 have h:=u32_andNot (a:=a) (b:=16777215) (by omega) (by decide)
 have e:difB a 16777215=0:=by
  rw[yel];intro i;rw[ymk,show(16777215:Nat)=2^24-1 from rfl,zAD]
  by_cases hi:i<24
  ·simp[hi]
  ·rw[zAL (zAE ha (zU (by omega) (by omega)))]
   rfl
 rw[e]at h;exact h
theorem ypo(l:List Nat)(hl:l.length<=10)(h:∀k,k<l.length->l.getD k 0<2^24):Returns zF 223 [usV l] (.b true):=by
 refine Returns.of (ydcy _ _ ?_);simp only[c223,ycqc,ycnk,usV,go_sem,zB,↓reduceIte,reduceCtorEq];refine ybj (σ:=Nat) (fun k=>⟨[(7,.i .i64 k),(6,.i .i64 l.length),(5,usV l)],[]⟩) (fun k=>k<=l.length) (fun k=>l.length-k) 0 (zAB _) ?_ ?_
 ·refine yj [] [] [] ?_;simp only[usV,allQ,live,yg,zJ,go_sem,zA,↓reduceIte,reduceCtorEq]
 ·intro k hk;simp only[ycop,ycoa,ycpe,ychq,usV,go_sem,zA,zB,↓reduceIte,reduceCtorEq];refine⟨fun hlt=>?_,fun hlt=>?_⟩
  ·have hk':k<l.length:=by omega
   have e0:=ydpz (h k hk');simp only[IntKind.bits]at e0;rw[e0];refine⟨⟨by omega,by omega⟩,fun h=>absurd rfl h,fun _=>?_⟩
   simp only[ycxa,go_sem,zA,zB,↓reduceIte,reduceCtorEq];refine⟨ikw (by omega) (by omega),?_⟩
   refine yw (k+1) (by omega) (by omega) ?_
   refine yj [] [] [] ?_;simp only[allQ,live,yg,ybb,go_sem,zA,↓reduceIte,reduceCtorEq];omega
  ·simp only[ycwo,yjn,go_sem,↓reduceIte]
theorem ybkk{k:Cnt}(hk : k.ok)(hs:k.steps<=4096):Returns zF 222 [.ag (cntV k)] (.b true):=by
 refine Returns.of (ydab _ _ ?_);obtain⟨h1,h2,h3,h4,h5,h6⟩:=hk
 have hP:=ypo [k.pend] (by simp) (fun i hi=>by have:i=0:=by simp at hi;omega
                                               subst this;exact h6)
 have f1:decide ((k.steps:Int)<0)=false:=by simp
 have f2:decide ((k.steps:Int)>4096)=false:=by simp;omega
 have f3:decide ((k.rounds:Int)<0)=false:=by simp
 have f4:decide ((k.rounds:Int)>k.begun)=false:=by simp;omega
 have f5:decide ((k.begun:Int)>k.steps)=false:=by simp;omega
 have f6:decide ((k.begun:Int)>k.rounds+1)=false:=by simp;omega
 have f7:decide ((k.steps:Int)<=k.moves)=true:=by simp;omega
 have f8:decide ((k.moves:Int)<=24*k.steps)=true:=by simp;omega
 simp(maxSteps:=5000000) only [c222,ychf,ycsz,cntV,f1,f2,f3,f4,f5,go_sem,zA,zB,zC,zG,↓reduceIte,reduceCtorEq];simp only[ycny,f6,go_sem,zA,zB,zC,↓reduceIte,reduceCtorEq];refine⟨ikw (by omega) (by omega),?_⟩
 simp(maxSteps:=5000000) only [yclg,f7,f8,go_sem,zA,zB,zC,zG,↓reduceIte,reduceCtorEq];refine⟨ikw (by omega) (by omega),?_⟩
 refine .inl ⟨fun q hq=>?_,hP.useS ?_ ?_⟩
 ·obtain rfl:q=0:=by omega
  simp only[go_sem]
 ·exact⟨yjk fun q hq=>by obtain rfl:q=0:=by omega
                         rfl,trivial⟩
 simp only[ybi,yjn,go_sem,zA,zB,↓reduceIte,reduceCtorEq]
theorem yddh{k:Cnt}(hk:k.ok)(hs:k.steps<4096){s e:Nat}(h0:s≠0)(hs24:s<2^24)(he:e<2^24):Returns zF 197 [.ag (cntV k),.i .u32 s,.i .u32 e] (.tp [.ag (cntV (addP k s e)),.i .i64 0]):=by
 refine Returns.of (ydcj _ _ ?_);have hV:=ybkk hk (by omega)
 have hO:=ycdm (s:=s) (by omega)
 have hP:=ypo [s,e] (by simp) (fun i hi=>by
  have:i=0\/i=1:=by simp at hi;omega
  rcases this with rfl|rfl
  ·exact hs24
  ·exact he)
 obtain⟨h1,h2,h3,h4,h5,h6⟩:=hk;simp only[cntV]at hV;simp only[c197,ycwh,ycwu,cntV,go_sem,zA,zB,zG,↓reduceIte];refine hV.use ?_;have z0:((s:Int)==0)=false:=by simp;omega
 simp only[ybi,yckw,z0,go_sem,zA,zB,zC,zG,↓reduceIte,reduceCtorEq];refine .inl ⟨fun q hq=>?_,hP.useS ?_ ?_⟩
 ·have:q=0\/q=1:=by omega
  rcases this with rfl|rfl
  ·simp only[go_sem]
  ·simp only[go_sem]
 ·exact⟨yjk fun q hq=>by
   have:q=0\/q=1:=by omega
   rcases this with rfl|rfl<;>rfl,trivial⟩
 have z1:((k.steps:Int)==4096)=false:=by simp;omega
 simp only[ycht,ycik,z1,go_sem,zA,zB,zC,↓reduceIte,reduceCtorEq];refine⟨ikw (by omega) (by omega),?_⟩
 simp only[ycnt,clash,go_sem,zA,zB,zC,↓reduceIte,reduceCtorEq];refine hO.use ?_;have hpop:=yboo s hs24;have a1:=u32_andNot (a:=k.pend) (b:=s) (by omega) (by omega)
 have hd:difB k.pend s<2^24:=ybds h6;have a2:=u32_and (a:=difB k.pend s) (b:=e) (by omega) (by omega)
 obtain⟨P,hPe⟩:∃P,difB k.pend s&&&e=P:=⟨_,rfl⟩;rw[hPe]at a2;simp only[IntKind.bits]at a1 a2;simp only[ybi,go_sem,zA,zB,zC,↓reduceIte,reduceCtorEq];refine⟨ikw (by omega) (by omega),?_⟩
 simp only[ycor,ybwz,ybws,a1,a2,go_sem,zA,zB,zC,↓reduceIte,reduceCtorEq];refine⟨by decide,ikw (by omega) (by omega),fun hP0=>?_,fun hP0=>?_⟩
 ·have hP1:P=0:=by omega
  have ea:addP k s e=⟨k.steps+1,k.moves+popP s,k.rounds+1,k.rounds+1,e⟩:=by unfold addP;simp only[hPe,hP1,if_true]
  rw[ea];simp only[ybxd,ybry,ybdl,go_sem,zA,zB,zC,↓reduceIte,reduceCtorEq];exact Sim.refl _
 ·have hP1:¬P=0:=by omega
  have ea:addP k s e=⟨k.steps+1,k.moves+popP s,k.rounds,k.rounds+1,P⟩:=by unfold addP;simp only[hPe,if_neg hP1]
  rw[ea];simp only[ybdl,go_sem,zA,zB,↓reduceIte];exact Sim.refl _
end Sh
end
section
def netP(ls:List (Int×Int)):Nat:=ls.foldl (fun a l=>a|||2^l.1.toNat) 0
theorem ybya(ls:List (Int×Int))(k:Nat)(h:k<ls.length):netP (ls.take (k+1))=netP (ls.take k)|||2^(ls.getD k (0,0)).1.toNat:=by
 unfold netP;rw[List.take_succ_eq_append_getElem h,List.foldl_append,Sh.getD_at h];rfl
theorem ydaq(ls:List (Int×Int))(h:∀l∈ls,l.1<24):netP ls<2^24:=by
 unfold netP
 have:∀(ls:List (Int×Int)) (a:Nat),(∀l∈ls,l.1<24)->a<2^24->ls.foldl (fun a l=>a|||2^l.1.toNat) a<2^24:=by
  intro ls
  induction ls with
  |nil=>intro a _ h;exact h
  | cons l ls ih =>
    intro a hl ha;refine ih _ (fun x hx=>hl x (zAO _ hx)) (Nat.or_lt_two_pow ha ?_);have:=hl l zAR;exact zZ (by omega) (by omega)
 exact this ls 0 h (by decide)
namespace Sh
open Ev Go.RowKit
theorem u32k{a:Nat}(h:a<2^32):inK .u32 (a:Int):=⟨by simp[IntKind.min,IntKind.signed],by simp[IntKind.max,IntKind.bits,IntKind.signed];omega⟩
theorem ycye{g:Gr}(hg:ybc g):Returns zF 109 [grV g] (.i .u32 (2^g.ids.length-1:Nat)):=by
 refine Returns.of (ycyg _ _ ?_);have h3:=hg.2.2.1;have h4:=hg.2.1;simp only[c109,ycpb,ycsj,grV,yx,go_sem,zA,zB,zC,zG,↓reduceIte,reduceCtorEq];have h5:=ywb (v:=g.ids.length) (by omega)
 rw[zO]at h5;have h6:2^g.ids.length<2^32:=zZ (by omega) (by omega)
 have h7:1<=2^g.ids.length:=Nat.one_le_two_pow;have h8:(((2^g.ids.length:Nat):Int))-1=((2^g.ids.length-1:Nat):Int):=by omega
 rw[h5,h8];refine⟨⟨by omega,by show _<((32:Nat):Int);omega⟩,u32k (by omega),Sim.refl _⟩
theorem ybmz{g:Gr}(hg:ybc g):Returns zF 110 [grV g] (usV (g.ports.map netP)):=by
 refine Returns.of (ydah _ _ ?_);have h3:=hg.2.2.1;have h4:=hg.2.1;simp only[c110,ycqj,ycjl,ycrt,grV,yx,ybe,go_sem,zA,zB,zG,↓reduceIte,reduceCtorEq];refine⟨by omega,?_⟩
 obtain⟨n,hn⟩:∃n,g.ports.length=n:=⟨_,rfl⟩
 let val:Nat->Nat->Nat:=fun k i=>if i<k then netP (g.ports.getD i [])else 0
 refine ybj (σ:=Nat) (fun k=>⟨[(15,.i .i64 k),(14,.i .i64 n),(13,ybe g.ports),(3,.os (11,0) 0 n true)],
  [(11,.one (some ⟨40,false,1,n,fun i=>[.i .u32 (val k i:Nat)]⟩))]⟩) (fun k=>k<=n) (fun k=>n-k) 0 (zAB _) ?_ ?_
 ·refine yj [] [] [] ?_;simp only[ybe,hn,allQ,live,yg,ybb,zJ,go_sem,zA,↓reduceIte,reduceCtorEq];simp[val]
 ·intro k hk;obtain⟨L,hL⟩:∃L,g.ports.getD k []=L:=⟨_,rfl⟩;simp only[ycvn,ycri,ycga,ybe,ybd,hn,hL,go_sem,zA,zB,↓reduceIte,reduceCtorEq];refine⟨fun hlt=>?_,fun hlt=>?_⟩
  ·have hk':k<n:=by omega
   have hkp:k<g.ports.length:=by omega
   have hlk:∀l∈L,0<=l.1/\l.1<24:=fun l hl=>by
    rw[<-hL,getD_at hkp]at hl;obtain⟨a1,a2,_⟩:=(hg.2.2.2.2.2.1 ⟨k,hkp⟩).1 l hl;exact⟨a1,by omega⟩
   have hdeg:=hg.deg_lt (v:=k);rw[hL]at hdeg;refine⟨by omega,?_⟩
   obtain⟨m,hm⟩:∃m,L.length=m:=⟨_,rfl⟩;rw[hm]
   let val2:Nat->Nat->Nat:=fun j i=>if i<k then netP (g.ports.getD i [])else if i=k then netP (L.take j)else 0
   refine ybj (σ:=Nat) (fun j=>⟨[(22,.i .i64 j),(21,.i .i64 m),(20,ybd L),(4,.i .i64 k),(15,.i .i64 k),(14,.i .i64 n),(13,ybe g.ports),(3,.os (11,0) 0 n true)],
    [(11,.one (some ⟨40,false,1,n,fun i=>[.i .u32 (val2 j i:Nat)]⟩))]⟩) (fun j=>j<=m) (fun j=>m-j) 0 (zAB _) ?_ ?_
   ·refine yj [] [] [] ?_;simp only[ybe,ybd,hn,hm,allQ,live,yg,ybb,zJ,go_sem,zA,↓reduceIte,reduceCtorEq];intro i hi;simp only[val,val2]
    by_cases q:i<k
    ·rw[if_pos q,if_pos q]
    ·rw[if_neg q,if_neg q]
     by_cases q2:i=k
     ·rw[if_pos q2];rfl
     ·rw[if_neg q2]
   ·intro j hj;obtain⟨l,hl⟩:∃l,L.getD j (0,0)=l:=⟨_,rfl⟩;simp only[ycuu,ycjf,ybe,ybd,hn,hm,hl,go_sem,zA,zB,zG,↓reduceIte,reduceCtorEq];refine⟨fun hlj=>⟨by omega,?_⟩,fun hlj=>?_⟩
    ·have hj':j<L.length:=by omega
     have hl2:=hlk l (by rw[<-hl,getD_at hj'];exact zS _)
     obtain⟨t,ht⟩:∃t:Nat,l.1=t:=⟨l.1.toNat,by omega⟩
     have h24t:t<24:=by omega
     have hval:val2 j k<2^24:=by
      simp only[val2,if_neg (zAX k),if_true];exact ydaq _ fun l hl=>(hlk l (zAN hl)).2
     have hp:2^t<2^24:=zZ (by omega) h24t
     have hsh:=ywb (v:=t) (by omega)
     have hor:=u32_or (a:=val2 j k) (b:=2^t) (by omega) (by omega)
     rw[zO]at hsh;simp only[IntKind.bits]at hor;simp only[ycsu,ht,clash,hsh,hor,go_sem,zA,zB,zC,↓reduceIte,reduceCtorEq];refine⟨by omega,by omega,⟨by omega,by show _<((32:Nat):Int);omega⟩,by omega,by omega,by decide,?_⟩
     simp only[ycww,go_sem,zA,zB,↓reduceIte,reduceCtorEq];refine⟨ikw (by omega) (by omega),?_⟩
     refine yw (j+1) (by omega) (by omega) ?_
     refine yj [] [] [] ?_;simp only[allQ,live,yg,ybb,go_sem,zA,↓reduceIte,reduceCtorEq];refine⟨by omega,fun i hi=>?_⟩
     have hsn:=ybya L j hj';rw[hl,ht,zO]at hsn
     by_cases q:i=k
     ·simp only[if_pos q];subst q;simp only[go_sem,live,ybb,go_sem,reduceCtorEq];simp only[val2,if_neg (zAX i),if_true,hsn]
     ·simp only[if_neg q];simp only[go_sem,live,ybb,go_sem,reduceCtorEq];simp only[val2,if_neg q]
    ·obtain rfl:j=m:=by omega
     simp only[ybxt,go_sem,zA,zB,↓reduceIte,reduceCtorEq];refine⟨ikw (by omega) (by omega),?_⟩
     refine yw (k+1) (by omega) (by omega) ?_
     refine yj [] [] [] ?_;simp only[allQ,live,yg,ybb,go_sem,zA,↓reduceIte,reduceCtorEq];refine⟨by omega,fun i hi=>?_⟩
     simp only[val,val2]
     by_cases q:i<k
     ·rw[if_pos q,if_pos (by omega)]
     ·rw[if_neg q]
      by_cases q2:i=k
      ·rw[if_pos q2,if_pos (by omega),q2,hL,<-hm,zAV]
      ·rw[if_neg q2,if_neg (by omega)]
  ·obtain rfl:k=n:=by omega
   simp only[yboq,go_sem,zA,zB,↓reduceIte,reduceCtorEq];unfold usV;rw[zAW,hn];refine yjk fun i hi=>?_;have hi':i<g.ports.length:=by omega
   simp only[val,if_pos hi];simp[zAF,hi']
theorem yyu(net:SV){e:Nat}(he:e<2^24)(h0:e≠0):Returns zF 196 [net,.i .i64 4,.i .u32 e,.i .u32 e] (.b true):=by
 refine Returns.of (ydap _ _ ?_);have z0:((e:Int)==0)=false:=by simp;omega
 have hd:difB e e=0:=by unfold difB;simp
 have a0:=u32_andNot (a:=e) (b:=e) (by omega) (by omega)
 rw[hd]at a0;simp only[zJ,IntKind.bits]at a0;simp only[c196,ycvs,ycnb,z0,a0,zAY,go_sem,zA,zB,↓reduceIte,reduceCtorEq];simp only[ycgi,yckh,ycnm,ycmp,ychp,ybzt,zAG,yjn,go_sem,zA,zB,↓reduceIte,reduceCtorEq]
theorem yzb(net:SV)(hn:net.cells.all one1=true){e w:Nat}(he:e<2^24)(h0:e≠0)(hw:w<2^32):Returns zF 111 [net,.i .i64 4,.i .u32 e,.i .u32 w] (.i .u32 e):=by
 refine Returns.of (ybqq _ _ ?_);have a0:=u32_and (a:=w) (b:=e) (by omega) (by omega)
 have a1:=u32_neg (a:=e) (by omega) (by omega)
 have a2:=u32_and (a:=e) (b:=2^32-e) (by omega) (by omega)
 obtain⟨W,hW⟩:∃W,w&&&e=W:=⟨_,rfl⟩;rw[hW]at a0;simp only[IntKind.bits]at a0 a2;simp only[c111,ybxm,ybwp,ybxv,a0,hn,go_sem,zA,zB,zG,↓reduceIte,reduceCtorEq];refine⟨fun q=>?_,fun q=>?_⟩
 ·simp only[ybsd,ybhx,ybgr,ybhp,yxh,yxd,IntKind.signed,a1,a2,zAG,go_sem,zA,zB,↓reduceIte,reduceCtorEq];exact Sim.refl _
 ·simp only[ybhx,ybgr,ybhp,yxh,yxd,zAG,go_sem,zA,zB,↓reduceIte,reduceCtorEq];exact Sim.refl _
end Sh
end
section
namespace Sh
open Go Ev
def ydgs:LO:=[o3 (.mv (ci' 0)) 4 0]
def ydhb:LO:=[mv' 1 5 0,o3 (.bin .lss (.tmp 5) (ci' 1)) 6 1]
def ydlz:LO:=[o3 (.mv (ci' 0)) 4 0]
def ydjl:LO:=[mv' 0 7 0,mv' 1 8 0,bn' .rem 7 8 9 3,mv' 9 0 7]
def ydno:LO:=[mv' 0 10 0,o3 (.bin .lss (.tmp 10) (ci' 0)) 11 1]
def ydjk:LO:=[mv' 0 12 0,mv' 1 13 0,bn' .add 12 13 14 3,mv' 14 0 7]
def ydmy:LO:=[mv' 0 15 0,mv' 15 4 1]
def c39:SC:=(.seq (.reg false ydgs) (.seq (.seq (.reg false ydhb) (.cond (.tmp 6) (.seq (.reg false ydlz) .ret) .skip)) (.seq (.reg false ydjl) (.seq (.seq (.reg false ydno) (.cond (.tmp 11) (.reg false ydjk) .skip)) (.seq (.reg false ydmy) .ret)))))
theorem ydjz:Fn 39 c39 [.t 4]:=fn_0 Tryz.func39 (by kernel_rfl) (by kernel_rfl)
def ydna:LO:=[o3 (.mv (ci' 0)) 4 0]
def ydjw:LO:=[mv' 1 5 0,mv' 0 6 0,ln' 6 7 2,bn' .lss 5 7 8 7]
def ydjt:LO:=[mv' 0 9 0,mv' 1 10 0,ix' 1 9 10 11 3,ld' false 1 11 12 7,mv' 12 4 15]
def ydhs:LO:=[o3 (.mv (ci' 0)) 4 0]
def c77:SC:=(.seq (.reg false ydna) (.seq (.seq (.reg false ydjw) (.cond (.tmp 8) (.seq (.reg false ydjt) .ret) .skip)) (.seq (.reg false ydhs) .ret)))
theorem ydfh:Fn 77 c77 [.t 4]:=fn_0 Tryz.func77 (by kernel_rfl) (by kernel_rfl)
def ycou:LO:=[o3 (.box 27 (.tmp 0)) 3 0,o3 (.mv (.const (.bool false))) 6 0]
def ycpj:LO:=[o3 (.mv (ci' 0)) 7 0]
def ycta:LO:=[mv' 7 8 0,fa' 1 1 3 9 0,ld' false 1 9 10 2,mv' 1 11 0,ix' 1 10 11 12 14,ld' false 1 12 13 30,ln' 13 14 62,bn' .lss 8 14 15 127]
def yctb:LO:=[fa' 1 1 3 18 0,ld' false 1 18 19 1,mv' 1 20 0,ix' 1 19 20 21 7,ld' false 1 21 22 15,mv' 7 23 0,ix' 2 22 23 24 63,fa' 0 1 24 25 127,ld' false 1 25 26 255,mv' 2 27 0,bn' .eql 26 27 28 1023]
def ycpf:LO:=[o3 (.mv (.const (.bool true))) 6 0]
def ycqt:LO:=[mv' 7 16 0,o3 (.bin .add (.tmp 16) (ci' 1)) 17 1,mv' 17 7 3]
def ycrw:LO:=[o3 (.mv (.const (.bool false))) 6 0]
def c128:SC:=(.seq (.reg false ycou) (.seq (.seq (.reg false ycpj) (.block 0 (.loop (.seq (.seq (.reg false ycta) (.cond (.tmp 15) .skip (.exit 0))) (.seq (.block 1 (.seq (.reg false yctb) (.cond (.tmp 28) (.seq (.reg false ycpf) .ret) .skip))) (.reg false ycqt)))))) (.seq (.reg false ycrw) .ret)))
theorem ycyo:Fn 128 c128 [.t 6]:=fn_0 Tryz.func128 (by kernel_rfl) (by kernel_rfl)
def yddy:LO:=[o3 (.box 24 (.tmp 0)) 5 0,o3 (.box 27 (.tmp 1)) 6 0]
def ydaw:LO:=[mv' 2 12 0,mv' 3 13 0,bn' .eql 12 13 14 3,mv' 14 15 7,⟨.load true 2 (.tmp 6),some 16,some (15,false),15⟩,⟨.mv (.tmp 2),some 17,some (15,false),15⟩,⟨.mv (.tmp 3),some 18,some (15,false),15⟩,⟨.call (.func 128) [(.tmp 16),(.tmp 17),(.tmp 18)],some 19,some (15,false),127⟩,o3 (.pick (.tmp 15) (.const (.bool true)) (.tmp 19)) 20 255]
def ybnb:LO:=[mv' 3 21 0,mv' 4 22 0,o3 (.build [.i .i64 0,.i .i64 0] [(0,1,(.tmp 21)),(1,1,(.tmp 22))]) 23 3,mv' 2 24 0,mv' 4 25 0,o3 (.build [.i .i64 0,.i .i64 0] [(0,1,(.tmp 24)),(1,1,(.tmp 25))]) 26 24,o3 (.alloc 95 1 [.i .i64 0,.i .i64 0]) 10 0,o3 (.alloc 95 1 [.i .i64 0,.i .i64 0]) 11 0,o0 (.store 2 (.tmp 10) (.tmp 23)) 199,o0 (.store 2 (.tmp 11) (.tmp 26)) 511]
def ybld:LO:=[fa' 5 1 5 27 0,ld' false 1 27 28 1]
def ybqb:LO:=[fa' 1 1 6 29 0,ld' false 1 29 30 1,mv' 2 31 0,ld' true 2 10 32 0,o3 (.bslice 95 2 1 [.i .i64 0,.i .i64 0] [(0,2,(.tmp 32))]) 33 8,fa' 1 1 6 34 0,ld' false 1 34 35 32,mv' 2 36 0,ix' 1 35 36 37 224,ld' false 1 37 38 480,o3 (.app 95 2 16 (.tmp 33) (.tmp 38)) 39 1016,ix' 1 30 31 40 2047,o0 (.store 1 (.tmp 40) (.tmp 39)) 4095]
def ybxl:LO:=[fa' 1 1 6 41 0,ld' false 1 41 42 1,mv' 3 43 0,ld' true 2 11 44 0,o3 (.bslice 95 2 1 [.i .i64 0,.i .i64 0] [(0,2,(.tmp 44))]) 45 8,fa' 1 1 6 46 0,ld' false 1 46 47 32,mv' 3 48 0,ix' 1 47 48 49 224,ld' false 1 49 50 480,o3 (.app 95 2 16 (.tmp 45) (.tmp 50)) 51 1016,ix' 1 42 43 52 2047,o0 (.store 1 (.tmp 52) (.tmp 51)) 4095]
def ydiy:LO:=[fa' 1 1 6 53 0,ld' false 1 53 54 1,mv' 2 55 0,fa' 1 1 6 56 0,ld' false 1 56 57 8,mv' 3 58 0,fa' 1 1 6 59 0,ld' false 1 59 60 64,mv' 2 61 0,ix' 1 60 61 62 448,ld' false 1 62 63 960,ld' true 2 10 64 0,o3 (.bslice 95 2 1 [.i .i64 0,.i .i64 0] [(0,2,(.tmp 64))]) 65 2048,o3 (.app 95 2 16 (.tmp 63) (.tmp 65)) 66 8128,fa' 1 1 6 67 0,ld' false 1 67 68 16384,mv' 3 69 0,ix' 1 68 69 70 114688,ld' false 1 70 71 245760,ld' true 2 11 72 0,o3 (.bslice 95 2 1 [.i .i64 0,.i .i64 0] [(0,2,(.tmp 72))]) 73 524288,o3 (.app 95 2 16 (.tmp 71) (.tmp 73)) 74 2097088,ix' 1 54 55 75 4194247,o0 (.store 1 (.tmp 75) (.tmp 66)) 8388551,ix' 1 57 58 76 16777215,o0 (.store 1 (.tmp 76) (.tmp 74)) 33554431]
def c76:SC:=(.seq (.reg false yddy) (.seq (.seq (.reg false ydaw) (.cond (.tmp 20) .ret .skip)) (.seq (.reg false ybnb) (.seq (.seq (.reg false ybld) (.cond (.tmp 28) (.seq (.reg true ybqb) (.seq (.reg true ybxl) .ret)) .skip)) (.reg true ydiy)))))
theorem yczr:FnM 76 c76 []:=fn_m Tryz.func76 (by kernel_rfl) (by kernel_rfl)
def ydfw:LO:=[o3 (.box 24 (.tmp 0)) 2 0,o3 (.alloc 27 1 [.a (.slice none 0 0),.a (.slice none 0 0)]) 4 0]
def ydfd:LO:=[fa' 0 1 2 10 0,ld' false 1 10 11 1,o3 (.wsub (.tmp 11) (ci' 1)) 12 3,mv' 1 13 0,cl' 39 [12,13] 14 15,o3 (.bin .add (ci' 1) (.tmp 14)) 15 31,mv' 15 5 63]
def ydfs:LO:=[mv' 5 16 0,o3 (.mk 71 1 24 [.a (.slice none 0 0)] (.tmp 16) (.tmp 16)) 17 1,o3 (.build [.a (.slice none 0 0),.a (.slice none 0 0)] [(1,1,(.tmp 17))]) 18 3,o3 (.alloc 27 1 [.a (.slice none 0 0),.a (.slice none 0 0)]) 6 0,o0 (.store 2 (.tmp 6) (.tmp 18)) 15]
def ydft:LO:=[o3 (.mv (ci' 0)) 7 0]
def ydfl:LO:=[mv' 7 19 0,mv' 5 20 0,bn' .lss 19 20 21 3]
def ydnh:LO:=[fa' 3 1 2 24 0,ld' false 1 24 25 1,mv' 7 26 0,cl' 77 [25,26] 27 7,o3 (.call (.func 39) [(.tmp 27),(ci' 256)]) 28 15,mv' 28 8 31]
def ydge:LO:=[o3 (.mv (ci' 0)) 9 0]
def ydja:LO:=[mv' 9 29 0,mv' 7 30 0,bn' .lss 29 30 31 3]
def ycwz:LO:=[fa' 0 1 6 34 0,ld' false 1 34 35 1,mv' 9 36 0,ix' 1 35 36 37 7,ld' false 1 37 38 15,mv' 8 39 0,bn' .eql 38 39 40 63]
def ycoe:LO:=[mv' 8 41 0,o3 (.bin .add (.tmp 41) (ci' 1)) 42 1,o3 (.bin .rem (.tmp 42) (ci' 256)) 43 3,mv' 43 8 7,o3 (.mv (.const (.int .i64 (-1)))) 9 15]
def ydfx:LO:=[mv' 9 32 0,o3 (.bin .add (.tmp 32) (ci' 1)) 33 1,mv' 33 9 3]
def ycgb:LO:=[fa' 0 1 6 44 0,ld' false 1 44 45 1,mv' 8 46 0,o3 (.bslice 3 1 1 [.i .i64 0] [(0,1,(.tmp 46))]) 47 4,o3 (.app 3 1 8 (.tmp 45) (.tmp 47)) 48 15,fa' 0 1 6 49 31,o0 (.store 1 (.tmp 49) (.tmp 48)) 63]
def ydgi:LO:=[mv' 7 22 0,o3 (.bin .add (.tmp 22) (ci' 1)) 23 1,mv' 23 7 3]
def yciu:LO:=[ld' true 2 6 50 0,o0 (.store 2 (.tmp 4) (.tmp 50)) 1]
def c75:SC:=(.seq (.reg false ydfw) (.seq (.reg false ydfd) (.seq (.reg false ydfs) (.seq (.seq (.reg false ydft) (.block 0 (.loop (.seq (.seq (.reg false ydfl) (.cond (.tmp 21) .skip (.exit 0))) (.seq (.block 1 (.seq (.reg false ydnh) (.seq (.seq (.reg false ydge) (.block 2 (.loop (.seq (.seq (.reg false ydja) (.cond (.tmp 31) .skip (.exit 2))) (.seq (.block 3 (.seq (.reg false ycwz) (.cond (.tmp 40) (.reg false ycoe) .skip))) (.reg false ydfx)))))) (.reg false ycgb)))) (.reg false ydgi)))))) (.seq (.reg false yciu) .ret)))))
theorem ydef:FnM 75 c75 [.c 4 true 2]:=fn_m Tryz.func75 (by kernel_rfl) (by kernel_rfl)
def ydkd:LO:=[o3 (.box 24 (.tmp 0)) 2 0,o3 (.alloc 27 1 [.a (.slice none 0 0),.a (.slice none 0 0)]) 4 0]
def ydeo:LO:=[ld' true 6 2 7 0,mv' 1 8 0,cl' 75 [7,8] 9 3,o3 (.alloc 27 1 [.a (.slice none 0 0),.a (.slice none 0 0)]) 5 0,o0 (.store 2 (.tmp 5) (.tmp 9)) 15]
def ydes:LO:=[o3 (.mv (ci' 1)) 6 0]
def yczk:LO:=[mv' 6 10 0,fa' 1 1 5 11 0,ld' false 1 11 12 2,ln' 12 13 6,bn' .lss 10 13 14 15]
def ydfc:LO:=[ld' true 6 2 17 0,ld' true 2 5 18 0,fa' 1 1 2 19 0,ld' false 1 19 20 4,mv' 6 21 0,o3 (.bin .sub (.tmp 21) (ci' 1)) 22 16,cl' 77 [20,22] 23 60,mv' 6 24 0,cl' 39 [23,24] 25 252,mv' 6 26 0,fa' 2 1 2 27 0,ld' false 1 27 28 1024,mv' 6 29 0,o3 (.bin .sub (.tmp 29) (ci' 1)) 30 4096,cl' 77 [28,30] 31 15868,o3 (.call (.func 39) [(.tmp 31),(ci' 15)]) 32 32252,o3 (.bin .add (ci' 1) (.tmp 32)) 33 65020,cl' 76 [17,18,25,26,33] 34 131071]
def ydle:LO:=[mv' 6 15 0,o3 (.bin .add (.tmp 15) (ci' 1)) 16 1,mv' 16 6 3]
def ydfv:LO:=[ld' true 2 5 35 0,o0 (.store 2 (.tmp 4) (.tmp 35)) 1]
def c21:SC:=(.seq (.reg false ydkd) (.seq (.reg false ydeo) (.seq (.seq (.reg false ydes) (.block 0 (.loop (.seq (.seq (.reg false yczk) (.cond (.tmp 14) .skip (.exit 0))) (.seq (.block 1 (.reg true ydfc)) (.reg false ydle)))))) (.seq (.reg false ydfv) .ret))))
theorem ydbn:FnM 21 c21 [.c 4 true 2]:=fn_m Tryz.func21 (by kernel_rfl) (by kernel_rfl)
def ycqn:LO:=[o3 (.box 24 (.tmp 0)) 2 0,o3 (.box 27 (.tmp 1)) 3 0,o3 (.alloc 27 1 [.a (.slice none 0 0),.a (.slice none 0 0)]) 4 0]
def ycwx:LO:=[fa' 1 1 3 7 0,ld' false 1 7 8 1,ln' 8 9 3,mv' 9 5 7]
def ycgy:LO:=[mv' 5 10 0,mv' 10 6 1]
def ybhm:LO:=[mv' 6 11 0,o3 (.bin .add (.tmp 11) (ci' 1)) 12 1,fa' 1 1 2 13 0,ld' false 1 13 14 4,ln' 14 15 12,bn' .lss 12 15 16 31,mv' 16 17 63,⟨.mv (.tmp 6),some 18,some (17,true),127⟩,⟨.bin .lss (.tmp 18) (ci' 60),some 19,some (17,true),255⟩,o3 (.pick (.tmp 17) (.tmp 19) (.const (.bool false))) 20 511]
def ycob:LO:=[ld' true 6 2 23 0,ld' true 2 3 24 0,fa' 1 1 2 25 0,ld' false 1 25 26 4,mv' 6 27 0,ix' 1 26 27 28 28,ld' false 1 28 29 60,mv' 5 30 0,cl' 39 [29,30] 31 252,fa' 1 1 2 32 0,ld' false 1 32 33 512,mv' 6 34 0,o3 (.bin .add (.tmp 34) (ci' 1)) 35 2048,ix' 1 33 35 36 7680,ld' false 1 36 37 15872,mv' 5 38 0,cl' 39 [37,38] 39 65532,fa' 2 1 2 40 0,ld' false 1 40 41 131072,mv' 6 42 0,cl' 77 [41,42] 43 1048572,o3 (.call (.func 39) [(.tmp 43),(ci' 15)]) 44 2097148,o3 (.bin .add (ci' 1) (.tmp 44)) 45 4194300,cl' 76 [23,24,31,39,45] 46 8388607]
def yctt:LO:=[mv' 6 21 0,o3 (.bin .add (.tmp 21) (ci' 2)) 22 1,mv' 22 6 3]
def yboe:LO:=[ld' true 2 3 47 0,o0 (.store 2 (.tmp 4) (.tmp 47)) 1]
def c105:SC:=(.seq (.reg false ycqn) (.seq (.reg false ycwx) (.seq (.seq (.reg false ycgy) (.block 0 (.loop (.seq (.seq (.reg false ybhm) (.cond (.tmp 20) .skip (.exit 0))) (.seq (.block 1 (.reg true ycob)) (.reg false yctt)))))) (.seq (.reg false yboe) .ret))))
theorem ycam:FnM 105 c105 [.c 4 true 2]:=fn_m Tryz.func105 (by kernel_rfl) (by kernel_rfl)
def ydgk:LO:=[o3 (.box 24 (.tmp 0)) 2 0,o3 (.alloc 27 1 [.a (.slice none 0 0),.a (.slice none 0 0)]) 4 0]
def ydlm:LO:=[ld' true 6 2 5 0,ld' true 6 2 6 0,mv' 1 7 0,cl' 21 [6,7] 8 6,cl' 105 [5,8] 9 15,o0 (.store 2 (.tmp 4) (.tmp 9)) 31]
def c70:SC:=(.seq (.reg false ydgk) (.seq (.reg true ydlm) .ret))
theorem ydcu:FnU 70 c70 [.c 4 true 2]:=fn_u Tryz.func70 (by kernel_rfl) (by kernel_rfl)
def ydjh:LO:=[o3 (.box 27 (.tmp 0)) 3 0,o3 (.mv (.const (.slice none 0 0))) 6 0]
def ydmh:LO:=[fa' 1 1 3 16 0,ld' false 1 16 17 1,ln' 17 18 3,mv' 18 7 7,o3 (.mv (ci' 0)) 8 15]
def ydlb:LO:=[o3 (.mv (ci' 0)) 9 0]
def ydku:LO:=[mv' 9 19 0,mv' 7 20 0,bn' .lss 19 20 21 3]
def ydmt:LO:=[mv' 8 24 0,fa' 0 1 3 25 0,ld' false 1 25 26 2,mv' 9 27 0,ix' 1 26 27 28 14,ld' false 1 28 29 30,o3 (.mm true (.tmp 24) (.tmp 29)) 30 63,mv' 30 8 127]
def ydme:LO:=[mv' 9 22 0,o3 (.bin .add (.tmp 22) (ci' 1)) 23 1,mv' 23 9 3]
def ydkx:LO:=[o3 (.mv (.const (.slice none 0 0))) 10 0]
def ydfm:LO:=[o3 (.mv (ci' 0)) 11 0]
def ydhl:LO:=[mv' 11 31 0,mv' 7 32 0,bn' .lss 31 32 33 3]
def yckb:LO:=[o3 (.mv (.const (.slice none 0 0))) 12 0]
def ycpl:LO:=[o3 (.mv (ci' 0)) 13 0]
def ycgz:LO:=[mv' 13 36 0,mv' 1 37 0,ln' 37 38 2,bn' .lss 36 38 39 7]
def ycwp:LO:=[mv' 1 42 0,mv' 13 43 0,ix' 6 42 43 44 3,fa' 2 1 44 45 7,ld' false 1 45 46 15,mv' 1 47 0,mv' 13 48 0,ix' 6 47 48 49 96,fa' 3 1 49 50 224,ld' false 1 50 51 480,mv' 1 52 0,mv' 13 53 0,ix' 6 52 53 54 3072,fa' 4 1 54 55 7168,ld' false 1 55 56 15360,mv' 7 57 0,bn' .mul 56 57 58 64512,bn' .add 51 58 59 131040,mv' 1 60 0,mv' 13 61 0,ix' 6 60 61 62 786432,fa' 5 1 62 63 1835008,ld' false 1 63 64 3932160,mv' 8 65 0,bn' .mul 64 65 66 16515072,bn' .add 59 66 67 33554400,mv' 46 14 31,mv' 67 15 134217727]
def ycmy:LO:=[mv' 1 68 0,mv' 13 69 0,ix' 6 68 69 70 3,fa' 1 1 70 71 7,ld' false 1 71 72 15]
def ybgx:LO:=[o3 (.bin .eql (.tmp 72) (ci' 2)) 74 0,mv' 74 73 1]
def ybid:LO:=[o3 (.mv (ci' 0)) 14 0,o3 (.mv (ci' 1)) 15 1]
def ybhc:LO:=[o3 (.bin .eql (.tmp 72) (ci' 3)) 76 0,mv' 76 75 1]
def ybhs:LO:=[fa' 1 1 3 77 0,ld' false 1 77 78 1,mv' 11 79 0,ix' 1 78 79 80 7,ld' false 1 80 81 15,ln' 81 82 31,o3 (.bin .sub (.tmp 82) (ci' 1)) 83 63,o3 (.mv (.const (.int .i64 (-1)))) 14 0,mv' 83 15 255]
def ybgp:LO:=[mv' 12 84 0,mv' 14 85 0,mv' 2 86 0,mv' 11 87 0,mv' 1 88 0,ln' 88 89 16,bn' .mul 87 89 90 56,mv' 13 91 0,bn' .add 90 91 92 248,cl' 77 [86,92] 93 508,mv' 15 94 0,mv' 14 95 0,bn' .sub 94 95 96 3072,o3 (.bin .add (.tmp 96) (ci' 1)) 97 7168,cl' 39 [93,97] 98 16380,bn' .add 85 98 99 32766,o3 (.bslice 3 1 1 [.i .i64 0] [(0,1,(.tmp 99))]) 100 65534,o3 (.app 3 1 8 (.tmp 84) (.tmp 100)) 101 131071,mv' 101 12 262143]
def ybhj:LO:=[mv' 13 40 0,o3 (.bin .add (.tmp 40) (ci' 1)) 41 1,mv' 41 13 3]
def ycgj:LO:=[mv' 10 102 0,mv' 12 103 0,o3 (.bslice 22 1 1 [.a (.slice none 0 0)] [(0,1,(.tmp 103))]) 104 2,o3 (.app 22 1 24 (.tmp 102) (.tmp 104)) 105 7,mv' 105 10 15]
def ydfa:LO:=[mv' 11 34 0,o3 (.bin .add (.tmp 34) (ci' 1)) 35 1,mv' 35 11 3]
def ycjb:LO:=[mv' 10 106 0,mv' 106 6 1]
def c24:SC:=(.seq (.reg false ydjh) (.seq (.reg false ydmh) (.seq (.seq (.reg false ydlb) (.block 0 (.loop (.seq (.seq (.reg false ydku) (.cond (.tmp 21) .skip (.exit 0))) (.seq (.block 1 (.reg false ydmt)) (.reg false ydme)))))) (.seq (.reg false ydkx) (.seq (.seq (.reg false ydfm) (.block 2 (.loop (.seq (.seq (.reg false ydhl) (.cond (.tmp 33) .skip (.exit 2))) (.seq (.block 3 (.seq (.reg false yckb) (.seq (.seq (.reg false ycpl) (.block 4 (.loop (.seq (.seq (.reg false ycgz) (.cond (.tmp 39) .skip (.exit 4))) (.seq (.block 5 (.seq (.reg true ycwp) (.seq (.seq (.reg false ycmy) (.block 6 (.seq (.reg false ybgx) (.cond (.tmp 73) (.reg false ybid) (.seq (.reg false ybhc) (.cond (.tmp 75) (.reg true ybhs) .skip)))))) (.reg false ybgp)))) (.reg false ybhj)))))) (.reg false ycgj)))) (.reg false ydfa)))))) (.seq (.reg false ycjb) .ret))))))
theorem ydjj:Fn 24 c24 [.t 6]:=fn_0 Tryz.func24 (by kernel_rfl) (by kernel_rfl)
def ydgj:LO:=[o3 (.mv (.const (.slice none 0 0))) 4 0]
def ydky:LO:=[o3 (.mv (.const (.slice none 0 0))) 5 0]
def ydet:LO:=[o3 (.mv (ci' 0)) 6 0]
def ydgn:LO:=[mv' 6 9 0,mv' 1 10 0,bn' .lss 9 10 11 3]
def ydez:LO:=[mv' 0 14 0,ln' 14 15 1,o3 (.bin .eql (.tmp 15) (ci' 0)) 16 3]
def ydjq:LO:=[mv' 5 17 0,o3 (.bslice 40 1 1 [.i .u32 0] [(0,1,(.const (.int .u32 4294967295)))]) 18 0,o3 (.app 40 1 4 (.tmp 17) (.tmp 18)) 19 3,mv' 19 5 7]
def ydiz:LO:=[mv' 0 20 0,mv' 6 21 0,mv' 0 22 0,ln' 22 23 4,bn' .rem 21 23 24 14,ix' 1 20 24 25 31,ld' false 1 25 26 63,mv' 6 27 0,mv' 0 28 0,ln' 28 29 256,bn' .quo 27 29 30 896,o3 (.bin .rem (.tmp 30) (ci' 24)) 31 1920,o3 (.conv .u64 (.tmp 31)) 32 3968,mv' 26 7 127,mv' 32 8 16383]
def ydew:LO:=[mv' 7 33 0,o3 (.bin .and (.tmp 33) (.const (.int .u32 16777215))) 34 1,mv' 34 7 3]
def ydhz:LO:=[mv' 5 35 0,mv' 7 36 0,mv' 8 37 0,bn' .shl 36 37 38 6,mv' 7 39 0,mv' 8 40 0,o3 (.bin .sub (.const (.int .u64 24)) (.tmp 40)) 41 32,bn' .shr 39 41 42 112,bn' .or 38 42 43 254,o3 (.bin .and (.tmp 43) (.const (.int .u32 16777215))) 44 510,o3 (.bslice 40 1 1 [.i .u32 0] [(0,1,(.tmp 44))]) 45 1022,o3 (.app 40 1 4 (.tmp 35) (.tmp 45)) 46 2047,mv' 46 5 4095]
def ycza:LO:=[mv' 6 12 0,o3 (.bin .add (.tmp 12) (ci' 1)) 13 1,mv' 13 6 3]
def ycmt:LO:=[mv' 5 47 0,mv' 47 4 1]
def c26:SC:=(.seq (.reg false ydgj) (.seq (.reg false ydky) (.seq (.seq (.reg false ydet) (.block 0 (.loop (.seq (.seq (.reg false ydgn) (.cond (.tmp 11) .skip (.exit 0))) (.seq (.block 1 (.seq (.seq (.reg false ydez) (.cond (.tmp 16) (.seq (.reg false ydjq) (.exit 1)) .skip)) (.seq (.reg true ydiz) (.seq (.reg false ydew) (.reg false ydhz))))) (.reg false ycza)))))) (.seq (.reg false ycmt) .ret))))
theorem ydga:Fn 26 c26 [.t 4]:=fn_0 Tryz.func26 (by kernel_rfl) (by kernel_rfl)
def ydoa:LO:=[o3 (.box 27 (.tmp 1)) 6 0,o3 (.mv (.const (.slice none 0 0))) 10 0,o3 (.mv (.const (.slice none 0 0))) 11 2,o3 (.mv (.const (.bool false))) 12 6]
def ydir:LO:=[mv' 0 17 0,cl' 37 [17] 18 1,ld' true 2 6 19 0,mv' 2 20 0,mv' 3 21 0,mv' 4 22 0,cl' 78 [18,19,20,21,22] 23 63,mv' 23 16 127,xt' 16 0 24 255,xt' 16 1 25 255,xt' 16 2 26 255,mv' 24 13 511,mv' 25 14 3071,mv' 26 15 8191]
def ydix:LO:=[mv' 13 27 0,mv' 14 28 0,mv' 15 29 0,o3 (.bin .eql (.tmp 29) (ci' 0)) 30 4,mv' 30 31 12,⟨.mv (.tmp 13),some 32,some (31,true),28⟩,⟨.len (.tmp 32),some 33,some (31,true),60⟩,⟨.mv (.tmp 14),some 34,some (31,true),28⟩,⟨.len (.tmp 34),some 35,some (31,true),156⟩,⟨.bin .eql (.tmp 33) (.tmp 35),some 36,some (31,true),508⟩,o3 (.pick (.tmp 31) (.tmp 36) (.const (.bool false))) 37 1020,mv' 37 38 2044,⟨.mv (.tmp 13),some 39,some (38,true),4092⟩,⟨.len (.tmp 39),some 40,some (38,true),8188⟩,⟨.bin .gtr (.tmp 40) (ci' 0),some 41,some (38,true),16380⟩,o3 (.pick (.tmp 38) (.tmp 41) (.const (.bool false))) 42 32764,mv' 27 10 4093,mv' 28 11 69631,mv' 42 12 262143]
def c22:SC:=(.seq (.reg false ydoa) (.seq (.reg true ydir) (.seq (.reg false ydix) .ret)))
theorem ydmm:Fn 22 c22 [.t 10,.t 11,.t 12]:=fn_0 Tryz.func22 (by kernel_rfl) (by kernel_rfl)
end Sh
end
section
namespace Sh
open Ev Go.RowKit
instance:Inhabited Cnt:=⟨⟨0,0,0,0,0⟩⟩
def seeO(cs:List Conf)(ks:List Cnt):Own:=[(1,.one (some ⟨29,true,1,1,fun _=>[.os (2,0) 0 cs.length true]⟩)),(2,.one (some ⟨34,false,1,cs.length,fun i=>[ybl (cs.getD i [])]⟩)),
 (3,.one (some ⟨30,true,1,1,fun _=>[.os (4,0) 0 ks.length true]⟩)),(4,.one (some ⟨48,false,5,ks.length,fun i=>cntV (ks.getD i default)⟩))]
def ydbs:Own:=[(1,.one (some ⟨29,true,1,1,fun _=>[.a (.slice none 0 0)]⟩)),(3,.one (some ⟨30,true,1,1,fun _=>[.a (.slice none 0 0)]⟩))]
theorem yccc(cs:List Conf)(ks:List Cnt)(h1:0<cs.length/\cs.length<=5000)(h2:0<ks.length/\ks.length<=5000){c:Conf}(hc:∀s∈c,0<s.length/\s.length<=1000)(hl:c.length<=1000)(e:Nat)(k:Cnt) :
 Cm zF 131 [(1,0),(3,0)] (seeO cs ks) [ybl c,.i .u32 e,.ag (cntV k),.pt (1,0) 0 0,.pt (3,0) 0 0] fun r o=>r = .tp []/\o=seeO (cs++[c]) (ks++[k]):=by
 refine ybhf [(1,0),(3,0)] [] _ _ _ ?_;obtain⟨n,hn⟩:∃n,cs.length=n:=⟨_,rfl⟩;obtain⟨m,hm⟩:∃m,ks.length=m:=⟨_,rfl⟩;have hC:=yvt c hc hl;obtain⟨O2,hO2⟩:∃O,seeO (cs++[c]) (ks++[k])=O:=⟨_,rfl⟩;rw[hO2];simp only[c131,ybpe,ybwg,ybuo,seeO,cntV,hn,hm,go_sem,zA,zB,zG,↓reduceIte,reduceCtorEq];refine hC.use ?_;simp only[ybi,clash,ygg,go_sem,zA,zB,zC,zG,↓reduceIte,reduceCtorEq];refine⟨by decide,⟨by omega,by omega⟩,by decide,by decide,⟨by omega,by omega⟩,.tp [],O2,?_,?_,rfl,rfl⟩
 ·subst hO2;refine yfs [(2,fun i=>(12,i)),(4,fun i=>(16,i))] [] [] ?_;simp only[seeO,cntV,zAS,hn,hm,allQ,live,yg,go_sem,zA,↓reduceIte,reduceCtorEq];have gl:∀{α:Type}(l:List α) (x d:α) (i:Nat),i<l.length->(l++[x]).getD i d=l.getD i d:=fun l x d i h=>by simp[zAF,List.getElem?_append_left h]
  have gr:∀{α:Type}(l:List α) (x d:α),(l++[x]).getD l.length d=x:=fun l x d=>by simp[zAF]
  refine⟨fun i hi=>?_,fun i hi=>?_⟩
  ·by_cases q:i<n
   ·simp only[if_pos q,gl cs c [] i (by omega)]
    simp only[go_sem,live,yg,go_sem]
   ·obtain rfl:i=n:=by omega
    simp only[if_neg q,zAK,zT];have e:=gr cs c [];rw[hn]at e;simp only[e,live,yg,go_sem]
  ·by_cases q:i<m
   ·simp only[if_pos q,gl ks k default i (by omega)]
    simp only[go_sem,live,yg,go_sem,reduceCtorEq]
   ·obtain rfl:i=m:=by omega
    simp only[if_neg q,zAK,zT];have e:=gr ks k default;rw[hm]at e;simp only[e,live,yg,go_sem,reduceCtorEq]
 ·subst hO2;simp only[seeO,cntV,ycf,yfd,allQ,live,go_sem,zA,↓reduceIte]
theorem ybuq{c:Conf}(hc:∀s∈c,0<s.length/\s.length<=1000)(hl:c.length<=1000)(e:Nat)(k:Cnt) :
 Cm zF 131 [(1,0),(3,0)] ydbs [ybl c,.i .u32 e,.ag (cntV k),.pt (1,0) 0 0,.pt (3,0) 0 0] fun r o=>r = .tp []/\o=seeO [c] [k]:=by
 refine ybhf [(1,0),(3,0)] [] _ _ _ ?_;have hC:=yvt c hc hl;obtain⟨O2,hO2⟩:∃O,seeO [c] [k]=O:=⟨_,rfl⟩;rw[hO2];simp only[c131,ybpe,ybwg,ybuo,ydbs,cntV,go_sem,zA,zB,zG,↓reduceIte,reduceCtorEq];refine hC.use ?_;simp only[ybi,clash,ygg,go_sem,zA,zB,zC,zG,zAZ,↓reduceIte,reduceCtorEq];refine⟨by decide,by decide,by decide,.tp [],O2,?_,?_,rfl,rfl⟩
 ·subst hO2;refine yfs [(2,fun i=>(12,i)),(4,fun i=>(16,i))] [] [] ?_;simp only[seeO,cntV,allQ,live,yg,go_sem,zA,↓reduceIte,reduceCtorEq];refine⟨fun i hi=>?_,fun i hi=>?_⟩
  ·obtain rfl:i=0:=by omega
   simp only[zT];simp only[zV,live,yg,go_sem]
  ·obtain rfl:i=0:=by omega
   simp only[zT];simp only[zV,live,yg,go_sem,reduceCtorEq]
 ·subst hO2;simp only[seeO,cntV,ycf,yfd,allQ,live,go_sem,zA,↓reduceIte]
structure DaemonOk(kind:Int)(net:List Nat)(res:Nat->Nat->Nat):Prop where
 resolve:∀(e w:Nat),e<2^24->e<2^net.length->e≠0->w<2^32->Returns zF 111 [usV net,.i .i64 kind,.i .u32 e,.i .u32 w] (.i .u32 (res e w))
 permits:∀(e w:Nat),e<2^24->e<2^net.length->e≠0->w<2^32->Returns zF 196 [usV net,.i .i64 kind,.i .u32 e,.i .u32 (res e w)] (.b true)
 zero:∀(w:Nat),w<2^32->∃x:Nat,Returns zF 111 [usV net,.i .i64 kind,.i .u32 0,.i .u32 w] (.i .u32 x)
 sub:∀(e w:Nat),e≠0->e<2^24->res e w≠0/\subB (res e w) e
theorem ybdh{kind:Int}{net:List Nat}{res:Nat->Nat->Nat}(hd:DaemonOk kind net res)(rest:SV)(liv:SV)(mv:SV){ws:List Nat}(hw:∀k,ws.getD k 0<2^32){e:Nat}(he:e<2^24)(hen:e<2^net.length)(h0:e≠0){k:Nat}(hk:k<ws.length) :
 Returns zF 169 [.i .i64 k,.i .u32 e,.rf [mv,usV net,.i .i64 kind,liv,rest],.rf [usV ws]] (.tp [.i .u32 (res e (ws.getD k 0)),.b true]):=by
 refine Returns.of (ybyi _ _ ?_);have hR:=hd.resolve e (ws.getD k 0) he hen h0 (hw k);have z0:((e:Int)!=0)=true:=by simp;omega
 simp only[usV]at hR;simp only[c169,ybwr,ycad,usV,clash,go_sem,zA,zB,zC,↓reduceIte,reduceCtorEq];refine⟨by omega,hR.use ?_⟩
 simp only[ybi,clash,z0,go_sem,zA,zB,↓reduceIte,reduceCtorEq];exact Sim.refl _
theorem ybfx{kind:Int}{net:List Nat}{res:Nat->Nat->Nat}(hd:DaemonOk kind net res)(rest:SV)(liv:SV)(mv:SV){ws:List Nat}(hw:∀k,ws.getD k 0<2^32){k:Nat}(hk:k<ws.length) :
 ∃x:Nat,Returns zF 169 [.i .i64 k,.i .u32 0,.rf [mv,usV net,.i .i64 kind,liv,rest],.rf [usV ws]] (.tp [.i .u32 x,.b false]):=by
 obtain⟨x,hR⟩:=hd.zero (ws.getD k 0) (hw k);refine⟨x,Returns.of (ybyi _ _ ?_)⟩;simp only[usV]at hR;simp only[c169,ybwr,ycad,usV,clash,go_sem,zA,zB,zC,↓reduceIte,reduceCtorEq];refine⟨by omega,hR.use ?_⟩
 simp only[ybi,clash,zAY,go_sem,zA,zB,↓reduceIte,reduceCtorEq];exact Sim.refl _
theorem ydej{s e n:Nat}(h:subB s e)(he:e<2^n):s<2^n:=by
 refine Nat.lt_pow_two_of_testBit _ fun i hi=>?_;cases hb:s.testBit i with
 |false=>rfl
 | true =>
   have:=h i hb;rw[zAL (zAE he (zU (by omega) hi))]at this
   cases this
theorem ybpc(net:List Nat):DaemonOk 4 net resS where
 resolve:=fun e w he _ h0 hw=>yzb (usV net) (by simp[usV,ybjk,ybnw]) he h0 hw
 permits:=fun e w he _ h0 hw=>yyu (usV net) he h0
 zero:=fun w hw=>⟨0,by
  refine Returns.of (ybqq _ _ ?_);have a0:=u32_and (a:=w) (b:=0) (by omega) (by omega)
  rw[zBA]at a0;have a1:IntKind.wrap .u32 (0-0)=0:=by decide
  have a2:=u32_and (a:=0) (b:=0) (by omega) (by omega)
  rw[zBA]at a2;simp only[zJ,IntKind.bits]at a0 a2;simp only[usV,c111,ybxm,ybwp,ybxv,ybsd,ybhx,ybgr,ybhp,yxh,yxd,IntKind.signed,a0,a1,a2,zAG,ybb,go_sem,zA,zB,zG,↓reduceIte,reduceCtorEq];rfl⟩
 sub:=fun e w h0 _=>⟨h0,fun _ h=>h⟩
end Sh
end
section
def stAt(S:Sys)(res:Nat->Nat->Nat):List Nat->Conf->Cnt->Nat->Conf×Cnt
 |_,c,k,0=>(c,k)
 |ws,c,k,i+1=>stAt S res ws.tail (S.mv c (res (S.en c) (ws.getD 0 0))) (addP k (res (S.en c) (ws.getD 0 0)) (S.en (S.mv c (res (S.en c) (ws.getD 0 0))))) i
theorem yzh(S:Sys)(res:Nat->Nat->Nat):∀(i:Nat) (ws:List Nat) (c:Conf) (k:Cnt),
 stAt S res ws c k (i+1)=(S.mv (stAt S res ws c k i).1 (res (S.en (stAt S res ws c k i).1) (ws.getD i 0)),addP (stAt S res ws c k i).2 (res (S.en (stAt S res ws c k i).1) (ws.getD i 0)) (S.en (S.mv (stAt S res ws c k i).1 (res (S.en (stAt S res ws c k i).1) (ws.getD i 0)))))
 |0,ws,c,k=>rfl
 | i+1,ws,c,k=>by
   show stAt S res ws.tail _ _ (i+1)=_;rw[yzh S res i ws.tail];have e:ws.tail.getD i 0=ws.getD (i+1) 0:=by cases ws<;>rfl
   rw[e];rfl
theorem ybap(S:Sys)(res:Nat->Nat->Nat):∀(ws:List Nat) (c:Conf) (k:Cnt) (i:Nat),(∀j,j<i->S.en (stAt S res ws c k j).1≠0)->i<=ws.length->(i=ws.length\/S.en (stAt S res ws c k i).1=0) ->
 S.run res ws c k=(zX i).map fun j=>stAt S res ws c k (j+1)
 | [],c,k,i,_,hi,_=>by
   have:i=0:=by simpa using hi
   subst this;rfl
 | w :: ws,c,k,0,_,_,h=>by
   have h0:S.en c=0:=by
    rcases h with h|h
    ·simp at h
    ·exact h
   unfold Sys.run;rw[if_pos h0];rfl
 | w :: ws,c,k,i+1,hj,hi,h=>by
   have h0:S.en c≠0:=hj 0 (by omega)
   unfold Sys.run;rw[if_neg h0];simp only
   have e:=ybap S res ws (S.mv c (res (S.en c) w)) (addP k (res (S.en c) w) (S.en (S.mv c (res (S.en c) w)))) i (fun j hj'=>hj (j+1) (by omega)) (by simpa using hi) (by
    rcases h with h|h
    ·exact .inl (by simpa using h)
    ·exact .inr h)
   rw[e,zAM,zAP,zBB];rfl
theorem ybjn(S:Sys)(res:Nat->Nat->Nat)(ws:List Nat)(c:Conf)(i:Nat)(hj:∀j,j<i->S.en (stAt S res ws c (ydx (S.en c)) j).1≠0)(hi:i<=ws.length)(h:i=ws.length\/S.en (stAt S res ws c (ydx (S.en c)) i).1=0) :
 S.runs res ws c=(zX (i+1)).map fun j=>stAt S res ws c (ydx (S.en c)) j:=by
 unfold Sys.runs;rw[ybap S res ws c _ i hj hi h,zAM,zAP,zBB];rfl
theorem ycci{kind:Int}{b:Int×Int}(hb:b.1<=b.2)(h3:kind=3->b.1 <= -1 /\ -1<=b.2)(x:Int):b.1<=ygc kind b x/\ygc kind b x<=b.2:=by
 unfold ygc;split
 ·assumption
 ·split
  ·exact h3 (by assumption)
  ·split<;>omega
namespace Sh
theorem ybht{p:ProgT}{g:Gr}(hg:ybc g)(hp:p.ok=true)(hf:ytq p g=true){x:VarR}(hx:x∈p.vars)(v:Nat):(ybh g v x).1<=(ybh g v x).2/\(x.kind=3->(ybh g v x).1 <= -1 /\ -1<=(ybh g v x).2):=by
 have h1:=List.all_eq_true.1 hf x hx;have hp':=hp;unfold ProgT.ok at hp';simp only[zK,decide_eq_true_eq]at hp';have hxo:=ybeo (List.all_eq_true.1 hp'.1.1.2 _ hx);rcases hxo.1 with h|h|h
 ·have e:ybh g v x=ybh g 0 x:=by unfold ybh;rw[if_pos h,if_pos h]
  rw[e];simp[h]at h1;exact⟨h1.1,fun q=>by omega⟩
 ·unfold ybh;rw[if_neg (by omega),if_pos h]
  exact⟨by decide,fun q=>by omega⟩
 ·unfold ybh;rw[if_neg (by omega),if_neg (by omega),if_pos h]
  exact⟨by simp only[];omega,fun _=>⟨by simp only[];omega,by simp only[];omega⟩⟩
theorem ybvo{p:ProgT}{g:Gr}(hg:ybc g)(hp:p.ok=true)(hf:ytq p g=true){v:Nat}{s:List Int}(hs:yev (p.vars.map (ybh g v)) s){a:Int}(ha:0<=a/\a<p.vars.length)(y:Int) :
 yev (p.vars.map (ybh g v)) (s.set a.toNat (ygc (p.vars.getD a.toNat default).kind (ybh g v (p.vars.getD a.toNat default)) y)):=by
 refine⟨by rw[List.length_set];exact hs.1,fun i b x hb hx=>?_⟩
 by_cases q:a.toNat=i
 ·subst q;have hlt:a.toNat<p.vars.length:=by omega
  rw[List.getElem?_map,zH hlt]at hb;cases hb
  have hl:a.toNat<s.length:=by rw[hs.1,zAW];exact hlt
  rw[List.getElem?_set_self hl]at hx;cases hx
  rw[getD_at hlt];obtain⟨h1,h2⟩:=ybht hg hp hf (zS hlt) v;exact ycci h1 h2 y
 ·rw[List.getElem?_set_ne q]at hx;exact hs.2 i b x hb hx
theorem yuc{p:ProgT}{g:Gr}(hg:ybc g)(hp:p.ok=true)(hf:ytq p g=true)(c:Conf)(v:Nat):∀(sets:List (Int×Ex)) (s:List Int),(∀a∈sets,0<=a.1/\a.1<p.vars.length)->yev (p.vars.map (ybh g v)) s->yev (p.vars.map (ybh g v)) (yot p g c v s sets)
 |[],s,_,hs=>hs
 | a::sets,s,ha,hs=>by
   show yev _ (yot p g c v (s.set _ _) sets);exact yuc hg hp hf c v sets _ (fun x hx=>ha x (zAO _ hx)) (ybvo hg hp hf hs (ha a zAR) _)
theorem yup{p:ProgT}{g:Gr}(hg:ybc g)(hp:p.ok=true)(hf:ytq p g=true){c:Conf}(hc:yga p g c=true)(s:Nat):yga p g (ync p g c s)=true:=by
 have h:=(yff _ _ _).1 hc;refine(yff _ _ _).2 ⟨by rw[yjt];exact h.1,fun v st hst=>?_⟩
 have hv:v<c.length:=by
  have:=(List.getElem?_eq_some_iff.1 hst).1
  rwa [yjt]at this
 have e:st=(ync p g c s).getD v []:=by simp[zAF,hst]
 rw[ymb p g c s hv]at e;have hold:=h.2 v (c.getD v []) (by rw[getD_at hv];exact zH hv)
 rw[e];split
 ·unfold yyv;refine yuc hg hp hf c v _ _ (fun a ha=>?_) hold;have hp':=hp;unfold ProgT.ok at hp';simp only[zK,decide_eq_true_eq]at hp'
  by_cases hr:(ygx p g c v).toNat<p.rules.length
  ·rw[getD_at hr]at ha;have hok:=List.all_eq_true.1 hp'.2 _ (zS hr);unfold RuleT.ok at hok;simp only[zK,decide_eq_true_eq]at hok;have:=List.all_eq_true.1 hok.2 a ha;simp only[zK,decide_eq_true_eq]at this;exact this.1.1
  ·have:p.rules.getD (ygx p g c v).toNat default=default:=by simp[zAF,List.getElem?_eq_none (Nat.le_of_not_lt hr)]
   rw[this]at ha;cases ha
 ·exact hold
theorem yok{p:ProgT}{g:Gr}(hg:ybc g)(hp:p.ok=true){c:Conf}(hc:yga p g c=true):(∀s∈c,0<s.length/\s.length<=1000)/\c.length<=1000:=by
 have h:=ykd hg hp hc;have hp':=hp;unfold ProgT.ok at hp';simp only[zK,decide_eq_true_eq]at hp';have:=hg.2.1;exact⟨fun s hs=>by have:=(h.row s hs).1;omega,by rw[h.len];omega⟩
theorem yced(p:ProgT)(g:Gr)(c:Conf):ycc p g c<2^g.ids.length:=ybgs _ _
end Sh
end
section
namespace Sh
open Ev Go.RowKit
def seeC:SV:=.fn 131 [] [.pt (201,0) 0 0,.pt (203,0) 0 0]
def seeX(cs:List Conf)(ks:List Cnt):Own:=[(201,.one (some ⟨29,true,1,1,fun _=>[.os (202,0) 0 cs.length true]⟩)),(202,.one (some ⟨34,false,1,cs.length,fun i=>[ybl (cs.getD i [])]⟩)),
 (203,.one (some ⟨30,true,1,1,fun _=>[.os (204,0) 0 ks.length true]⟩)),(204,.one (some ⟨48,false,5,ks.length,fun i=>cntV (ks.getD i default)⟩))]
def ymf:Own:=[(201,.one (some ⟨29,true,1,1,fun _=>[.a (.slice none 0 0)]⟩)),(203,.one (some ⟨30,true,1,1,fun _=>[.a (.slice none 0 0)]⟩))]
def TT:(Nat->Option ABlk)->Value->Prop:=fun _ _=>True
def yfr(p:ProgT)(g:Gr):SV:=.ex TT (.rf (yeg p.raw g))
def yea(p:ProgT)(g:Gr)(net:List Nat)(kind:Int):List SV:=[yfr p g,usV net,.i .i64 kind,.i .u32 (2^g.ids.length-1:Nat),seeC]
def ybyn(p:ProgT)(g:Gr)(net:List Nat)(kind:Int)(ws:List Nat):Own:=[(205,.one (some ⟨126,true,5,1,fun _=>yea p g net kind⟩)),(206,.one (some ⟨38,true,1,1,fun _=>[usV ws]⟩))]
theorem gmr{α:Type}(f:Nat->α)(n k:Nat)(d:α)(h:k<n):((zX n).map f).getD k d=f k:=by simp[zAF,h]
def mapR{α:Type}(n:Nat)(f:Nat->α):List α:=(zX n).map f
theorem gmR{α:Type}(f:Nat->α)(n k:Nat)(d:α)(h:k<n):(mapR n f).getD k d=f k:=gmr f n k d h
theorem ybif{α:Type}(n:Nat)(f:Nat->α):(mapR n f).length=n:=by simp[mapR]
theorem ybin{α β:Type}(n:Nat)(f:Nat->α)(h:α->β):(mapR n f).map h=mapR n fun k=>h (f k):=by simp[mapR,Function.comp_def]
theorem ybts{α:Type}(f:Nat->α)(n:Nat)(x d:α)(hx:f n=x)(k:Nat)(h:k<n+1):(((zX n).map f)++[x]).getD k d=f k:=by
 rw[<-hx,show[f n]=[n].map f from rfl,<-List.map_append,<-List.range_succ]
 exact gmr f (n+1) k d h
section
variable {Q1 Q2:(Nat->Option ABlk)->Value->Prop}{p:ProgT}{g:Gr}
theorem ybll(h:Checked Q1 Q2 p g){kind:Int}{net:List Nat}(hnl:g.ids.length<=net.length){res:Nat->Nat->Nat}(hd:DaemonOk kind net res){c:Conf}(hc:yga p g c=true){ws:List Nat}(hw:∀k,ws.getD k 0<2^32)(hwl:ws.length<=4000) :
 Cm zF 168 [(201,0),(203,0)] (ymf++ybyn p g net kind ws) [.ag (yea p g net kind),ybl c,.i .i64 ws.length,.fn 169 [] [.pt (205,0) 0 0,.pt (206,0) 0 0]]
  fun r o=>(∃l1 l2 c' k',r = .tp [.ag (usV l1::usV l2::ybl c'::cntV k'),.i .i64 0])/\o=seeX ((yby p g).runs res ws c |>.map (·.1)) ((yby p g).runs res ws c |>.map (·.2)):=by
 refine ycev [(201,0),(203,0)] [131] _ _ _ ?_;obtain⟨O2,hO2⟩:∃O,seeX ((yby p g).runs res ws c |>.map (·.1)) ((yby p g).runs res ws c |>.map (·.2))=O:=⟨_,rfl⟩;rw[hO2];obtain⟨hr1,hr2⟩:=yok h.hg h.hp hc;have hcin:=ykd h.hg h.hp hc;have hC:=yvt c hr1 hr2;have hE:=ypc p h.hg h.hp hcin;have hX:SimL [yfr p g,ybl c] [.rf (yeg p.raw g),ybl c]:=⟨yso _ _,Sim.refl _,trivial⟩;have hen:=yced p g c;have hid:=h.hg.2.2.1
 have h24:=h.hg.2.1;have h2n:2^g.ids.length<=2^24:=zU (by omega) (by omega)
 simp only[c168,ycmw,ycpy,ycuv,ymf,ybyn,yea,seeC,usV,yfr,go_sem,zA,zB,zG,zI,↓reduceIte,reduceCtorEq];refine hC.use ?_;simp only[ybi,ycvq,clash,go_sem,zA,zB,zC,zI,↓reduceIte,reduceCtorEq];refine hE.useS ?_ ?_
 ·exact hX
 have ha:IntKind.wrap .u32 (((zL (IntKind.bits .u32) (ycc p g c:Int))&&&zL (IntKind.bits .u32) ((2^g.ids.length-1:Nat):Int)).toNat:Int)=(ycc p g c:Int):=by
  have e:=u32_and (a:=ycc p g c) (b:=2^g.ids.length-1) (by omega) (by omega)
  rw[zN hen]at e;exact e
 simp only[IntKind.bits]at ha;simp only[ybi,ycjr,clash,ha,go_sem,zA,zB,zG,zI,↓reduceIte];have hB:=ybtf (e:=ycc p g c) (by omega)
 obtain⟨K0,hK0⟩:∃K,ydx (ycc p g c)=K:=⟨_,rfl⟩;rw[hK0]at hB;refine hB.use ?_;simp only[ycxb,cntV,go_sem,zA,zB,↓reduceIte,reduceCtorEq];have hS:=ybuq hr1 hr2 (ycc p g c) K0;simp only[cntV]at hS;refine yem hS [(1,201),(3,203)] 200 [1,2,3,4,8,9,10,11,12] [4,8,10,12,205,206] ?_ ?_
 ·simp only[ydbs,to1,okN,ycf,yfd,ydy,ydm,allQ,live,yg,go_sem,zA,zB,zI,↓reduceIte,reduceCtorEq]
 ·rintro r o' ⟨rfl,rfl⟩;simp only[seeO,ymj,ykn,nuF,nu,difN,ydy,ydm,Fam.ren,OB.ren,dim,ysc,yjb,go_sem,zA,zB,zI,↓reduceIte,reduceCtorEq];simp only[ycgq,ycvu,splice,go_sem,zA,zB,zC,zG,zAZ,↓reduceIte,reduceCtorEq]
  let st:Nat->Conf×Cnt:=stAt (yby p g) res ws c K0
  let en:Nat->Nat:=fun i=>ycc p g (st i).1
  let ch:Nat->Nat:=fun i=>res (en i) (ws.getD i 0)
  refine ybj (σ:=Nat) (fun i=>⟨[(40,.i .i64 i),(39,.i .i64 ws.length),(1,ybl (st i).1),(3,.fn 169 [] [.pt (205,0) 0 0,.pt (206,0) 0 0]),(4,.pt (4,0) 0 0),(8,.pt (8,0) 0 0),(9,.i .i64 0),(10,.pt (10,0) 0 0),(11,.i .u32 (en i)),(12,.pt (12,0) 0 0)],
   [(4,.one (some ⟨126,true,5,1,fun _=>yea p g net kind⟩)),
    (8,.one (some ⟨130,true,8,1,fun _=>[.a (.slice none 0 0),.a (.slice none 0 0),.a (.slice none 0 0),.i .i64 0,.i .i64 0,.i .i64 0,.i .i64 0,.i .u32 0]⟩)),
    (10,.one (some ⟨130,true,8,1,fun _=>[.os (301,0) 0 i true,.os (302,0) 0 (i+1) true,.a (.slice none 0 0),.i .i64 0,.i .i64 0,.i .i64 0,.i .i64 0,.i .u32 0]⟩)),
    (301,.one (some ⟨40,false,1,i,fun j=>[.i .u32 (ch j)]⟩)),(302,.one (some ⟨40,false,1,i+1,fun j=>[.i .u32 (en j)]⟩)),
    (12,.one (some ⟨48,true,5,1,fun _=>cntV (st i).2⟩)),
    (201,.one (some ⟨29,true,1,1,fun _=>[.os (202,0) 0 (i+1) true]⟩)),(202,.one (some ⟨34,false,1,i+1,fun j=>[ybl (st j).1]⟩)),
    (203,.one (some ⟨30,true,1,1,fun _=>[.os (204,0) 0 (i+1) true]⟩)),(204,.one (some ⟨48,false,5,i+1,fun j=>cntV (st j).2⟩)),
    (205,.one (some ⟨126,true,5,1,fun _=>yea p g net kind⟩)),(206,.one (some ⟨38,true,1,1,fun _=>[usV ws]⟩))]⟩)
   (fun i=>i<=ws.length/\(∀j,j<i->en j≠0)/\yga p g (st i).1=true/\(st i).2.ok/\(st i).2.steps=i) (fun i=>ws.length-i) 0 ⟨zAB _,fun j hj=>absurd hj (Nat.not_lt_zero j),hc,by show K0.ok;rw[<-hK0];exact ybpo (by omega),by show K0.steps=0;rw[<-hK0];rfl⟩ ?_ ?_
  ·refine yfs [(302,fun i=>(37,i))] [301] [] ?_;have st0:st 0=(c,K0):=rfl;have en0:en 0=ycc p g c:=rfl;simp only[yea,yfr,seeC,usV,cntV,st0,en0,allQ,live,yg,ybb,zJ,go_sem,zA,zC,zI,↓reduceIte,reduceCtorEq];refine⟨fun i _=>⟨(301,0),rfl,?_⟩,?_⟩
   ·simp only[go_sem,go_sem,zA,↓reduceIte]
   refine⟨fun i hi=>?_,fun i hi=>?_,fun i hi=>?_⟩
   ·obtain rfl:i=0:=by omega
    simp only[zT];simp only[en0,live,yg,go_sem,reduceCtorEq]
   ·obtain rfl:i=0:=by omega
    simp only[st0,zV,yg,go_sem]
   ·obtain rfl:i=0:=by omega
    simp only[st0,zV,go_sem]
  ·rintro i ⟨hi,hj,hci,hko,hks⟩;obtain⟨cr1,cr2⟩:=yok h.hg h.hp hci;have cin:=ykd h.hg h.hp hci;have eni:=yced p g (st i).1
   have fin:(i=ws.length\/en i=0)->(yby p g).runs res ws c=mapR (i+1) st:=fun hq=>by
    have e:=ybjn (yby p g) res ws c i;rw[show(yby p g).en c=ycc p g c from rfl,hK0]at e
    exact e hj hi hq
   simp only[ycje,ycud,ybqg,yea,yfr,seeC,usV,cntV,go_sem,zA,zB,zC,zI,↓reduceIte,reduceCtorEq];refine⟨fun hlt=>.inl ?_,fun hlt=>?_⟩
   ·have hi':i<ws.length:=by omega
    by_cases h0:en i=0
    ·obtain⟨x,hF⟩:=ybfx hd (.fn 131 [] [.rf [.sl 1 (i+1) fun j=>[ybl (st j).1]],.rf [.sl 5 (i+1) fun j=>cntV (st j).2]]) (.i .u32 (2^g.ids.length-1:Nat)) (yfr p g) hw hi';simp only[yfr,usV,cntV]at hF;simp only[h0,zJ];refine hF.use ?_;simp only[ybi,ybda,ybcz,ybeh,go_sem,zA,zB,zC,↓reduceIte,reduceCtorEq];refine⟨by decide,?_⟩
     simp only[ygg,go_sem];refine⟨.tp [.ag (usV (mapR i ch)::usV (mapR (i+1) en)::ybl (st i).1::cntV (st i).2),.i .i64 0],O2,?_,?_,⟨_,_,_,_,rfl⟩,rfl⟩
     ·subst hO2;rw[fin (.inr h0)];refine yfs [] [] [(301,0),(302,0)] ?_;simp only[seeX,usV,cntV,ybin,ybif,allQ,live,yg,ybb,go_sem,zA,↓reduceIte,reduceCtorEq];refine⟨ybuy ⟨yqy ⟨yjk fun q hq=>by rw[gmR _ _ _ _ hq],yjk fun q hq=>by rw[gmR _ _ _ _ hq],Sim.refl _,Sim.refl _,Sim.refl _,Sim.refl _,Sim.refl _,Sim.refl _,trivial⟩,Sim.refl _,trivial⟩,fun q hq=>?_,fun q hq=>?_⟩
      ·rw[gmR _ _ _ _ hq];exact Sim.refl _
      ·rw[gmR _ _ _ _ hq];exact⟨rfl,rfl,rfl,rfl,rfl⟩
     ·subst hO2;simp only[seeX,usV,cntV,ycf,yfd,allQ,live,go_sem,zA,↓reduceIte]
    ·have hen24:en i<2^24:=by show ycc p g (st i).1<_;omega
     have henn:en i<2^net.length:=zAE eni (zU (by omega) hnl)
     have hF:=ybdh hd (.fn 131 [] [.rf [.sl 1 (i+1) fun j=>[ybl (st j).1]],.rf [.sl 5 (i+1) fun j=>cntV (st j).2]]) (.i .u32 (2^g.ids.length-1:Nat)) (yfr p g) hw hen24 henn h0 hi';obtain⟨hch0,hchs⟩:=hd.sub (en i) (ws.getD i 0) h0 hen24;have hP:=hd.permits (en i) (ws.getD i 0) hen24 henn h0 (hw i);have hch24:ch i<2^24:=ydej hchs hen24;have hSt:=ycdh p h.hg h.hp cin (s:=ch i) (by omega) hchs
     obtain⟨d,hdd⟩:∃d,ync p g (st i).1 (ch i)=d:=⟨_,rfl⟩;rw[hdd]at hSt;have hcd:yga p g d=true:=by rw[<-hdd];exact yup h.hg h.hp h.hf hci (ch i)
     simp only[yfr,usV,cntV]at hF hP;refine hF.use ?_;simp only[ybi,ybda,ybvq,go_sem,zA,zB,zC,zI,↓reduceIte,reduceCtorEq];refine hP.use ?_;simp only[ybi,ybvj,go_sem,zA,zB,zC,zI,↓reduceIte,reduceCtorEq];refine hSt.useS ?_ ?_
     ·exact⟨yso _ _,Sim.refl _,Sim.refl _,trivial⟩
     obtain⟨dr1,dr2⟩:=yok h.hg h.hp hcd;have dcin:=ykd h.hg h.hp hcd;have hE2:=ypc p h.hg h.hp dcin;have hen2:=yced p g d;obtain⟨e2,he2⟩:∃e,ycc p g d=e:=⟨_,rfl⟩;rw[he2]at hE2 hen2
     have ha2:IntKind.wrap .u32 (((zL (IntKind.bits .u32) (e2:Int))&&&zL (IntKind.bits .u32) ((2^g.ids.length-1:Nat):Int)).toNat:Int)=(e2:Int):=by
      have e:=u32_and (a:=e2) (b:=2^g.ids.length-1) (by omega) (by omega)
      rw[zN hen2]at e;exact e
     simp only[IntKind.bits]at ha2;simp only[ybi,ybvh,clash,go_sem,zA,zB,zC,zI,↓reduceIte,reduceCtorEq];refine hE2.useS ?_ ?_
     ·exact⟨yso _ _,Sim.refl _,trivial⟩
     have hA:=yddh hko (by omega) hch0 hch24 (e:=e2) (by omega)
     obtain⟨K2,hK2⟩:∃K,addP (st i).2 (ch i) e2=K:=⟨_,rfl⟩;rw[hK2]at hA;simp only[cntV]at hA;simp only[ybi,yboi,clash,ha2,go_sem,zA,zB,zI,↓reduceIte,reduceCtorEq];refine hA.use ?_;simp only[ybyr,go_sem,zA,zB,↓reduceIte,reduceCtorEq]
     let cs:List Conf:=(zX (i+1)).map fun j=>(st j).1
     let ks:List Cnt:=(zX (i+1)).map fun j=>(st j).2
     have lc:cs.length=i+1:=by simp[cs]
     have lk:ks.length=i+1:=by simp[ks]
     have hS2:=yccc cs ks (by omega) (by omega) dr1 dr2 e2 K2
     simp only[cntV]at hS2;refine yem hS2 [(1,201),(2,202),(3,203),(4,204)] 400 [40,39,1,3,4,8,9,10,11,12,14] [4,8,10,301,302,12,205,206] ?_ ?_
     ·simp only[seeO,lc,lk,cntV,to1,okN,ycf,yfd,ydy,ydm,allQ,live,yg,ybb,go_sem,zA,zB,zI,↓reduceIte,reduceCtorEq];refine⟨fun q hq=>?_,fun q hq=>?_⟩
      ·simp only[cs,gmr _ _ _ _ hq];exact Sim.refl _
      ·simp only[ks,gmr _ _ _ _ hq];exact⟨trivial,trivial,trivial,trivial,trivial⟩
     ·rintro r o' ⟨rfl,rfl⟩;simp only[seeO,cntV,zAS,lc,lk,ymj,ykn,nuF,nu,difN,ydy,ydm,Fam.ren,OB.ren,dim,ygz,ysc,yjb,go_sem,zA,zI,↓reduceIte];simp only[ybzl,ybxa,ybxb,splice,go_sem,zA,zB,zC,zG,↓reduceIte,reduceCtorEq]
      have hst:st (i+1)=(d,K2):=by
       show stAt (yby p g) res ws c K0 (i+1)=_;rw[yzh];show(ync p g (st i).1 (ch i),addP (st i).2 (ch i) (ycc p g (ync p g (st i).1 (ch i))))=_;rw[hdd,he2,hK2]
      have hen':en (i+1)=e2:=by
       show ycc p g (st (i+1)).1=_;rw[hst];exact he2
      refine⟨⟨by omega,by omega⟩,⟨by omega,by omega⟩,ikw (by omega) (by omega),?_⟩
      refine yw (i+1) ⟨by omega,fun j hj'=>?_,by rw[hst];exact hcd,by rw[hst,<-hK2];exact ydcg hko hch24 hch0 (by omega),by rw[hst,<-hK2];show(st i).2.steps+1=i+1;omega⟩ (by omega) ?_
      ·by_cases q:j=i
       ·rw[q];exact h0
       ·exact hj j (by omega)
      refine yfs [(301,fun i=>(90,i)),(302,fun i=>(96,i))] [] [] ?_;simp only[hst,hen',allQ,live,yg,ybb,go_sem,zA,zC,↓reduceIte,reduceCtorEq];have hcs:∀k,k<i+1+1->(cs++[d]).getD k []=(st k).1:=ybts (fun j=>(st j).1) (i+1) d [] (by rw[hst])
      have hksx:∀k,k<i+1+1->(ks++[K2]).getD k default=(st k).2:=ybts (fun j=>(st j).2) (i+1) K2 default (by rw[hst])
      refine⟨by omega,fun q hq=>?_,fun q hq=>?_,fun q hq=>?_,fun q hq=>?_⟩
      ·by_cases q1:q<i
       ·simp only[if_pos q1];simp only[go_sem,live,yg,go_sem,reduceCtorEq]
       ·obtain rfl:q=i:=by omega
        simp only[if_neg q1,zAK,zT];simp only[ch,live,yg,go_sem,reduceCtorEq]
      ·by_cases q1:q<i+1
       ·simp only[if_pos q1];simp only[go_sem,live,yg,go_sem,reduceCtorEq]
       ·obtain rfl:q=i+1:=by omega
        simp only[if_neg q1,zAK,zT];simp only[hen',live,yg,go_sem,reduceCtorEq]
      ·rw[hcs q hq];exact Sim.refl _
      ·rw[hksx q hq];exact⟨rfl,rfl,rfl,rfl,rfl⟩
   ·obtain rfl:i=ws.length:=by omega
    simp only[ybcz,ybeh,go_sem,zA,zB,zC,↓reduceIte,reduceCtorEq];refine⟨by decide,?_⟩
    simp only[ygg,go_sem];refine⟨.tp [.ag (usV (mapR ws.length ch)::usV (mapR (ws.length+1) en)::ybl (st ws.length).1::cntV (st ws.length).2),.i .i64 0],O2,?_,?_,⟨_,_,_,_,rfl⟩,rfl⟩
    ·subst hO2;rw[fin (.inl rfl)];refine yfs [] [] [(301,0),(302,0)] ?_;simp only[seeX,usV,cntV,ybin,ybif,allQ,live,yg,ybb,go_sem,zA,↓reduceIte,reduceCtorEq];refine⟨ybuy ⟨yqy ⟨yjk fun q hq=>by rw[gmR _ _ _ _ hq],yjk fun q hq=>by rw[gmR _ _ _ _ hq],Sim.refl _,Sim.refl _,Sim.refl _,Sim.refl _,Sim.refl _,Sim.refl _,trivial⟩,Sim.refl _,trivial⟩,fun q hq=>?_,fun q hq=>?_⟩
     ·rw[gmR _ _ _ _ hq];exact Sim.refl _
     ·rw[gmR _ _ _ _ hq];exact⟨rfl,rfl,rfl,rfl,rfl⟩
    ·subst hO2;simp only[seeX,usV,cntV,ycf,yfd,allQ,live,go_sem,zA,↓reduceIte]
end
end Sh
end
end Go.Proofs.YtiejahgklcjhkaaGreatDoor
