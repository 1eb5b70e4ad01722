/- Joined. -/
import Derived.Test.YthclbjjgfcgbgaaGreatDoorPkCp7
import Derived.Test.YthclbjjgfcgbgaaGreatDoorPkCp5
import Derived.Test.YthclbjjgfcgbgaaGreatDoorPkCp6
set_option linter.unusedSimpArgs false
set_option linter.unusedVariables false
set_option maxRecDepth 1000000
open Nat renaming reduceEqDiff->zA,reduceAdd->zB,reduceLT->zD,le_refl->zI,reduceLeDiff->zK,beq_refl->zN,beq->zQ,ble_eq_true_of_le->zS,not_lt_zero->zU,le_of_ble_eq_true->zV,zero_le->zAA,eq_of_beq_eq_true->zAH,lt_of_lt_of_le->zAJ,blt->zAM,lt_or_ge->zBA,ble->zBF,eq_zero_or_pos->zBH,shiftRight_eq_div_pow->zBM,testBit_lt_two_pow->zBP,pow_lt_pow_right->zBS,pow_le_pow_right->zBT,lt_of_le_of_lt->zBX,lt_of_lt_of_eq->zBZ,lt_succ_self->zCL,lt_irrefl->zCT,mul_comm->zCX,sub_self->zCY,mul_one->zDA
open Go.Lib renaming hid->zC
open Bool renaming and_eq_true->zF,true_and->zAO,not_eq_true'->zBK,cond_eq_ite->zCK,eq_iff_iff->zCM
open List renaming getElem?_eq_getElem->zG,getD->zJ,mem_cons_of_mem->zL,getElem_mem->zM,not_mem_nil->zO,mem_cons_self->zT,replicate->zW,getElem_of_mem->zY,take_length->zZ,length_map->zAC,eq_nil_of_length_eq_zero->zAD,map_congr_left->zAF,range->zAG,take_succ_eq_append_getElem->zAI,length_append->zAK,foldl_append->zAL,mem_of_mem_take->zAN,getD_eq_getElem?_getD->zAP,getElem_append_left->zAQ,pairwise_map->zAS,getElem?_set_self->zAT,map_cons->zAU,getElem?_eq_none->zAV,length_singleton->zAW,getElem?_set_ne->zAY,foldl_cons->zAZ,map_map->zBC,nodup_nil->zBE,findIdx?_cons->zBG,nodup_append->zBJ,getElem_append_right->zBL,ext_getElem->zBN,nodup_cons->zBO,countP_le_length->zBQ,mem_of_getElem?->zBR,mem_of_mem_drop->zBU,getD_cons_zero->zBV,getD_cons_succ->zBW,getElem?_map->zCC,all_eq_false->zCD,length_cons->zCF,all_eq_true->zCH,getElem_map->zCI,countP_cons->zCJ,foldl->zCN,range_succ->zCP,drop_zero->zCQ,foldl_map->zCR,foldl_nil->zCS
open Go.Proofs.Tryz renaming prog->zH,func131->zAX,ntmps131->zBI,func121->zBY,underlying22->zCA,zeroCells241->zCB,func89->zCE,ntmps121->zCU,ntmps89->zCW,func21->zDD
open Int renaming toNat_natCast->zX,reduceToNat->zAB,eq_ofNat_of_zero_le->zAE,emod_lt_of_pos->zAR,emod_nonneg->zBB,mul_le_mul_of_nonneg_left->zBD,natCast_zero->zCG,natCast_add->zCO,le_refl->zDB,add_mul->zDC
open BitVec renaming ofInt->zCV
open Eq renaming trans->zCZ
open Classical renaming choose_spec->zDE,choose->zDF
open Go
namespace Go.Proofs.YthclbjjgfcgbgaaGreatDoor
section
open Go.RowKit
theorem ycbb(n k:Nat)(hk:k<n):(zW k (-1:Int)++zW (n-k) 0).set k (-1)=zW (k+1) (-1)++zW (n-(k+1)) 0:=by
 apply zBN
 .simp;omega
 .intro i b c;rw[List.getElem_set];split
  .subst_vars
   rw[zAQ (by simp)]
   simp
  .by_cases a:i<k
   .rw[zAQ (by simpa using a),zAQ (by simp;omega)];simp
   .rw[zBL (by simp;omega),zBL (by simp;omega)];simp
theorem ybca(g:Gr)(a:Nat)(h:g.ports.length<=24):1+yku (start g a)<=30:=by
 have b:=zBQ (p:=fun x:Int=>decide (x<0)) (l:=start g a);have c:(start g a).length=g.ports.length:=by simp[start]
 unfold yku;omega
set_option maxHeartbeats 2000000 in
theorem ybti(gv:Value)(g:Gr)(a:Nat)(w:World)(hg:GrAt w gv g)(r:ybh g)(N:a<g.ports.length) :
 Calls zH 142 #[gv,.int .i64 a] w (ydju (ydy g a) w):=by
 have U:=r.2.1;have Hgood:=zC r
 clear r
 obtain⟨i,p,rfl,hi,hp⟩:=hg;obtain⟨A2,c2,rfl,d5,d6⟩:=ycc hp;have Hp:=zC hp
 clear hi hp
 have b7:=ybiy g.ports.length (by omega)
 go_enter Tryz.func142,Tryz.ntmps142
 go_wp2
 go_loopg [17] g.ports.length (fun q t wr=>∃k:Nat,q+k=g.ports.length/\t = .int .i64 k/\Hid (Below (w.heap.size+1) (w.alloc (.cells #[i,.slice A2 g.ports.length c2] 27)) wr)/\Hid (IBlk wr (w.heap.size+1) (zW k (-1)++zW (g.ports.length-k) 0)))
 case atStart =>
  refine⟨0,by omega,rfl,zC ((Below.refl _ _).alloc (by simp) _),zC ?_⟩
  have:=IBlk.new (w.alloc (.cells #[i,.slice A2 g.ports.length c2] 27)) (zW g.ports.length (0:Int))
  simpa using this
 case round =>
  obtain⟨k,hq,rfl,c,b⟩:=hrel
  by_cases B:k<g.ports.length
  .obtain⟨x,L⟩:∃x,wr.cell? ⟨w.heap.size+1,k,none⟩=some (.int .i64 x):=⟨_,b.out.cell (by simp;omega)⟩
   have hf:=b.out.frozen k
   go_wp2
   go_roundg (gk-1)
   case measure=>omega
   case rel =>
    refine⟨k+1,by omega,by go_num,zC (c.out.setCell (by simp) _),zC ?_⟩
    have:=b.out.set_ k (-1)
    rwa [ycbb _ _ B]at this
  .obtain rfl:k=g.ports.length:=by omega
   have m:IBlk wr (w.heap.size+1) (zW g.ports.length (-1)):=by simpa using b.out
   obtain⟨x,L⟩:∃x,wr.cell? ⟨w.heap.size+1,a,none⟩=some (.int .i64 x):=⟨_,m.cell (by simpa using N)⟩
   have hf:=m.frozen a;have Hb0:=zC m
   clear m b b7
   go_wp2
   go_loopg [7] (1+yku (start g a)) (fun q t wr=>∃R Q,q=Q.length+yku R/\q<=30/\Hid (Below (w.heap.size+1) (w.alloc (.cells #[i,.slice A2 g.ports.length c2] 27)) wr)/\Hid (IBlk wr (w.heap.size+1) R)/\Hid (BfsInv g a R Q)/\Hid (Owns wr (w.heap.size+2) 3 1 t Q.length (Q.map (fun q:Nat=>Value.int .i64 (q:Int)))))
   case atStart =>
    refine⟨start g a,[a],rfl,ybca g a U,zC ((c.out.setCell (by simp) _).alloc (by have:=c.out.size;simp at this ⊢;omega) _),zC ((Hb0.out.set_ a 0).alloc _),zC (BfsInv.start N),zC ?_⟩
    refine⟨rfl,.inr ⟨_,0,1,#[.int .i64 (a:Int)],rfl,?_,?_,zI _,by simp[maxLen],by simp,?_⟩⟩
    .have:=Hb0.out.lt;simp;omega
    .have:=heap_alloc_new (wr.setCell ⟨w.heap.size+1,a,none⟩ (.int .i64 0)) (.cells #[.int .i64 (a:Int)] 3);simpa using this
    .intro j u hu
     simpa using hu
   case round =>
    clear c Hb0 L hf
    obtain⟨R,Q,hq,d2,c,b,f,hown⟩:=hrel;obtain⟨AQ,cQ,rfl⟩:=hown.out.val;cases Q with
    | nil =>
      have Hd:=zC (f.out.isDist.unique (yjb Hgood.out N))
      go_wp2
      go_ret
      have h:=b.out.ints (fun x L=>by have:=f.out.isDist.bound Hgood.out N x L;unfold I64;omega) (by rw[f.out.len];omega)
      rw[f.out.len,Hd.out]at h;exact⟨_,rfl,h,(box2 c.out).2.2.1⟩
    | cons v Q =>
      obtain⟨gQ,oQ,d4,hv,e1,e2,b1,b4,o⟩:=hown.out.form (by simp)
      cases hv
      have O:=o 0 (.int .i64 (v:Int)) rfl;simp only[Nat.add_zero]at O;have a7:=zC o;obtain⟨d,hd⟩:=f.out.qin v (by simp)
      have a3:v<g.ports.length:=by rw[<-f.out.len];exact(List.getElem?_eq_some_iff.1 hd).1
      obtain⟨q0,q1,n,a0⟩:=box2 c.out;obtain⟨b2,a6,lv,rfl,d7,E,D⟩:=yqs Hp.out (zG a3);have S:=ynb n _ _ E
      clear E
      obtain⟨A3,c3,rfl,b6,e3⟩:=ycc D;obtain⟨z,s⟩:∃z,g.ports[v]=z:=⟨_,rfl⟩;have Hlp:=zC (show g.ports[v]?=some z by rw[zG a3,s])
      rw[s]at D S b6;have Hls:=zC D;have Hin:=zC (f.out.pop hd z);have M:=zC n
      clear s D n o f hd
      simp only[zCF]at hq b1 hown O;obtain⟨i0,H,a4,K,a5⟩:=info_parts ybsk;obtain⟨vQ,Y,J,V⟩:=ycmc (P:=zH) zCA H K hown.out (k:=1) (by simp) (by simp)
      simp only[Nat.add_sub_cancel,zDA,zAU,List.drop_succ_cons,zCQ]at J;have Z:∀W,(Instr.slice 22 (.slice (some ⟨gQ,oQ,none⟩) (Q.length+1) cQ) (some (.int .i64 1)) none none).run zH W = .ok vQ W:=fun W=>by simpa using Y W
      have HoQ:=zC J;have Hi0:=zC (show _/\_/\_/\_ from⟨H,a4,K,a5⟩)
      clear J hown Y V H a4 K a5
      unfold maxLen at b4
      go_wp2
      clear Z
      obtain⟨go,rfl⟩:∃go,go=gk:=⟨_,rfl⟩
      go_loopg [43,7] z.length (fun q t tq wr=>∃(k:Nat) (R:List Int) (Q:List Nat),q+k=z.length/\t = .int .i64 k/\Hid (go=Q.length+1+yku R)/\Hid (Below (w.heap.size+1) (w.alloc (.cells #[i,.slice (some ⟨b2,a6,none⟩) g.ports.length c2] 27)) wr)/\Hid (IBlk wr (w.heap.size+1) R)/\Hid (BfsIn g a v d z k R Q)/\Hid (Owns wr (w.heap.size+2) 3 1 tq Q.length (Q.map (fun q:Nat=>Value.int .i64 (q:Int)))))
      case atStart=>exact⟨0,R,Q,by omega,rfl,zC (by omega),c,b,Hin,HoQ⟩
      case round =>
       clear c b Hin HoQ hq S q0 q1 M a0
       obtain⟨k,R,Q,hq,rfl,Hgk,c,b,Hin,HoQ⟩:=hrel
       by_cases B:k<z.length
       .obtain⟨q0,q1,n,a0⟩:=box2 c.out;have M:=zC n;obtain⟨A4,c4,e4,_,_,hE⟩:=Hls.out.below Stable.link n;cases e4
        obtain⟨b3,d3,rfl,d8,hE⟩:=hE (by omega)
        obtain⟨⟨l1,wt⟩,s⟩:∃l,z[k]=l:=⟨_,rfl⟩;have I:z[k]?=some (l1,wt):=by rw[zG B,s]
        obtain⟨c8,c9,⟨b9,c0⟩,⟨c6,c7⟩⟩:=hE k _ I;obtain⟨k1,k2,k3,k4,k5⟩:=Hgood.out.link Hlp.out (zBR I);simp only at k1 k2 k3 k4 k5 c8 c9 b9 c0 c6 c7;obtain⟨u,rfl⟩:=zAE k1;have a1:u<R.length:=by rw[Hin.out.len];omega
        have a2:v<R.length:=by rw[Hin.out.len];omega
        have G:R[v]?=some (d:Int):=Hin.out.rv;have b0:=b.out.cell a2;rw[show R[v]=(d:Int)by have:=zG a2;rw[G]at this;exact(Option.some.inj this).symm]at b0
        have d9:=b.out.cell a1;have e0:=b.out.frozen u
        have d0:d<g.ports.length:=by
         rcases Hin.out.val v _ G with e|⟨k',e,h1,h2⟩
         .omega
         .obtain rfl:d=k':=by omega
          exact ybeb Hgood.out N h1 h2
        have y:z[k].1=(u:Int):=by rw[s]
        have A:R[u]?=some R[u]:=zG a1;have hB:w.heap.size+1<wr.heap.size:=b.out.lt
        clear hE I s n k1 k3 G
        by_cases d1:R[u]<0
        .have F:R[u]?=some (-1):=by
          rcases Hin.out.val u _ A with e|⟨k',e,_⟩
          .exact A.trans (congrArg some e)
          .exact absurd e (by omega)
         have Hd:=zC (Hin.out.discover Hlp.out B y F);have Hun:=zC (ybmp (R:=R) (u:=u) (x:=(d:Int)+1) F (by omega))
         clear A F y
         go_wp2
         go_region
         go_wp2_with (at_builtin;refine ypr _ rfl _ _ 22 rfl (w.heap.size+2) 3 i0 (.int .i64 0) 1 8 zCA Hi0.out.1 Hi0.out.2.1 Hi0.out.2.2.1 Hi0.out.2.2.2 rfl (by decide) u7 Q.length (Q.map (fun q:Nat=>Value.int .i64 (q:Int))) (by rfl) ?hown _ 1 1 [.int .i64 (u:Int)] (by rfl) rfl ?c1 ?c2 ?c3 ?c4 ?c5 ?_)
         case hown=>exact(((HoQ.out.low (p:=⟨w.heap.size+1,u,none⟩) (by simp) _).alloc _).alloc _).drew
         case c1=>exact ycok (by simp)
         case c2=>simp[Value.oneCell']
         case c3=>have:=Hgk.out;simp only[maxLen];omega
         case c4=>have:=Hgk.out;omega
         case c5=>simp;omega
         intro e5 w' C T b8;have hgo:=Hgk.out;have Hown:=zC C;have Hgr:=zC T
         clear C T b8
         go_wp2
         go_roundg (gk-1)
         case measure=>omega
         case rel =>
          have a9:=(((c.out.setCell (p:=⟨w.heap.size+1,u,none⟩) (by simp) (.int .i64 ((d:Int)+1))).alloc (by simp;omega) (.cells #[.int .i64 (u:Int),.int .i64 wt] 68)).alloc (by simp;omega) (.cells #[.int .i64 (u:Int)] 3)).drew
          have b5:=((((b.out.set_ u ((d:Int)+1)).alloc (.cells #[.int .i64 (u:Int),.int .i64 wt] 68)).alloc (.cells #[.int .i64 (u:Int)] 3)).drew);refine⟨k+1,R.set u ((d:Int)+1),Q++[u],by omega,by go_num,zC ?_,zC (a9.grown Hgr.out (by simp;omega) (fun x L=>?_)),zC (b5.grown Hgr.out (fun e=>?_)),Hd,zC ?_⟩
          .have:=Hun.out;simp;omega
          .have:=(HoQ.out.lt L).1;omega
          .have:=(HoQ.out.lt e.symm).1;omega
          .have:=Hown.out
           simpa using this
        .have X:0<=R[u]:=by omega
         obtain⟨j,hj⟩:=zAE X;have a8:=zC (Hin.out.skip B (j:=j) (by rw[y,zX,A,hj]))
         clear A y hj
         go_wp2
         have hgo:=Hgk.out
         go_roundg (gk-1)
         case measure=>omega
         case rel=>exact⟨k+1,R,Q,by omega,by go_num,Hgk,zC (c.out.alloc (by omega) _),zC (b.out.alloc _),a8,zC (HoQ.out.alloc _)⟩
       .obtain rfl:k=z.length:=by omega
        go_wp2
        have hgo:=Hgk.out
        go_roundg (Q.length+yku R)
        case measure=>omega
        case rel=>exact⟨R,Q,rfl,by omega,c,b,zC (Hin.out.finish Hlp.out),HoQ⟩
end
section
open Go.RowKit
theorem ybgf:zCB=Array.replicate 256 (.bool false):=by kernel_rfl
def Seen(w:World)(g:Nat)(S:List Int):Prop:=∃a,w.heap[g]?=some (.cells a 241 (0,0))/\a.size=256/\∀i:Nat,i<256->a[i]?=some (.bool (decide ((i:Int)∈S)))
theorem Seen.cell{w:World}{g:Nat}{S:List Int}(h:Seen w g S){i:Nat}(d:i<256):w.cell? ⟨g,i,none⟩=some (.bool (decide ((i:Int)∈S))):=by
 obtain⟨a,b,e,c⟩:=h;simp[World.cell?,b,c i d]
theorem Seen.frozen{w:World}{g:Nat}{S:List Int}(h:Seen w g S)(i:Nat):w.frozen? ⟨g,i,none⟩=false:=by
 obtain⟨a,b,c,d⟩:=h;simp[World.frozen?,b]
theorem Seen.set_{w:World}{g:Nat}{S:List Int}(h:Seen w g S){i:Nat}:Seen (w.setCell ⟨g,i,none⟩ (.bool true)) g (S++[(i:Int)]):=by
 obtain⟨a,b,c,d⟩:=h;refine⟨a.setIfInBounds i (.bool true),by simp[World.setCell,Array.getElem?_modify,b],by simp[c],fun j e=>?_⟩
 rw[Array.getElem?_setIfInBounds];split
 .subst_vars
  rw[if_pos (by omega)]
  simp
 .rw[d j e];congr 3;simp;omega
theorem Seen.start(w:World):Seen (w.alloc (.cells zCB 241)) w.heap.size []:=by
 refine⟨_,heap_alloc_new w _,by rw[ybgf];simp,fun i a=>?_⟩
 rw[ybgf];simp[a]
def yblz(ids:List Int):Bool:=decide ((∀x∈ids,0<=x/\x<=255)/\ids.Nodup)
def yxa(ids:List Int)(k:Nat):Prop:=(∀x∈ids.take k,0<=x/\x<=255)/\(ids.take k).Nodup
theorem ycji{ids:List Int}{k:Nat}(hk:k<ids.length):yxa ids (k+1)↔yxa ids k/\(0<=ids[k]/\ids[k]<=255)/\ids[k]∉ids.take k:=by
 unfold yxa;rw[take_snoc ids k hk,zBJ];constructor
 .rintro⟨d,f,_,g⟩;exact⟨⟨fun x c=>d x (List.mem_append_left _ c),f⟩,d _ (List.mem_append_right _ (by simp)),fun l=>g _ l _ (by simp) rfl⟩
 .rintro⟨⟨d,f⟩,g,i⟩;refine⟨fun x c=>?_,f,by simp,fun a j b h e=>?_⟩
  .rcases List.mem_append.1 c with c|c
   .exact d x c
   .simp at c;subst c;exact g
  .simp at h;subst h e;exact i j
theorem ybmg{ids:List Int}{k:Nat}(h:¬yxa ids k):yblz ids=false:=by
 unfold yblz;rw[decide_eq_false_iff_not];exact fun a=>h ⟨fun x b=>a.1 x (zAN b),a.2.sublist (List.take_sublist _ _)⟩
theorem ybwi{ids:List Int}(h:yxa ids ids.length):yblz ids=true:=by
 unfold yxa at h;rw[zZ]at h;exact decide_eq_true h
set_option maxRecDepth 100000 in
set_option maxHeartbeats 1000000 in
theorem yus(s:Value)(ids:List Int)(w:World)(o:yqz w s ids) :
 Calls zH 174 #[s] w fun e F=>e = .returned (.bool (yblz ids))/\Below w.heap.size w F:=by
 obtain⟨A,c,rfl,y,z⟩:=ycc o;have Hi:=zC o
 clear o
 go_enter Tryz.func174,Tryz.ntmps174
 go_wp2
 go_loopg [8] ids.length (fun q t wr=>∃k:Nat,q+k=ids.length/\t = .int .i64 k/\Hid (Below w.heap.size w wr)/\Hid (Seen wr w.heap.size (ids.take k))/\Hid (yxa ids k))
 case atStart=>exact⟨0,by omega,rfl,zC ((Below.refl _ _).alloc (zI _) _),zC (Seen.start w),zC ⟨by simp,by simp⟩⟩
 case round =>
  obtain⟨k,H,rfl,a,d,l⟩:=hrel
  by_cases f:k<ids.length
  .obtain⟨b,E,rfl,G,g,r⟩:=yrg (Hi.out.below Stable.int a.out) f;obtain⟨x,p⟩:∃x,ids[k]=x:=⟨_,rfl⟩;have Hsn:=zC (ycji f);rw[p]at g r Hsn;obtain⟨C,D⟩:=r;have Hbad:=zC (fun h=>ybmg (ids:=ids) (k:=k+1) h);have Hts:=zC (take_snoc ids k f);rw[p]at Hts
   clear p
   by_cases c1:0<=x/\x<=255
   .obtain⟨m,v⟩:=c1;obtain⟨n,rfl⟩:=zAE m;have j:=d.out.cell (i:=n) (by omega)
    have B:=d.out.frozen n
    by_cases c2:(n:Int)∈ids.take k
    .rw[decide_eq_true c2]at j;have Hf:=zC (Hbad.out (fun h=>(Hsn.out.1 h).2.2 c2))
     clear c2
     go_wp2
     go_ret
     exact⟨ybv Hf.out.symm,a.out⟩
    .rw[decide_eq_false c2]at j;have u:=zC (Hsn.out.2 ⟨l.out,⟨by omega,by omega⟩,c2⟩)
     clear c2
     go_wp2
     go_roundg (gk-1)
     case measure=>omega
     case rel =>
      refine⟨k+1,by omega,by go_num,zC (a.out.setCell (zI _) _),zC ?_,u⟩
      rw[Hts.out];exact d.out.set_
   .have Hf:=zC (Hbad.out (fun h=>c1 (Hsn.out.1 h).2.1))
    by_cases c3:x<0
    .clear c1
     go_wp2
     go_ret
     exact⟨ybv Hf.out.symm,a.out⟩
    .have c4:255<x:=by omega
     clear c1
     go_wp2
     go_ret
     exact⟨ybv Hf.out.symm,a.out⟩
  .obtain rfl:k=ids.length:=by omega
   have Ht:=zC (ybwi l.out)
   go_wp2
   go_ret
   exact⟨ybv Ht.out.symm,a.out⟩
theorem ychq(g:Gr)(e:1<=g.ids.length)(f:g.ids.length<=24)(h:g.ports.length=g.ids.length):ylp g=(yblz g.ids&&symB g.ports):=by
 unfold ylp yblz symB;rw[<-Bool.decide_and];congr 1;apply propext;unfold ybh ycog;constructor
 .rintro⟨_,_,_,a,b,c,d⟩;exact⟨⟨a,b⟩,c,d⟩
 .rintro⟨⟨a,b⟩,c,d⟩;exact⟨by omega,by omega,by omega,a,b,c,d⟩
set_option maxHeartbeats 1000000 in
theorem yym(gv:Value)(g:Gr)(w:World)(t:GrAt w gv g) :
 Calls zH 131 #[gv] w fun e v=>e = .returned (.bool (ylp g))/\Below w.heap.size w v:=by
 obtain⟨i,p,rfl,f,j⟩:=t;obtain⟨A,c,rfl,o,q⟩:=ycc f;obtain⟨x,c2,rfl,r,s⟩:=ycc j;have Hi:=zC f;have Hp:=zC j
 clear f j
 by_cases m:1<=g.ids.length
 .by_cases n:g.ids.length<=24
  .by_cases b:g.ports.length=g.ids.length
   .have k:((g.ports.length:Int)!=(g.ids.length:Int))=false:=by simp[b]
    have He:=zC (ychq g m n b);have u:g.ports.length<=24:=by omega
    clear b
    go_enter zAX,zBI
    go_wp2_with fail
    refine(yus _ g.ids _ (Hi.out.below Stable.int ((Below.refl _ _).alloc (zI _) _))).mono ?_;rintro e B ⟨rfl,a⟩;have Hb1:=zC (ycin a);obtain⟨y,z⟩:=yedi a
    clear a
    cases l:yblz g.ids with
    | false =>
      have Hv:=zC (show ylp g=false by rw[He.out,l];rfl)
      go_wp2_with fail
      go_ret
      exact⟨ybv Hv.out.symm,Hb1.out⟩
    | true =>
      have Hv:=zC (show ylp g=symB g.ports by rw[He.out,l];rfl)
      go_wp2_with fail
      refine(yqa _ g.ports _ (Hp.out.below (Stable.sl Stable.link) Hb1.out) (by omega)).mono ?_
      rintro e C ⟨rfl,d⟩
      go_wp2_with fail
      go_ret
      exact⟨ybv Hv.out.symm,Hb1.out.trans (d.mono Hb1.out.size)⟩
   .have k:((g.ports.length:Int)!=(g.ids.length:Int))=true:=by simp;omega
    have Hf:=zC (yjk (g:=g) (fun h=>b h.2.2.symm))
    clear b
    go_enter zAX,zBI
    go_wp2
    go_ret
    exact⟨ybv Hf.out.symm,(Below.refl _ _).alloc (zI _) _⟩
  .have Hf:=zC (yjk (g:=g) (fun h=>n (by omega)))
   go_enter zAX,zBI
   go_wp2
   go_ret
   exact⟨ybv Hf.out.symm,(Below.refl _ _).alloc (zI _) _⟩
 .have Hf:=zC (yjk (g:=g) (fun h=>m (by omega)))
  go_enter zAX,zBI
  go_wp2
  go_ret
  exact⟨ybv Hf.out.symm,(Below.refl _ _).alloc (zI _) _⟩
end
section
namespace Sh
open Go Ev Go.RowKit
theorem ygx{x:Int}(h:-4611686018427387904<=x/\x<=4611686018427387904):I64 x:=by
 unfold I64;omega
theorem ycgz{g:Gr}(d:ybh g):GrI g:=by
 obtain⟨o,p,q,b,r,c,s⟩:=d;refine⟨fun x h=>ygx (by have:=b x h;omega),fun t a l e=>?_⟩
 obtain⟨v,f,rfl⟩:=zY a;obtain⟨i,j,k,m,n⟩:=(c ⟨v,f⟩).1 l e;exact⟨ygx (by omega),ygx (by omega)⟩
theorem ybwd{g:Gr}(e:GrI g):Returns zH 131 [grV g] (.b (ylp g)):=by
 refine ybot ⟨_,_,zAX,rfl⟩ (fun _=>.b) (fun _=>.simple rfl) fun G m n d h o M w l f i j=>?_;obtain⟨u,rfl,a⟩:=rvl1 h;obtain⟨k,rfl,c⟩:=ygg j;exact yym k g w (ydjn d a c f i e)
end Sh
end
section
namespace Sh
open Go Ev Go.RowKit
theorem ycey{g:Gr}(a:ybh g){x:VarR}(b:x.ok=true)(v:Nat):-4096<=(ybj g v x).1/\(ybj g v x).2<=100000:=by
 obtain⟨c,d,e,f,h⟩:=ybui b;obtain⟨i,j⟩:=yyg a b;have k:=a.deg_lt (v:=v);unfold ybj;split
 .exact⟨by simp only[];omega,by simp only[];omega⟩
 .split
  .exact⟨by simp only[];omega,by simp only[];omega⟩
  .split
   .exact⟨by simp only[];omega,by simp only[];omega⟩
   .exact⟨by simp only[];omega,by simp only[];omega⟩
theorem ybpw{p:ProgT}{g:Gr}(e:ybh g)(l:p.ok=true){c:Conf}(f:ydo p g c=true):ConfIn g.ports.length p.vars.length c:=by
 have h:=(yid _ _ _).1 f;have a:=l;unfold ProgT.ok at a;simp only[zF,decide_eq_true_eq]at a;refine⟨h.1.trans e.2.2.1,fun s m=>?_⟩;obtain⟨v,n,rfl⟩:=zY m;have d:=h.2 v _ (zG n);have k:(c[v]).length=p.vars.length:=by have:=d.1;simpa using this
 refine⟨k,fun x o=>?_⟩;obtain⟨i,j,rfl⟩:=zY o;have b:i<p.vars.length:=by omega
 have q:=d.2 i (ybj g v p.vars[i]) _ (by simp[b]) (zG j)
 have r:=ycey e (List.all_eq_true.1 a.1.1.2 _ (zM b)) v;unfold InB;omega
structure Checked(Q1 Q2:(Nat->Option ABlk)->Value->Prop)(p:ProgT)(g:Gr):Prop where
 hg:ybh g
 hp:p.ok=true
 hf:ybgr p g=true
 hV:Returns zH 130 [.ag (yfs Q1 Q2 p.raw)] (.b true)
theorem Checked.gv{Q1 Q2:(Nat->Option ABlk)->Value->Prop}{p:ProgT}{g:Gr}(h:Checked Q1 Q2 p g):Returns zH 131 [grV g] (.b true):=by
 have e:=ybwd (ycgz h.hg);rw[(yta g).2 h.hg]at e;exact e
section
variable {Q1 Q2:(Nat->Option ABlk)->Value->Prop}{p:ProgT}{g:Gr}
theorem ybvm(k:Int):Returns zH 57 [.i .i64 k] (.b (decide (1<=k)&&decide (k<=4))):=by
 refine Returns.of (ydrl _ _ ?_);simp only[c57,ydum,ydxb,yyr,go_sem,zA,zB]
 by_cases h:k>=1<;>simp[h]
end
end Sh
end
section
theorem ypo(s a:Nat):∀b,yik s (a+b)=yik s a+yik (s>>>a) b
 |0=>rfl
 | b+1=>by
   show yik s (a+b)+(s.testBit (a+b)).toNat=_;rw[ypo s a b];show _=yik s a+(yik (s>>>a) b+((s>>>a).testBit b).toNat);rw[Nat.testBit_shiftRight];omega
theorem yso(s:Nat):∀b,b<=8->yik (s&&&255) b=yik s b
 |0,_=>rfl
 | b+1,h=>by
   show yik _ b+_=yik s b+_;rw[yso s b (by omega),Nat.testBit_and,show(255:Nat)=2^8-1 from rfl,Nat.testBit_two_pow_sub_one]
   simp[show b<8 by omega]
theorem ybwt(s:Nat):popP s=yik (s>>>24&&&255) 8+yik (s>>>16&&&255) 8+yik (s>>>8&&&255) 8+yik (s&&&255) 8:=by
 simp only[yso _ 8 (zI _)];have a:=ypo s 8 24;have b:=ypo (s>>>8) 8 16;have c:=ypo (s>>>8>>>8) 8 8;simp only[<-Nat.shiftRight_add,zB]at a b c;unfold popP;omega
namespace Sh
open Ev Go.RowKit
theorem ybcz:∀k,k<256->ybbv.getD k 0=yik k 8:=by decide
theorem ydns:ybbv.length=256:=by decide
theorem ycgi(a v:Nat):(a:Int).fdiv (2^v)=((a>>>v:Nat):Int):=by
 have h:=ydii (a:=a) (v:=v)
 rwa [zX]at h
theorem ycvj{a:Nat}(c:a<2^32):IntKind.wrap .u32 (((zCV (IntKind.bits .u32) (a:Int))&&&zCV (IntKind.bits .u32) 255).toNat:Int)=((a&&&255:Nat):Int):=u32_and (b:=255) c (by decide)
theorem ydvr{a n:Nat}(h:a<2^32):a>>>n<2^32:=by rw[zBM];exact zBX (Nat.div_le_self _ _) h
theorem ybrm{s:Nat}(d:s<2^32):Returns zH 113 [.i .u32 s] (.i .i64 (popP s)):=by
 refine Returns.of (ydgk _ _ ?_);simp only[c113,ydaw,ycvi,clash,go_sem,zAB,zA,zB];have f1:=ycvj d;have f2:=fun n=>ycvj (ydvr (n:=n) d);simp only[IntKind.bits]at f1 f2;simp only[ycgi,f1,f2,zX,ydns];have c:=ybwt s;have g:s>>>24<256:=by rw[zBM];omega
 have b:∀x:Nat,x&&&255<256:=fun x=>zBX Nat.and_le_right (by omega)
 rw[yso (s>>>24) 8 (zI _)]at c;rw[ybcz _ g,ybcz _ (b (s>>>16)),ybcz _ (b (s>>>8)),ybcz _ (b s)];have h:=yod (s>>>24) 8;have j:=yod (s>>>16&&&255) 8;have k:=yod (s>>>8&&&255) 8;have l:=yod (s&&&255) 8;have m:=b (s>>>16);have o:=b (s>>>8);have p:=b s;have a:∀x:Int,0<=x->x<=255->inK .u8 x:=fun x e f=>⟨by simpa[IntKind.min,IntKind.signed]using e,by simpa[IntKind.max,IntKind.bits,IntKind.signed]using f⟩
 refine⟨⟨by omega,by decide⟩,⟨by omega,by omega⟩,⟨by omega,by decide⟩,by omega,a _ (by omega) (by omega),⟨by omega,by decide⟩,by omega,a _ (by omega) (by omega),by omega,a _ (by omega) (by omega),?_⟩
 rw[wrap_in (ikw (by omega) (by omega)),c]
 exact Sim.refl _
def cntV(k:Cnt):List SV:=[.i .i64 k.steps,.i .i64 k.moves,.i .i64 k.rounds,.i .i64 k.begun,.i .u32 k.pend]
def usV(l:List Nat):SV:=.sl 1 l.length (fun k=>[.i .u32 ((l.getD k 0:Nat):Int)])
end Sh
end
section
def netP(ls:List (Int×Int)):Nat:=ls.foldl (fun a l=>a|||2^l.1.toNat) 0
theorem ybyr(ls:List (Int×Int))(k:Nat)(h:k<ls.length):netP (ls.take (k+1))=netP (ls.take k)|||2^(ls.getD k (0,0)).1.toNat:=by
 unfold netP;rw[zAI h,zAL,Sh.getD_at h];rfl
theorem ydmb(ls:List (Int×Int))(h:∀l∈ls,l.1<24):netP ls<2^24:=by
 unfold netP
 have:∀(ls:List (Int×Int)) (a:Nat),(∀l∈ls,l.1<24)->a<2^24->ls.foldl (fun a l=>a|||2^l.1.toNat) a<2^24:=by
  intro ls
  induction ls with
  |nil=>intro a _ h;exact h
  | cons l ls e =>
    intro a b c;refine e _ (fun x d=>b x (zL _ d)) (Nat.or_lt_two_pow c ?_);have:=b l zT;exact zBS (by omega) (by omega)
 exact this ls 0 h (by decide)
namespace Sh
open Ev Go.RowKit
theorem ybvl{g:Gr}(z:ybh g):Returns zH 124 [grV g] (usV (g.ports.map netP)):=by
 refine Returns.of (ydhr _ _ ?_);have M:=z.2.2.1;have N:=z.2.1;simp only[c124,ydfo,ydfi,ydeq,grV,yba,yu,go_sem,zA,zB,zD];refine⟨by omega,?_⟩
 obtain⟨n,s⟩:∃n,g.ports.length=n:=⟨_,rfl⟩
 let val:Nat->Nat->Nat:=fun k i=>if i<k then netP (g.ports.getD i [])else 0
 refine ybf (σ:=Nat) (fun k=>⟨[(15,.i .i64 k),(14,.i .i64 n),(13,yu g.ports),(3,.os (11,0) 0 n true)],
  [(11,.one (some ⟨77,false,1,n,fun i=>[.i .u32 (val k i:Nat)]⟩))]⟩) (fun k=>k<=n) (fun k=>n-k) 0 (zAA _) ?_ ?_
 .refine yw ?_;simp only[yu,s,wk,go_sem,zA,zD];simp[val]
 .intro k hk;obtain⟨L,y⟩:∃L,g.ports.getD k []=L:=⟨_,rfl⟩;simp only[ydcs,ydep,ycsg,yu,ybc,s,y,go_sem,zA,zB];refine⟨fun E=>?_,fun E=>?_⟩
  .have I:k<n:=by omega
   have p:k<g.ports.length:=by omega
   have r:∀l∈L,0<=l.1/\l.1<24:=fun l d=>by
    rw[<-y,getD_at p]at d;obtain⟨H,K,_⟩:=(z.2.2.2.2.2.1 ⟨k,p⟩).1 l d;exact⟨H,by omega⟩
   have h:=z.deg_lt (v:=k);rw[y]at h;refine⟨by omega,?_⟩
   obtain⟨m,B⟩:∃m,L.length=m:=⟨_,rfl⟩;rw[B]
   let c:Nat->Nat->Nat:=fun j i=>if i<k then netP (g.ports.getD i [])else if i=k then netP (L.take j)else 0
   refine ybf (σ:=Nat) (fun j=>⟨[(22,.i .i64 j),(21,.i .i64 m),(20,ybc L),(4,.i .i64 k),(15,.i .i64 k),(14,.i .i64 n),(13,yu g.ports),(3,.os (11,0) 0 n true)],
    [(11,.one (some ⟨77,false,1,n,fun i=>[.i .u32 (c j i:Nat)]⟩))]⟩) (fun j=>j<=m) (fun j=>m-j) 0 (zAA _) ?_ ?_
   .refine yw ?_;simp only[yu,ybc,s,B,wk,go_sem,zA,zD];intro i A;simp only[val,c]
    by_cases q:i<k
    .rw[if_pos q,if_pos q]
    .rw[if_neg q,if_neg q]
     by_cases e:i=k
     .rw[if_pos e];rfl
     .rw[if_neg e]
   .intro j O;obtain⟨l,d⟩:∃l,L.getD j (0,0)=l:=⟨_,rfl⟩;simp only[ycxz,ycwx,yu,ybc,s,B,d,go_sem,zA,zB,zD];refine⟨fun D=>⟨by omega,?_⟩,fun D=>?_⟩
    .have o:j<L.length:=by omega
     have J:=r l (by rw[<-d,getD_at o];exact zM _)
     obtain⟨t,F⟩:∃t:Nat,l.1=t:=⟨l.1.toNat,by omega⟩
     have f:t<24:=by omega
     have G:c j k<2^24:=by
      simp only[c,if_neg (zCT k),if_true];exact ydmb _ fun l d=>(r l (zAN d)).2
     have P:2^t<2^24:=zBS (by omega) f
     have w:=ybqs (v:=t) (by omega)
     have u:=u32_or (a:=c j k) (b:=2^t) (by omega) (by omega)
     rw[zX]at w;simp only[IntKind.bits]at u;simp only[ydal,F,clash,w,u,go_sem,zA,zB,zK];refine⟨by omega,by omega,⟨by omega,by show _<((32:Nat):Int);omega⟩,by omega,by omega,by decide,?_⟩
     simp only[yden,go_sem,zA,zB];refine⟨ikw (by omega) (by omega),?_⟩
     refine ybz (j+1) ?_;refine yw ?_;simp only[wk,go_sem,zA,zD];refine⟨by omega,fun i A=>?_⟩
     have x:=ybyr L j o;rw[d,F,zX]at x
     by_cases q:i=k
     .simp only[if_pos q];subst q;simp only[go_sem,wk,go_sem];simp only[c,if_neg (zCT i),if_true,x]
     .simp only[if_neg q];simp only[go_sem,wk,go_sem];simp only[c,if_neg q]
    .obtain rfl:j=m:=by omega
     simp only[ycib,go_sem,zA,zB];refine⟨ikw (by omega) (by omega),?_⟩
     refine ybz (k+1) ?_;refine yw ?_;simp only[wk,go_sem,zA,zD];refine⟨by omega,fun i A=>?_⟩
     simp only[val,c]
     by_cases q:i<k
     .rw[if_pos q,if_pos (by omega)]
     .rw[if_neg q]
      by_cases e:i=k
      .rw[if_pos e,if_pos (by omega),e,y,<-B,zZ]
      .rw[if_neg e,if_neg (by omega)]
  .obtain rfl:k=n:=by omega
   simp only[ybxt,go_sem,zA,zB];unfold usV;rw[zAC,s];refine ybre fun i A=>?_;have C:i<g.ports.length:=by omega
   simp only[val,if_pos A];simp[zJ,C]
theorem ybgi(net:SV){e s:Nat}(h:e<2^24)(g:s≠0)(j:s<2^24)(c:difB s e=0):Returns zH 171 [net,.i .i64 3,.i .u32 e,.i .u32 s] (.b true):=by
 refine Returns.of (ydnv _ _ ?_);have f:((s:Int)==0)=false:=by simp;omega
 have d:=u32_andNot (a:=s) (b:=e) (by omega) (by omega)
 rw[c]at d;simp only[zCG,IntKind.bits]at d;simp only[c171,ycyg,yddb,f,d,Int.reduceBNe,go_sem,zA,zB];simp only[yczz,yczq,ydet,ycvr,ycfl,Int.reduceBEq,yyr,go_sem,zA,zB]
end Sh
end
section
namespace Sh
open Go Ev
def ydxq:LO:=[mc 0 4 0]
def ydsa:LO:=[mv' 1 5 0,bc .lss 5 1 6 1]
def ydul:LO:=[mc 0 4 0]
def ydut:LO:=[mv' 0 7 0,mv' 1 8 0,bn' .rem 7 8 9 3,mv' 9 0 7]
def yecz:LO:=[mv' 0 10 0,bc .lss 10 0 11 1]
def yduk:LO:=[mv' 0 12 0,mv' 1 13 0,bn' .add 12 13 14 3,mv' 14 0 7]
def ydwb:LO:=[mv' 0 15 0,mv' 15 4 1]
def c49:SC:=(sr ydxq <| .seq (sr ydsa <| cn 6 (sr ydul <| .ret) .skip) (sr ydut <| .seq (sr yecz <| cn 11 (.reg false yduk) .skip) (sr ydwb <| .ret)))
theorem yebd:Fn 49 c49 [.t 4]:=fn_0 Tryz.func49
def ydqv:LO:=[mc 0 4 0]
def ydte:LO:=[mv' 1 5 0,mv' 0 6 0,ln' 6 7 2,bn' .lss 5 7 8 7]
def ydvv:LO:=[mv' 0 9 0,mv' 1 10 0,ix' 1 9 10 11 3,ld' 1 11 12 7,mv' 12 4 15]
def ydwe:LO:=[mc 0 4 0]
def c50:SC:=(sr ydqv <| .seq (sr ydte <| cn 8 (sr ydvv <| .ret) .skip) (sr ydwe <| .ret))
theorem yebu:Fn 50 c50 [.t 4]:=fn_0 Tryz.func50
def ycvs:LO:=[bx' 27 0 3 0,mb false 6 0]
def ycua:LO:=[mc 0 7 0]
def ycwk:LO:=[mv' 7 8 0,fa' 1 1 3 9 0,ld' 1 9 10 2,mv' 1 11 0,ix' 1 10 11 12 14,ld' 1 12 13 30,ln' 13 14 62,bn' .lss 8 14 15 127]
def ydds:LO:=[fa' 1 1 3 18 0,ld' 1 18 19 1,mv' 1 20 0,ix' 1 19 20 21 7,ld' 1 21 22 15,mv' 7 23 0,ix' 2 22 23 24 63,fa' 0 1 24 25 127,ld' 1 25 26 255,mv' 2 27 0,bn' .eql 26 27 28 1023]
def ydaj:LO:=[mb true 6 0]
def ycrd:LO:=[mv' 7 16 0,bc .add 16 1 17 1,mv' 17 7 3]
def ycya:LO:=[mb false 6 0]
def c116:SC:=(sr ycvs <| .seq (sr ycua <| .block 0 (.loop (.seq (sr ycwk <| cn 15 .skip (.exit 0)) (.seq (.block 1 (sr ydds <| cn 28 (sr ydaj <| .ret) .skip)) (.reg false ycrd))))) (sr ycya <| .ret))
theorem ydnw:Fn 116 c116 [.t 6]:=fn_0 Tryz.func116
def ydhp:LO:=[bx' 24 0 5 0,bx' 27 1 6 0]
def ydiy:LO:=[mv' 2 12 0,mv' 3 13 0,bn' .eql 12 13 14 3,mv' 14 15 7,gf (.load true 2 (.tmp 6)) 16 15 15,gf (.mv (.tmp 2)) 17 15 15,gf (.mv (.tmp 3)) 18 15 15,gf (.call (.func 116) [(.tmp 16),(.tmp 17),(.tmp 18)]) 19 15 127,pk' 15 19 20 255]
def ybud:LO:=[mv' 3 21 0,mv' 4 22 0,o3 (.build [.i .i64 0,.i .i64 0] [(0,1,(.tmp 21)),(1,1,(.tmp 22))]) 23 3,mv' 2 24 0,mv' 4 25 0,o3 (.build [.i .i64 0,.i .i64 0] [(0,1,(.tmp 24)),(1,1,(.tmp 25))]) 26 24,o3 (.alloc 68 1 [.i .i64 0,.i .i64 0]) 10 0,o3 (.alloc 68 1 [.i .i64 0,.i .i64 0]) 11 0,sto 2 10 23 199,sto 2 11 26 511]
def ybve:LO:=[fa' 5 1 5 27 0,ld' 1 27 28 1]
def ybyg:LO:=[fa' 1 1 6 29 0,ld' 1 29 30 1,mv' 2 31 0,la' 2 10 32 0,o3 (.bslice 68 2 1 [.i .i64 0,.i .i64 0] [(0,2,(.tmp 32))]) 33 8,fa' 1 1 6 34 0,ld' 1 34 35 32,mv' 2 36 0,ix' 1 35 36 37 224,ld' 1 37 38 480,o3 (.app 68 2 16 (.tmp 33) (.tmp 38)) 39 1016,ix' 1 30 31 40 2047,sto 1 40 39 4095]
def ychj:LO:=[fa' 1 1 6 41 0,ld' 1 41 42 1,mv' 3 43 0,la' 2 11 44 0,o3 (.bslice 68 2 1 [.i .i64 0,.i .i64 0] [(0,2,(.tmp 44))]) 45 8,fa' 1 1 6 46 0,ld' 1 46 47 32,mv' 3 48 0,ix' 1 47 48 49 224,ld' 1 49 50 480,o3 (.app 68 2 16 (.tmp 45) (.tmp 50)) 51 1016,ix' 1 42 43 52 2047,sto 1 52 51 4095]
def ydqu:LO:=[fa' 1 1 6 53 0,ld' 1 53 54 1,mv' 2 55 0,fa' 1 1 6 56 0,ld' 1 56 57 8,mv' 3 58 0,fa' 1 1 6 59 0,ld' 1 59 60 64,mv' 2 61 0,ix' 1 60 61 62 448,ld' 1 62 63 960,la' 2 10 64 0,o3 (.bslice 68 2 1 [.i .i64 0,.i .i64 0] [(0,2,(.tmp 64))]) 65 2048,o3 (.app 68 2 16 (.tmp 63) (.tmp 65)) 66 8128,fa' 1 1 6 67 0,ld' 1 67 68 16384,mv' 3 69 0,ix' 1 68 69 70 114688,ld' 1 70 71 245760,la' 2 11 72 0,o3 (.bslice 68 2 1 [.i .i64 0,.i .i64 0] [(0,2,(.tmp 72))]) 73 524288,o3 (.app 68 2 16 (.tmp 71) (.tmp 73)) 74 2097088,ix' 1 54 55 75 4194247,sto 1 75 66 8388551,ix' 1 57 58 76 16777215,sto 1 76 74 33554431]
def c48:SC:=(sr ydhp <| .seq (sr ydiy <| cn 20 .ret .skip) (sr ybud <| .seq (sr ybve <| cn 28 (.seq (.reg true ybyg) (.seq (.reg true ychj) .ret)) .skip) (.reg true ydqu)))
theorem ydgh:FnM 48 c48 []:=fn_m Tryz.func48
def ydts:LO:=[bx' 24 0 2 0,o3 (.alloc 27 1 [.a (.slice none 0 0),.a (.slice none 0 0)]) 4 0]
def ydtb:LO:=[fa' 0 1 2 10 0,ld' 1 10 11 1,o3 (.wsub (.tmp 11) (ci' 1)) 12 3,mv' 1 13 0,cl' 49 [12,13] 14 15,o3 (.bin .add (ci' 1) (.tmp 14)) 15 31,mv' 15 5 63]
def yecy:LO:=[mv' 5 16 0,o3 (.mk 135 1 24 [.a (.slice none 0 0)] (.tmp 16) (.tmp 16)) 17 1,o3 (.build [.a (.slice none 0 0),.a (.slice none 0 0)] [(1,1,(.tmp 17))]) 18 3,o3 (.alloc 27 1 [.a (.slice none 0 0),.a (.slice none 0 0)]) 6 0,sto 2 6 18 15]
def yedh:LO:=[mc 0 7 0]
def ydtd:LO:=[mv' 7 19 0,mv' 5 20 0,bn' .lss 19 20 21 3]
def ydxk:LO:=[fa' 3 1 2 24 0,ld' 1 24 25 1,mv' 7 26 0,cl' 50 [25,26] 27 7,o3 (.call (.func 49) [(.tmp 27),(ci' 256)]) 28 15,mv' 28 8 31]
def ydps:LO:=[mc 0 9 0]
def yeai:LO:=[mv' 9 29 0,mv' 7 30 0,bn' .lss 29 30 31 3]
def ycwf:LO:=[fa' 0 1 6 34 0,ld' 1 34 35 1,mv' 9 36 0,ix' 1 35 36 37 7,ld' 1 37 38 15,mv' 8 39 0,bn' .eql 38 39 40 63]
def ydaz:LO:=[mv' 8 41 0,bc .add 41 1 42 1,bc .rem 42 256 43 3,mv' 43 8 7,mc (-1) 9 15]
def yecn:LO:=[mv' 9 32 0,bc .add 32 1 33 1,mv' 33 9 3]
def yctq:LO:=[fa' 0 1 6 44 0,ld' 1 44 45 1,mv' 8 46 0,o3 (.bslice 3 1 1 [.i .i64 0] [(0,1,(.tmp 46))]) 47 4,o3 (.app 3 1 8 (.tmp 45) (.tmp 47)) 48 15,fa' 0 1 6 49 31,sto 1 49 48 63]
def ydsk:LO:=[mv' 7 22 0,bc .add 22 1 23 1,mv' 23 7 3]
def ydca:LO:=[la' 2 6 50 0,sto 2 4 50 1]
def c47:SC:=(sr ydts <| sr ydtb <| sr yecy <| .seq (sr yedh <| .block 0 (.loop (.seq (sr ydtd <| cn 21 .skip (.exit 0)) (.seq (.block 1 (sr ydxk <| .seq (sr ydps <| .block 2 (.loop (.seq (sr yeai <| cn 31 .skip (.exit 2)) (.seq (.block 3 (sr ycwf <| cn 40 (.reg false ydaz) .skip)) (.reg false yecn))))) (.reg false yctq))) (.reg false ydsk))))) (sr ydca <| .ret))
theorem ydhl:FnM 47 c47 [.c 4 true 2]:=fn_m Tryz.func47
def yebj:LO:=[bx' 24 0 2 0,o3 (.alloc 27 1 [.a (.slice none 0 0),.a (.slice none 0 0)]) 4 0]
def ydtr:LO:=[la' 6 2 7 0,mv' 1 8 0,cl' 47 [7,8] 9 3,o3 (.alloc 27 1 [.a (.slice none 0 0),.a (.slice none 0 0)]) 5 0,sto 2 5 9 15]
def ydva:LO:=[mc 1 6 0]
def ydlz:LO:=[mv' 6 10 0,fa' 1 1 5 11 0,ld' 1 11 12 2,ln' 12 13 6,bn' .lss 10 13 14 15]
def ydrw:LO:=[la' 6 2 17 0,la' 2 5 18 0,fa' 1 1 2 19 0,ld' 1 19 20 4,mv' 6 21 0,bc .sub 21 1 22 16,cl' 50 [20,22] 23 60,mv' 6 24 0,cl' 49 [23,24] 25 252,mv' 6 26 0,fa' 2 1 2 27 0,ld' 1 27 28 1024,mv' 6 29 0,bc .sub 29 1 30 4096,cl' 50 [28,30] 31 15868,o3 (.call (.func 49) [(.tmp 31),(ci' 15)]) 32 32252,o3 (.bin .add (ci' 1) (.tmp 32)) 33 65020,cl' 48 [17,18,25,26,33] 34 131071]
def ydwy:LO:=[mv' 6 15 0,bc .add 15 1 16 1,mv' 16 6 3]
def yebf:LO:=[la' 2 5 35 0,sto 2 4 35 1]
def c10:SC:=(sr yebj <| sr ydtr <| .seq (sr ydva <| .block 0 (.loop (.seq (sr ydlz <| cn 14 .skip (.exit 0)) (.seq (.block 1 (.reg true ydrw)) (.reg false ydwy))))) (sr yebf <| .ret))
theorem ydix:FnM 10 c10 [.c 4 true 2]:=fn_m Tryz.func10
end Sh
end
section
namespace Sh
open Ev Go.RowKit
instance:Inhabited Cnt:=⟨⟨0,0,0,0,0⟩⟩
structure DaemonOk(kind:Int)(net:List Nat)(res:Nat->Nat->Nat):Prop where
 resolve:∀(e w:Nat),e<2^24->e<2^net.length->e≠0->w<2^32->Returns zH 0 [usV net,.i .i64 kind,.i .u32 e,.i .u32 w] (.i .u32 (res e w))
 permits:∀(e w:Nat),e<2^24->e<2^net.length->e≠0->w<2^32->Returns zH 171 [usV net,.i .i64 kind,.i .u32 e,.i .u32 (res e w)] (.b true)
 zero:∀(w:Nat),w<2^32->∃x:Nat,Returns zH 0 [usV net,.i .i64 kind,.i .u32 0,.i .u32 w] (.i .u32 x)
 sub:∀(e w:Nat),e≠0->e<2^24->res e w≠0/\subB (res e w) e
theorem ybdz{s e n:Nat}(h:subB s e)(b:e<2^n):s<2^n:=by
 refine Nat.lt_pow_two_of_testBit _ fun i c=>?_;cases a:s.testBit i with
 |false=>rfl
 | true =>
   have:=h i a;rw[zBP (zAJ b (zBT (by omega) c))]at this
   cases this
end Sh
end
section
theorem yckk{kind:Int}{b:Int×Int}(c:b.1<=b.2)(a:kind=3->b.1 <= -1 /\ -1<=b.2)(x:Int):b.1<=yjh kind b x/\yjh kind b x<=b.2:=by
 unfold yjh;split
 .assumption
 .split
  .exact a (by assumption)
  .split<;>omega
namespace Sh
theorem ycpv{p:ProgT}{g:Gr}(j:ybh g)(i:p.ok=true)(f:ybgr p g=true){x:VarR}(d:x∈p.vars)(v:Nat):(ybj g v x).1<=(ybj g v x).2/\(x.kind=3->(ybj g v x).1 <= -1 /\ -1<=(ybj g v x).2):=by
 have c:=List.all_eq_true.1 f x d;have a:=i;unfold ProgT.ok at a;simp only[zF,decide_eq_true_eq]at a;have b:=ybui (List.all_eq_true.1 a.1.1.2 _ d);rcases b.1 with h|h|h
 .have e:ybj g v x=ybj g 0 x:=by unfold ybj;rw[if_pos h,if_pos h]
  rw[e];simp[h]at c;exact⟨c.1,fun q=>by omega⟩
 .unfold ybj;rw[if_neg (by omega),if_pos h]
  exact⟨by decide,fun q=>by omega⟩
 .unfold ybj;rw[if_neg (by omega),if_neg (by omega),if_pos h]
  exact⟨by simp only[];omega,fun _=>⟨by simp only[];omega,by simp only[];omega⟩⟩
theorem ychb{p:ProgT}{g:Gr}(l:ybh g)(n:p.ok=true)(k:ybgr p g=true){v:Nat}{s:List Int}(f:yjo (p.vars.map (ybj g v)) s){a:Int}(o:0<=a/\a<p.vars.length)(y:Int) :
 yjo (p.vars.map (ybj g v)) (s.set a.toNat (yjh (p.vars.getD a.toNat default).kind (ybj g v (p.vars.getD a.toNat default)) y)):=by
 refine⟨by rw[List.length_set];exact f.1,fun i b x e d=>?_⟩
 by_cases q:a.toNat=i
 .subst q;have c:a.toNat<p.vars.length:=by omega
  rw[zCC,zG c]at e;cases e
  have m:a.toNat<s.length:=by rw[f.1,zAC];exact c
  rw[zAT m]at d;cases d
  rw[getD_at c];obtain⟨h,j⟩:=ycpv l n k (zM c) v;exact yckk h j y
 .rw[zAY q]at d;exact f.2 i b x e d
theorem ybaw{p:ProgT}{g:Gr}(f:ybh g)(h:p.ok=true)(e:ybgr p g=true)(c:Conf)(v:Nat):∀(sets:List (Int×Ex)) (s:List Int),(∀a∈sets,0<=a.1/\a.1<p.vars.length)->yjo (p.vars.map (ybj g v)) s->yjo (p.vars.map (ybj g v)) (yuo p g c v s sets)
 |[],s,_,b=>b
 | a::sets,s,d,b=>by
   show yjo _ (yuo p g c v (s.set _ _) sets);exact ybaw f h e c v sets _ (fun x i=>d x (zL _ i)) (ychb f h e b (d a zT) _)
theorem ykf{p:ProgT}{g:Gr}(q:ybh g)(m:p.ok=true)(o:ybgr p g=true){c:Conf}(n:ydo p g c=true)(s:Nat):ydo p g (ygn p g c s)=true:=by
 have h:=(yid _ _ _).1 n;refine(yid _ _ _).2 ⟨by rw[ylu];exact h.1,fun v r i=>?_⟩
 have l:v<c.length:=by
  have:=(List.getElem?_eq_some_iff.1 i).1
  rwa [ylu]at this
 have e:r=(ygn p g c s).getD v []:=by simp[zJ,i]
 rw[yqb p g c s l]at e;have b:=h.2 v (c.getD v []) (by rw[getD_at l];exact zG l)
 rw[e];split
 .unfold ykc;refine ybaw q m o c v _ _ (fun a j=>?_) b;have f:=m;unfold ProgT.ok at f;simp only[zF,decide_eq_true_eq]at f
  by_cases k:(yeo p g c v).toNat<p.rules.length
  .rw[getD_at k]at j;have d:=List.all_eq_true.1 f.2 _ (zM k);unfold RuleT.ok at d;simp only[zF,decide_eq_true_eq]at d;have:=List.all_eq_true.1 d.2 a j;simp only[zF,decide_eq_true_eq]at this;exact this.1.1
  .have:p.rules.getD (yeo p g c v).toNat default=default:=by simp[zJ,zAV (Nat.le_of_not_lt k)]
   rw[this]at j;cases j
 .exact b
theorem yzj(p:ProgT)(g:Gr)(c:Conf):ybt p g c<2^g.ids.length:=ybdk _ _
end Sh
end
section
structure Tgt(S:Sys)(V:Conf->Prop)(T:Conf->Nat->List Int):Prop where
 valid:∀c s,V c->s≠0->subB s (S.en c)->V (S.mv c s)
 stay:∀c s v,V c->v<S.n->s.testBit v=false->(S.mv c s).getD v []=c.getD v []
 move:∀c s v,V c->v<S.n->s.testBit v=true->subB s (S.en c)->(S.mv c s).getD v []=T c v
 en:∀c v,V c->v<S.n->((S.en c).testBit v=false↔c.getD v []=T c v)
theorem Tgt.rounds{S:Sys}{V:Conf->Prop}{T:Conf->Nat->List Int}(h:Tgt S V T){P:Nat->Nat->List Int->Prop}(hT:∀c v r,V c->v<S.n->(∀u,u<S.n->P r u (c.getD u []))->P (r+1) v (T c v))(hl:∀r v s,P (r+1) v s->P r v s):ByRounds S V P where
 valid:=h.valid
 stay:=h.stay
 move:=fun c s v r hv hn hb hs hall=>by rw[h.move c s v hv hn hb hs];exact hT c v r hv hn hall
 rest:=fun c v r hv hn hb hall=>by rw[(h.en c v hv hn).1 hb];exact hT c v r hv hn hall
 less:=hl
theorem Tgt.silent{S:Sys}{V:Conf->Prop}{T:Conf->Nat->List Int}(h:Tgt S V T){P:Nat->Nat->List Int->Prop}(e:∀c v r,V c->v<S.n->(∀u,u<S.n->P r u (c.getD u []))->P (r+1) v (T c v)){c:Conf}(b:V c)(d:∀v,v<S.n->P 0 v (c.getD v []))(f:S.en c=0):∀r v,v<S.n->P r v (c.getD v [])
 |0,v,a=>d v a
 | r+1,v,a=>by
   rw[(h.en c v b a).1 (by rw[f];simp)]
   exact e c v r b a (Tgt.silent h e b d f r)
theorem Tgt.en_zero{S:Sys}{V:Conf->Prop}{T:Conf->Nat->List Int}(h:Tgt S V T){c:Conf}(e:V c)(a:S.en c<2^S.n)(d:∀v,v<S.n->c.getD v []=T c v):S.en c=0:=by
 rw[ylo];intro i
 by_cases b:i<S.n
 .exact(h.en c i e b).2 (d i b)
 .exact zBP (zAJ a (zBT (by omega) (by omega)))
end
section
open Go.RowKit
theorem ybby(gv:Value)(g:Gr)(w:World)(z:GrAt w gv g) :
 Calls zH 121 #[gv] w fun e L=>e = .returned (.bool (yil g))/\Below w.heap.size w L:=by
 have l:=zC z;obtain⟨i,p,rfl,F,I⟩:=z
 clear F I
 cases u:ylp g with
 | false =>
   have Hf:=zC (show yil g=false by unfold yil;rw[u];rfl)
   go_enter zBY,zCU
   go_wp2_with fail
   refine(yym _ g _ (l.out.below ((Below.refl _ _).alloc (zI _) _))).mono ?_;rintro e M ⟨rfl,f⟩
   go_wp2_with fail
   go_ret
   exact⟨ybv Hf.out.symm,ycin f⟩
 | true =>
   have d:=(yta g).1 u;have H:=d.1;have B:=d.2.1;have Hgood:=zC d;have C:=zC (ytq d (a:=0) (by omega))
   have Hc:=zC (show yil g=(ydy g 0).all (fun x=>decide (0<=x))by unfold yil;rw[u];rfl)
   clear d
   go_enter zBY,zCU
   go_wp2_with fail
   refine(yym _ g _ (l.out.below ((Below.refl _ _).alloc (zI _) _))).mono ?_;rintro e M ⟨rfl,f⟩;obtain⟨S,T⟩:=yedi f;have Hb1:=zC (ycin f)
   clear f
   go_wp2_with fail
   refine(ybti _ g 0 _ (l.out.below Hb1.out) Hgood.out (by omega)).mono ?_
   rintro e N ⟨v,rfl,n,o⟩;have Hb2:=zC (Hb1.out.trans (o.mono Hb1.out.size));obtain⟨A,c,rfl,s,E⟩:=ycc n;have Hv2:=zC n
   clear o n
   obtain⟨D,y⟩:∃D,ydy g 0=D:=⟨_,rfl⟩;rw[y]at Hv2 C s Hc ⊢
   clear y
   go_wp2
   go_loopg [11] D.length (fun q t wr=>∃k:Nat,q+k=D.length/\t = .int .i64 k/\wr=N/\Hid (∀j (m:j<D.length),j<k->0<=D[j]))
   case atStart=>exact⟨0,by omega,rfl,rfl,zC (fun j _ m=>absurd m (by omega))⟩
   case round =>
    obtain⟨k,Q,rfl,rfl,h⟩:=hrel
    by_cases r:k<D.length
    .obtain⟨b,K,rfl,O,P,R⟩:=yrg Hv2.out r
     by_cases c1:D[k]<0
     .have Hf:=zC (show yil g=false by
       rw[Hc.out,zCD];exact⟨D[k],zM r,by simp;omega⟩)
      go_wp2
      go_ret
      exact⟨ybv Hf.out.symm,Hb2.out⟩
     .go_wp2
      go_roundg (gk-1)
      case measure=>omega
      case rel =>
       refine⟨k+1,by omega,by go_num,rfl,zC (fun j m G=>?_)⟩
       by_cases e:j=k
       .subst e;omega
       .exact h.out j m (by omega)
    .obtain rfl:k=D.length:=by omega
     have Ht:=zC (show yil g=true by
      rw[Hc.out,zCH];intro x J;obtain⟨j,m,rfl⟩:=List.mem_iff_getElem.1 J;exact decide_eq_true (h.out j m m))
     go_wp2
     go_ret
     exact⟨ybv Ht.out.symm,Hb2.out⟩
end
section
open Go.RowKit
theorem yoo(g:Gr)(G:List Int)(v:Nat):(yfu g G v).length=G.length:=by simp[yfu]
set_option maxHeartbeats 2000000 in
theorem ysh(gv cv Gv:Value)(g:Gr)(c:Conf)(G:List Int)(w:World)(hg:GrAt w gv g)(J:ydez w cv c)(Y:yqz w Gv G)(a:ybh g) :
 Calls zH 89 #[gv,cv,Gv] w fun e w'=>e = .returned (.bool (yyp g.ports.length (yfu g G) c))/\Below w.heap.size w w':=by
 have a7:=a.2.1;have hid:=a.2.2.1;have a5:=zC hid
 clear a
 obtain⟨i,p,rfl,hi,hp⟩:=hg;obtain⟨A,c0,rfl,b4,b8⟩:=ycc hi;obtain⟨A2,c2,rfl,b9,c6⟩:=ycc hp;obtain⟨A3,c3,rfl,c7,c9⟩:=ycc J;obtain⟨A4,c4,rfl,d0,d1⟩:=ycc Y;have Hp:=zC hp;have Hc:=zC J;have HG:=zC Y
 clear hi hp J Y
 by_cases Q:c.length=g.ids.length
 .have a4:((c.length:Int)!=(g.ids.length:Int))=false:=by simp[Q]
  have Hn:=zC (Q.trans hid);have d8:c.length<=24:=by omega
  clear Q hid
  go_enter zCE,zCW
  go_wp2
  obtain⟨W1,k⟩:∃W,W=w.alloc (.cells #[.slice A g.ids.length c0,.slice A2 g.ports.length c2] 27):=⟨_,rfl⟩;have a6:W1.cell? ⟨w.heap.size,1,none⟩=some (.slice A2 g.ports.length c2):=by subst k;simp
  have HbW:=zC (show Below w.heap.size w W1 by subst k;exact(Below.refl _ _).alloc (zI _) _)
  rw[<-k]
  clear k
  go_loopg [21] c.length (fun q t wr=>∃v n:Nat,q+v=c.length/\t = .int .i64 v/\wr=W1.drewN n/\Hid (∀(u:Nat) s,u<v->c[u]?=some s->yjo (yfu g G u) s))
  case atStart=>exact⟨0,0,by omega,rfl,rfl,zC (fun u s hu=>absurd hu (by omega))⟩
  case round =>
   obtain⟨v,n,hq,rfl,rfl,L⟩:=hrel
   by_cases B:v<c.length
   .obtain⟨b3,b2,sv,rfl,d4,a2,C⟩:=yqs (Hc.out.below (Stable.sl Stable.int) HbW.out) (zG B);obtain⟨A5,c5,rfl,V,d2⟩:=ycc C;obtain⟨s,E⟩:∃s,c[v]=s:=⟨_,rfl⟩;have Hs?:=zC (show c[v]?=some s by rw[zG B,E])
    rw[E]at C a2 V;have Hbad:=zC (show ¬yjo (yfu g G v) s->yyp g.ports.length (yfu g G) c=false from fun h=>yvy (fun J=>h (J.2 v s Hs?.out)))
    have Hs:=zC C
    clear C E
    by_cases c1:s.length=G.length
    .have R:((s.length:Int)!=(G.length:Int))=false:=by simp[c1]
     have Hsl:=zC c1
     clear c1
     have O:v<g.ports.length:=by rw[<-Hn.out];exact B
     go_wp2
     obtain⟨U,rfl⟩:∃U,U=gk:=⟨_,rfl⟩
     go_loopg [33] s.length (fun q t wr=>∃x n:Nat,q+x=s.length/\t = .int .i64 x/\wr=W1.drewN n/\Hid (∀(j:Nat) b z,j<x->(yfu g G v)[j]?=some b->s[j]?=some z->b.1<=z/\z<=b.2))
     case atStart=>exact⟨0,n,by omega,rfl,rfl,zC (fun j b z hj=>absurd hj (by omega))⟩
     case round =>
      obtain⟨x,n,d9,rfl,rfl,F⟩:=hrel
      by_cases H:x<s.length
      .have P:x<G.length:=by rw[<-Hsl.out];exact H
       obtain⟨b5,o5,rfl,d5,Z,M⟩:=yrg (Hs.out) H;obtain⟨b6,o6,rfl,d6,a0,N⟩:=yrg (HG.out.below Stable.int HbW.out) P;obtain⟨b7,o7,lv,rfl,d7,a1,K⟩:=yqs (Hp.out.below (Stable.sl Stable.link) HbW.out) (zG O);obtain⟨A8,c8,rfl,X,d3⟩:=ycc K;obtain⟨I,o⟩:∃I,g.ports[v]=I:=⟨_,rfl⟩;have m:yclg g v=I.length:=by simp[yclg,zJ,zG O,o]
       rw[o]at a1 X;obtain⟨y,hy⟩:∃y,s[x]=y:=⟨_,rfl⟩;obtain⟨h,hh⟩:∃h,G[x]=h:=⟨_,rfl⟩;have Hy?:=zC (show s[x]?=some y by rw[zG H,hy])
       have d:(yfu g G v)[x]?=some (if h = -1 then(-1,(I.length:Int)-1)else(0,h)):=by
        simp[yfu,P,hh,m]
       rw[hy]at Z M;rw[hh]at a0 N;obtain⟨a8,a9⟩:=M;obtain⟨b0,b1⟩:=N
       clear K o m hy hh
       by_cases c2:h = -1
       .have S:(h == -1)=true:=by simp[c2]
        rw[if_pos c2]at d;have Hb?:=zC d
        clear d c2
        by_cases c3:y < -1
        .have Hf:=zC (Hbad.out (fun h=>by have:=h.2 x _ y Hb?.out Hy?.out;simp only at this;omega))
         go_wp2
         go_quiet (fail)
         go_wp2
         go_quiet (fail)
         go_wp2
         go_ret
         exact⟨ybv Hf.out.symm,below_drewN HbW.out _⟩
        .by_cases c4:(I.length:Int)-1<y
         .have Hf:=zC (Hbad.out (fun h=>by have:=h.2 x _ y Hb?.out Hy?.out;simp only at this;omega))
          go_wp2
          go_quiet (fail)
          go_wp2
          go_quiet (fail)
          go_wp2
          go_ret
          exact⟨ybv Hf.out.symm,below_drewN HbW.out _⟩
         .have T:decide ((I.length:Int)-1<y)=false:=by simp;omega
          go_wp2
          go_quiet (fail)
          go_wp2
          go_quiet (fail)
          go_wp2
          go_roundg (gk-1)
          case measure=>omega
          case rel =>
           refine⟨x+1,_,by omega,by go_num,rfl,zC (fun j b z hj l f=>?_)⟩
           by_cases r:j<x
           .exact F.out j b z r l f
           .obtain rfl:j=x:=by omega
            rw[Hb?.out]at l;rw[Hy?.out]at f;cases l
            cases f
            simp only;omega
       .have S:(h == -1)=false:=by simp[c2]
        rw[if_neg c2]at d;have Hb?:=zC d
        clear d c2
        by_cases c3:y<0
        .have Hf:=zC (Hbad.out (fun h=>by have:=h.2 x _ y Hb?.out Hy?.out;simp only at this;omega))
         go_wp2
         go_quiet (fail)
         go_wp2
         go_ret
         exact⟨ybv Hf.out.symm,below_drewN HbW.out _⟩
        .by_cases c4:h<y
         .have Hf:=zC (Hbad.out (fun h=>by have:=h.2 x _ y Hb?.out Hy?.out;simp only at this;omega))
          go_wp2
          go_quiet (fail)
          go_wp2
          go_ret
          exact⟨ybv Hf.out.symm,below_drewN HbW.out _⟩
         .have T:decide (h<y)=false:=by simp;omega
          go_wp2
          go_quiet (fail)
          go_wp2
          go_roundg (gk-1)
          case measure=>omega
          case rel =>
           refine⟨x+1,_,by omega,by go_num,rfl,zC (fun j b z hj l f=>?_)⟩
           by_cases r:j<x
           .exact F.out j b z r l f
           .obtain rfl:j=x:=by omega
            rw[Hb?.out]at l;rw[Hy?.out]at f;cases l
            cases f
            simp only;omega
      .obtain rfl:x=s.length:=by omega
       go_wp2
       go_roundg (U-1)
       case measure=>omega
       case rel =>
        refine⟨v+1,_,by omega,by go_num,rfl,zC (fun u s' hu D=>?_)⟩
        by_cases a3:u<v
        .exact L.out u s' a3 D
        .obtain rfl:u=v:=by omega
         rw[Hs?.out]at D;cases D
         refine⟨by rw[yoo,Hsl.out],fun j b z l f=>F.out j b z (List.getElem?_eq_some_iff.1 f).1 l f⟩
    .have R:((s.length:Int)!=(G.length:Int))=true:=by simp;omega
     have Hf:=zC (Hbad.out (fun h=>c1 (by rw[h.1,yoo])))
     clear c1
     go_wp2
     go_ret
     exact⟨ybv Hf.out.symm,below_drewN HbW.out _⟩
   .obtain rfl:v=c.length:=by omega
    have Ht:=zC (ybwj (n:=g.ports.length) (bs:=yfu g G) (c:=c) ⟨Hn.out,fun v s C=>L.out v s (List.getElem?_eq_some_iff.1 C).1 C⟩)
    go_wp2
    go_ret
    exact⟨ybv Ht.out.symm,below_drewN HbW.out _⟩
 .have a4:((c.length:Int)!=(g.ids.length:Int))=true:=by simp;omega
  have Hf:=zC (yvy (n:=g.ports.length) (bs:=yfu g G) (c:=c) (fun h=>Q (h.1.trans hid.symm)))
  clear Q hid
  go_enter zCE,zCW
  go_wp2
  go_ret
  exact⟨ybv Hf.out.symm,(Below.refl _ _).alloc (zI _) _⟩
end
section
open Go.RowKit
end
section
def yor(g:Gr):Nat:=(g.ports.map List.length).sum
def addL(back:Bool)(l:List (Int×Int))(x:Int×Int):List (Int×Int):=if back then x::l else l++[x]
theorem yfh{back:Bool}{l:List (Int×Int)}{x y:Int×Int}:y∈addL back l x↔y=x\/y∈l:=by
 unfold addL;cases back<;>simp[or_comm]
def ycx(back:Bool)(g:Gr)(a b:Nat)(w:Int):Gr:=⟨g.ids,(g.ports.set a (addL back (g.ports.getD a []) (b,w))).set b (addL back (g.ports.getD b []) (a,w))⟩
theorem yer(back:Bool)(g:Gr){a b:Nat}(w:Int)(e:a<g.ports.length)(f:b<g.ports.length)(v:Nat) :
 (ycx back g a b w).ports.getD v []=if v=b then addL back (g.ports.getD b []) (a,w)else if v=a then addL back (g.ports.getD a []) (b,w)else g.ports.getD v []:=by
 unfold ycx;simp only[zJ]
 by_cases c:v=b
 .subst c;rw[if_pos rfl,zAT (by simpa using f)]
  rfl
 .rw[if_neg c,zAY (fun q=>c q.symm)]
  by_cases d:v=a
  .subst d;rw[if_pos rfl,zAT e];rfl
  .rw[if_neg d,zAY (fun q=>d q.symm)]
theorem yth{back:Bool}{l:List (Int×Int)}{v n:Int}{x:Int×Int}(h:ydn l v n)(i:yqt v n x)(b:∀y∈l,y.1≠x.1):ydn (addL back l x) v n:=by
 refine⟨fun y a=>?_,?_⟩
 .rcases yfh.1 a with rfl|a
  .exact i
  .exact h.1 y a
 .have c:x.1∉l.map (·.1):=fun f=>by
   obtain⟨y,a,e⟩:=List.mem_map.1 f;exact b y a e
  unfold addL;cases back
  .simp only[Bool.false_eq_true,if_false,List.map_append,zAU,List.map_nil];rw[zBJ];refine⟨h.2,by simp,fun p g q d=>?_⟩
   rw[List.mem_singleton]at d;subst d;intro e;exact c (e▸g)
  .simp only[if_true,zAU];exact List.nodup_cons.2 ⟨c,h.2⟩
theorem ybhk{back:Bool}{g:Gr}(H:ybh g){a b:Nat}{w:Int}(i:a<g.ports.length)(h:b<g.ports.length)(r:a≠b)(p:1<=w/\w<=15)(n:∀y∈g.ports.getD a [],y.1≠(b:Int)):ybh (ycx back g a b w):=by
 obtain⟨C,D,E,F,G,q,A⟩:=H;have c:(ycx back g a b w).ports.length=g.ports.length:=by simp[ycx]
 have m:∀(v:Nat) (d:v<g.ports.length),g.ports.getD v []=g.ports[v]:=fun v d=>by simp[zJ,d]
 have o:∀y∈g.ports.getD b [],y.1≠(a:Int):=fun y B e=>by
  rw[m b h]at B;have:=A ⟨b,h⟩ y B;rw[e,zX]at this;exact n _ this rfl
 have at_:∀(v:Nat) (d:v<g.ports.length),(ycx back g a b w).ports[v]'(by rw[c];exact d)=if v=b then addL back (g.ports.getD b []) (a,w)else if v=a then addL back (g.ports.getD a []) (b,w)else g.ports.getD v []:=fun v d=>by
  rw[<-yer back g w i h v];simp[zJ,c,d]
 refine⟨by rw[c];exact C,by rw[c];exact D,by rw[c];exact E,F,G,fun v=>?_,fun v l f=>?_⟩
 .have d:v.1<g.ports.length:=zBZ v.isLt c;have s:(((ycx back g a b w).ports.length:Nat):Int)=(g.ports.length:Int):=by rw[c]
  rw[s];show ydn ((ycx back g a b w).ports[v.1]) _ _;rw[at_ v.1 d];split
  .rename_i e
   rw[e];refine yth ?_ ⟨by simp only[];omega,by simp only[];omega,by simp only[];omega,p.1,p.2⟩ o
   rw[m b h];exact q ⟨b,h⟩
  .split
   .rename_i e
    rw[e];refine yth ?_ ⟨by simp only[];omega,by simp only[];omega,by simp only[];omega,p.1,p.2⟩ n
    rw[m a i];exact q ⟨a,i⟩
   .rw[m v.1 d];exact q ⟨v.1,d⟩
 .have d:v.1<g.ports.length:=zBZ v.isLt c
  change l∈(ycx back g a b w).ports[v.1]at f
  rw[at_ v.1 d]at f
  have z:∀u x,x∈g.ports.getD u []->x∈(ycx back g a b w).ports.getD u []:=fun u x k=>by
   rw[yer back g w i h u];split
   .rename_i e;subst e;exact yfh.2 (.inr k)
   .split
    .rename_i e;subst e;exact yfh.2 (.inr k)
    .exact k
  have j:∀(u:Nat) (t:u<g.ports.length),l∈g.ports.getD u []->((u:Int),l.2)∈(ycx back g a b w).ports.getD l.1.toNat []:=fun u t k=>by
   rw[m u t]at k;exact z _ _ (A ⟨u,t⟩ l k)
  split at f
  .rename_i e
   rcases yfh.1 f with rfl|f
   .rw[yer back g w i h,e];simp only[zX];simp only[if_neg r,if_true];exact yfh.2 (.inl rfl)
   .rw[e];exact j b h f
  .split at f
   .rename_i e
    rcases yfh.1 f with rfl|f
    .rw[yer back g w i h,e];simp only[zX];simp only[if_true];exact yfh.2 (.inl rfl)
    .rw[e];exact j a i f
   .exact j v.1 d f
end
section
def Tre(g:Gr)(m:Nat):Prop:=∀v,0<v->v<m->∃u,u<v/\adj g u v
theorem Tre.walk{g:Gr}{m:Nat}(h:Tre g m):∀v,v<m->∃k,Walk g 0 k v:=by
 intro v
 induction v using Nat.strongRecOn with
 | _ v e =>
   intro d
   by_cases a:v=0
   .subst a;exact⟨0,rfl⟩
   .obtain⟨u,c,b⟩:=h v (by omega) d
    obtain⟨k,hk⟩:=e u c (by omega)
    exact⟨k+1,u,hk,b⟩
theorem Tre.conn{g:Gr}(b:ybh g)(h:Tre g g.ports.length):yil g=true:=by
 unfold yil;rw[(yta g).2 b,zAO,ybny b (a:=0) (by have:=b.1;omega)]
 exact h.walk
theorem yoz{g:Gr}{u v:Nat}:adj g u v↔∃l,l∈g.ports.getD u []/\l.1=(v:Int):=by
 constructor
 .rintro⟨b,h,l,a,e⟩;exact⟨l,by simpa[zJ,h]using a,e⟩
 .rintro⟨l,a,e⟩;cases h:g.ports[u]? with
  |none=>simp[zJ,h]at a
  |some b=>exact⟨b,h,l,by simpa[zJ,h]using a,e⟩
theorem ybmd{back:Bool}{g:Gr}{a b:Nat}{w:Int}(d:a<g.ports.length)(f:b<g.ports.length){u v:Nat}(h:adj g u v):adj (ycx back g a b w) u v:=by
 obtain⟨l,c,e⟩:=yoz.1 h;refine yoz.2 ⟨l,?_,e⟩;rw[yer back g w d f u];split
 .rename_i q;subst q;exact yfh.2 (.inr c)
 .split
  .rename_i q;subst q;exact yfh.2 (.inr c)
  .exact c
theorem ybok{back:Bool}{g:Gr}{a b:Nat}{w:Int}(d:a<g.ports.length)(e:b<g.ports.length)(c:a≠b):adj (ycx back g a b w) a b:=by
 refine yoz.2 ⟨((b:Int),w),?_,rfl⟩;rw[yer back g w d e a,if_neg c,if_pos rfl];exact yfh.2 (.inl rfl)
theorem Tre.add{back:Bool}{g:Gr}{a b:Nat}{w:Int}(e:a<g.ports.length)(f:b<g.ports.length){m:Nat}(h:Tre g m):Tre (ycx back g a b w) m:=fun v d j=>by
 obtain⟨u,i,c⟩:=h v d j;exact⟨u,i,ybmd e f c⟩
def bare(ids:List Int):Gr:=⟨ids,zW ids.length []⟩
theorem ycgr{ids:List Int}(b:1<=ids.length)(c:ids.length<=24)(d:∀x∈ids,0<=x/\x<=255)(f:ids.Nodup):ybh (bare ids):=by
 have e:∀v:Fin (bare ids).ports.length,(bare ids).ports[v]=[]:=fun v=>by
  have g:v.1<ids.length:=by have:=v.isLt;simpa[bare]using this
  show(zW ids.length ([]:List (Int×Int)))[v.1]'(by simpa using g)=[]
  exact List.getElem_replicate ..
 refine⟨by simpa[bare]using b,by simpa[bare]using c,by simp[bare],d,f,fun v=>?_,fun v l a=>?_⟩
 .rw[e v];exact⟨fun l a=>(nomatch a),zBE⟩
 .rw[e v]at a;cases a
end
section
abbrev eNum(k:Int):Ex:=.leaf 1 k
abbrev ydht:Ex:=.leaf 4 0
abbrev eVar(k:Int):Ex:=.leaf 5 k
abbrev eN:Ex:=.leaf 6 0
abbrev ycae:Ex:=.leaf 10 0
abbrev eQ(k:Int):Ex:=.leaf 12 k
def ycul:Ex:=.bin 41 ycae (.bin 42 (.bin 36 (eVar 0) (eNum 0)) (.bin 36 (eVar 1) ydht))
theorem ymz(l:List Int):∀a:Int,l.foldl min a<=a/\(∀x∈l,l.foldl min a<=x)/\∀b:Int,b<=a->(∀x∈l,b<=x)->b<=l.foldl min a:=by
 induction l with
 |nil=>intro a;exact⟨zDB _,fun x d=>(zO d).elim,fun b f _=>f⟩
 | cons y l j =>
   intro a;obtain⟨k,h,i⟩:=j (min a y);refine⟨by simp only[zAZ];omega,fun x d=>?_,fun b f d=>?_⟩
   .rcases List.mem_cons.1 d with rfl|d
    .simp only[zAZ];omega
    .exact h x d
   .have:=d y zT;exact i b (by omega) fun x e=>d x (zL _ e)
theorem ylw{l:List Int}{x:Int}(h:x∈l):ydw l<=x:=(ymz l 1073741824).2.1 x h
theorem ykh{l:List Int}{b:Int}(a:b<=1073741824)(h:∀x∈l,b<=x):b<=ydw l:=(ymz l 1073741824).2.2 b a h
theorem ybio{b:Type}(g:Gr)(v:Nat)(f:Int×Int->b)(h:Nat->b)(e:∀q,q<(g.ports.getD v []).length->h q=f ((g.ports.getD v []).getD q (0,0))):(zAG (g.ports.getD v []).length).map h=(g.ports.getD v []).map f:=by
 refine zBN (by simp) fun i d j=>?_
 have a:i<(g.ports.getD v []).length:=by simpa using d
 rw[zCI,List.getElem_range,zCI,e i a];congr 1;rw[zAP,zG a];rfl
theorem ybep(f:Int×Int->Bool)(ls:List (Int×Int)):yfc (ls.map fun l=>ydc (f l))=ylk f ls:=by
 unfold yfc ylk
 have:((fun x:Int=>x != 0) ∘ fun l=>ydc (f l))=f:=by
  funext l
  show(ydc (f l)!=0)=f l;unfold ydc;cases f l<;>rfl
 rw[List.findIdx?_map,this]
 all_goals (cases List.findIdx? f ls<;>rfl)
def endP(c:Conf)(k:Nat)(l:Int×Int):Int:=(c.getD l.1.toNat []).getD k 0
theorem ybhl(b:Bool):(ydc b != 0)=b:=by cases b<;>rfl
theorem ydeg{s:List Int}(h:s.length=2)(x y:Int):s=[x,y]↔s.getD 0 0=x/\s.getD 1 0=y:=by
 match s,h with
 |[a,b],_=>simp
section
variable {nm nd np nt nl:ByteArray}{g:Gr}{c:Conf}{v:Nat}
theorem bT3{x:ByteArray}:ybj g v ⟨x,3,0,0,0,0⟩=(-1,((g.ports.getD v []).length:Int)-1):=by
 show(if (3:Int)=1 then _ else if (3:Int)=2 then _ else if (3:Int)=3 then _ else _)=_
 rw[if_neg (by decide),if_neg (by decide),if_pos rfl]
end
end
section
section
variable {g:Gr}{a v:Nat}
theorem yly(f:ybh g)(p:yil g=true)(d:a<g.ports.length)(r:v<g.ports.length):∃k:Nat,(ydy g a).getD v 0=k/\Walk g a k v/\(∀j,j<k->¬Walk g a j v)/\k<g.ports.length:=by
 have n:0<g.ports.length:=by omega
 have c:(ydy g a).all (fun x=>decide (0<=x))=true:=ycnl f n d ((zF _ _▸p).2);have q:=ytq f d;have b:v<(ydy g a).length:=by rw[q];exact r
 have e:(ydy g a).getD v 0=(ydy g a)[v]:=by simp[zJ,b]
 have m:0<=(ydy g a)[v]:=by simpa using List.all_eq_true.1 c _ (zM b)
 rcases(yjb f d).2 v _ (zG b)with⟨h,_⟩|⟨k,o,i,l⟩
 .omega
 .exact⟨k,by rw[e,o],i,l,ybeb f d i l⟩
theorem ycmh(b:ybh g)(d:yil g=true)(c:a<g.ports.length){u:Nat}(h:adj g u v):(ydy g a).getD v 0<=(ydy g a).getD u 0+1:=by
 obtain⟨m,n⟩:=b.adj_lt h;obtain⟨k,e,i,_,_⟩:=yly b d c m;obtain⟨j,f,_,l,_⟩:=yly b d c n;rw[e,f];rcases zBA (k+1) j with q|q
 .exact absurd ⟨u,i,h⟩ (l (k+1) q)
 .omega
theorem yceq(b:ybh g)(f:yil g=true)(d:a<g.ports.length)(r:v<g.ports.length)(h:v≠a):∃u,adj g v u/\(ydy g a).getD u 0=(ydy g a).getD v 0-1:=by
 obtain⟨k,e,l,s,_⟩:=yly b f d r;cases k with
 |zero=>exact absurd l h
 | succ k =>
   obtain⟨u,m,c⟩:=l;refine⟨u,b.adj_symm c,?_⟩;have n:=ycmh b f d c;obtain⟨p,_⟩:=b.adj_lt c;obtain⟨j,i,_,o,_⟩:=yly b f d p;rw[e,i]at n;rcases zBA k j with q|q
   .exact absurd m (o k q)
   .rw[e,i];omega
theorem yds{l:Int×Int}(c:ybh g)(d:v<g.ports.length)(b:l∈g.ports.getD v []):0<=l.1/\l.1.toNat<g.ports.length/\adj g v l.1.toNat/\1<=l.2/\l.2<=15:=by
 have e:g.ports[v]?=some (g.ports.getD v []):=by simp[zJ,d]
 have h:=c.link e b;exact⟨h.1,by omega,⟨_,e,l,b,by omega⟩,h.2.2.2.1,h.2.2.2.2⟩
theorem ycdf{u:Nat}(h:adj g v u):∃l∈g.ports.getD v [],l.1.toNat=u:=by
 obtain⟨l,b,e⟩:=yoz.1 h;exact⟨l,b,by rw[e];simp⟩
theorem ytj{f h:Int×Int->Bool}{ls:List (Int×Int)}(e:∀l∈ls,f l=h l):ylk f ls=ylk h ls:=by
 have:ls.findIdx? f=ls.findIdx? h:=by
  induction ls with
  |nil=>rfl
  | cons x l c =>
    rw[zBG,zBG,e x zT,c fun y b=>e y (zL _ b)]
 unfold ylk;rw[this]
end
section
variable {nm nd np nt nl:ByteArray}{g:Gr}
end
end
section
namespace Sh
open Ev Go.RowKit
def TT:(Nat->Option ABlk)->Value->Prop:=fun _ _=>True
def yfn(p:ProgT)(g:Gr):SV:=.ex TT (.rf (ykk p.raw g))
section
variable {Q1 Q2:(Nat->Option ABlk)->Value->Prop}{p:ProgT}{g:Gr}
end
end Sh
end
section
namespace Sh
open Ev Go.RowKit
theorem Returns.exT{P:Program}{g:FuncId}{args:List SV}{r:SV}(h:Returns P g args r):Returns P g args (.ex TT r):=fun G m l f i j=>by
 obtain⟨v,k,x,a,b,c,d,e⟩:=h G m l f i j;exact⟨v,k,.ex TT r,a,b,c,rfl,.ex trivial (fun _ _ _ _ _=>trivial) (d▸e)⟩
section
variable {Q1 Q2:(Nat->Option ABlk)->Value->Prop}{p:ProgT}{g:Gr}
def yjg(l:List Conf):SV:=.sl 1 l.length (fun i=>[ycn (l.getD i [])])
def yqc(l:List Cnt):SV:=.sl 5 l.length (fun i=>cntV (l.getD i default))
end
end Sh
end
section
def yea(v m:Int):Int:=if m<1 then 0 else v%m
def atP(l:List Int)(i:Nat):Int:=l.getD i 0
theorem ynn{v m:Int}(h:1<=m):0<=yea v m/\yea v m<m:=by
 unfold yea;rw[if_neg (by omega)]
 exact⟨zBB _ (by omega),zAR _ (by omega)⟩
namespace Sh
open Ev Go.RowKit
theorem ybpk{v m:Int}(h:1<=m):(if v.tmod m<0 then v.tmod m+m else v.tmod m)=v%m:=by
 have e:=Int.emod_add_mul_ediv v m;have f:=zBB v (show m≠0 by omega)
 have g:=zAR v (show 0<m by omega)
 have c:=Int.tmod_eq_emod (a:=v) (b:=m);have d:(m.natAbs:Int)=m:=by omega
 rw[c]
 by_cases q:0<=v\/m ∣ v
 .simp only[if_pos q,zCG,Int.sub_zero];rw[if_neg (by omega)]
 .simp only[if_neg q,d];rw[if_pos (by omega)]
  omega
theorem ynf(v m:Int)(e:m<=4611686018427387904)(f:inK .i64 v):Returns zH 49 [.i .i64 v,.i .i64 m] (.i .i64 (yea v m)):=by
 refine Returns.of (yebd _ _ ?_);simp only[c49,ydxq,ydsa,ydul,ydut,yecz,yduk,ydwb,ycg,go_sem,zA,zB];unfold yea;refine⟨fun h=>by rw[if_pos h],fun h=>⟨by omega,fun b=>?_,fun b=>?_⟩⟩
 .have a:=ybpk (v:=v) (show 1<=m by omega)
  rw[if_pos b]at a;rw[if_neg h,a];have c:=zBB v (show m≠0 by omega)
  have d:=zAR v (show 0<m by omega)
  exact⟨ikw (by omega) (by omega),rfl⟩
 .have a:=ybpk (v:=v) (show 1<=m by omega)
  rw[if_neg b]at a;rw[if_neg h,a]
theorem at_ret(l:List Int)(i:Nat):Returns zH 50 [yba l,.i .i64 i] (.i .i64 (atP l i)):=by
 refine Returns.of (yebu _ _ ?_);simp only[c50,ydqv,ydte,ydvv,ydwe,yba,ycg,go_sem,zA,zB];exact⟨fun h=>⟨by omega,rfl⟩,fun h=>by unfold atP;rw[zJ,zAV (by omega)];rfl⟩
theorem ydvx{a:Type}(l:List a)(x d:a)(i:Nat):(l++[x]).getD i d=if i<l.length then l.getD i d else if i=l.length then x else d:=by
 by_cases h:i<l.length
 .simp[zJ,List.getElem?_append_left h,h]
 .by_cases e:i=l.length
  .subst e;simp[zJ]
  .rw[if_neg h,if_neg e,zJ,zAV (by simp;omega)]
   rfl
end Sh
end
section
namespace Sh
open Ev Go.RowKit
section
variable {p:ProgT}{g:Gr}
end
end Sh
end
section
structure IsW(g:Gr)(W:List Int):Prop where
 len:W.length=g.ports.length
 root:W.getD 0 0=0
 pos:∀v,v<g.ports.length->0<=W.getD v 0
 from_:∀v,v<g.ports.length->v≠0->∃l∈g.ports.getD v [],W.getD l.1.toNat 0+l.2=W.getD v 0
 le:∀v,v<g.ports.length->∀l∈g.ports.getD v [],W.getD v 0<=W.getD l.1.toNat 0+l.2
 small:∀v,v<g.ports.length->W.getD v 0+15<=15*(g.ports.length:Int)
inductive Wk (g:Gr):Nat->Nat->Prop
 |zero:Wk g 0 0
 |step (x u v:Nat) (l:Int×Int):Wk g x u->v<g.ports.length->l∈g.ports.getD v []->l.1.toNat=u->Wk g (x+l.2.toNat) v
theorem ybql{p:Nat->Prop}:∀n,p n->∃m,p m/\∀j,j<m->¬p j
 | n,h=>by
   by_cases q:∃j,j<n/\p j
   .obtain⟨j,b,a⟩:=q;exact ybql j a
   .exact⟨n,h,fun j b a=>q ⟨j,b,a⟩⟩
termination_by n=>n
theorem ydug{g:Gr}(a:ybh g):∀(k v:Nat),Walk g 0 k v->v<g.ports.length->∃x,x<=15*k/\Wk g x v
 | 0,v,h,_=>by
   have h:v=0:=h;subst h;exact⟨0,by omega,.zero⟩
 | k+1,v,⟨u,i,b⟩,f=>by
   obtain⟨j,_⟩:=a.adj_lt b;obtain⟨x,p,m⟩:=ydug a k u i j;obtain⟨l,d,e⟩:=ycdf (a.adj_symm b);obtain⟨_,_,_,n,o⟩:=yds a f d;exact⟨x+l.2.toNat,by omega,.step x u v l m f d e⟩
theorem exW{g:Gr}(s:ybh g)(E:yil g=true):∃W,IsW g W:=by
 have B:0<g.ports.length:=by have:=s.1;omega
 have ex:∀v,v<g.ports.length->∃x,Wk g x v/\(∀j,j<x->¬Wk g j v)/\x+15<=15*g.ports.length:=fun v d=>by
  obtain⟨k,_,z,_,n⟩:=yly s E B d;obtain⟨x,F,t⟩:=ydug s k v z d;obtain⟨m,D,A⟩:=ybql (p:=fun x=>Wk g x v) x t;refine⟨m,D,A,?_⟩
  have:m<=x:=by
   rcases zBA x m with q|q
   .exact absurd t (A x q)
   .exact q
  omega
 have r:∃f:Nat->Nat,∀v,v<g.ports.length->Wk g (f v) v/\(∀j,j<f v->¬Wk g j v)/\f v+15<=15*g.ports.length:=by
  refine⟨fun v=>if h:v<g.ports.length then zDF (ex v h)else 0,fun v d=>?_⟩
  simp only[dif_pos d];exact zDE (ex v d)
 obtain⟨f,r⟩:=r;have gt:∀v,v<g.ports.length->((zAG g.ports.length).map fun v=>(f v:Int)).getD v 0=f v:=fun v d=>by simp[zJ,d]
 have o:∀v x,v<g.ports.length->Wk g x v->f v<=x:=fun v x d t=>by
  rcases zBA x (f v)with q|q
  .exact absurd t ((r v d).2.1 x q)
  .exact q
 have w:∀v,v<g.ports.length->∀l∈g.ports.getD v [],(f v:Int)<=f l.1.toNat+l.2:=fun v d l i=>by
  obtain⟨_,n,_,A,_⟩:=yds s d i;have:=o v _ d (.step _ _ v l (r l.1.toNat n).1 d i rfl);omega
 refine⟨(zAG g.ports.length).map fun v=>(f v:Int),by simp,?_,fun v d=>?_,fun v d C=>?_,fun v d l i=>?_,fun v d=>?_⟩
 .rw[gt 0 B];have:=o 0 0 B .zero;omega
 .rw[gt v d];omega
 .have z:=(r v d).1;rw[gt v d]
  generalize F:f v=x at z
  cases z with
  |zero=>exact absurd rfl C
  | step y u _ l t _ i e =>
    obtain⟨_,n,_,A,_⟩:=yds s d i;refine⟨l,i,?_⟩;rw[gt _ n];subst e;have a:=o _ _ n t;have b:=w v d l i;omega
 .obtain⟨_,n,_,_⟩:=yds s d i;rw[gt v d,gt _ n];exact w v d l i
 .rw[gt v d];have:=(r v d).2.2;omega
def ycpx:Ex:=.bin 33 (eQ 0) (.leaf 16 0)
def ybxk:Ex:=.bin 30 (eNum 15) eN
def yboj:Ex:=.agg 24 ycpx
def ybtv:Ex:=.ite (.bin 37 yboj ybxk) yboj ybxk
def ybuz:Ex:=.agg 23 (.bin 35 ycpx yboj)
def yduh:Ex:=.bin 41 (.un 19 ycae) (.bin 42 (.bin 36 (eVar 0) ybtv) (.bin 36 (eVar 1) ybuz))
def yfa(nm d p t l:ByteArray):ProgT:=⟨nm,[⟨d,1,0,0,15,0⟩,⟨p,3,0,0,0,0⟩],[⟨t,ycul,[(0,eNum 0),(1,ydht)]⟩,⟨l,yduh,[(0,ybtv),(1,ybuz)]⟩]⟩
def ptK(c:Conf)(l:Int×Int):Int:=endP c 0 l+l.2
def ptM(g:Gr)(c:Conf)(v:Nat):Int:=ydw ((g.ports.getD v []).map (ptK c))
def ptD(g:Gr)(c:Conf)(v:Nat):Int:=if ptM g c v<15*(g.ids.length:Int)then ptM g c v else 15*(g.ids.length:Int)
def ptF(g:Gr)(c:Conf)(v:Nat):Int:=ylk (fun l=>ptK c l==ptM g c v) (g.ports.getD v [])
def ptT(g:Gr)(c:Conf)(v:Nat):List Int:=if v=0 then[0,-1]else[ptD g c v,ptF g c v]
structure PtC(g:Gr)(c:Conf):Prop where
 len:c.length=g.ids.length
 row:∀v,v<g.ids.length->(c.getD v []).length=2/\(0<=(c.getD v []).getD 0 0/\(c.getD v []).getD 0 0<=15*g.ids.length)/\(-1<=(c.getD v []).getD 1 0/\(c.getD v []).getD 1 0<(g.ports.getD v []).length)
section
variable {nm nd np nt nl:ByteArray}{g:Gr}{c:Conf}{v:Nat}
theorem bTP{x:ByteArray}:ybj g v ⟨x,1,0,0,15,0⟩=(0,0+15*(g.ids.length:Int)+0*maxI g.ids):=by
 show(if (1:Int)=1 then _ else _)=_
 rw[if_pos rfl]
theorem ygp(l:ydo (yfa nm nd np nt nl) g c=true):PtC g c:=by
 have h:=(yid _ _ _).1 l;refine⟨h.1,fun v m=>?_⟩;have a:v<c.length:=by rw[h.1];exact m
 have e:c.getD v []=c[v]:=by simp[zJ,a]
 have b:=h.2 v _ (zG a);rw[e];have d:c[v].length=2:=b.1;have f:(ybj g v ⟨nd,1,0,0,15,0⟩).1<=c[v][0]/\c[v][0]<=(ybj g v ⟨nd,1,0,0,15,0⟩).2:=b.2 0 _ _ rfl (zG (by omega))
 have i:(ybj g v ⟨np,3,0,0,0,0⟩).1<=c[v][1]/\c[v][1]<=(ybj g v ⟨np,3,0,0,0,0⟩).2:=b.2 1 _ _ rfl (zG (by omega))
 have j:c[v].getD 0 0=c[v][0]:=by simp[zJ,d]
 have k:c[v].getD 1 0=c[v][1]:=by simp[zJ,d]
 rw[j,k];rw[bTP]at f;rw[bT3]at i;simp only at f i;exact⟨d,⟨by omega,by omega⟩,⟨by omega,by omega⟩⟩
theorem PtC.link(h:PtC g c)(a:ybh g)(m:v<g.ids.length){l:Int×Int}(i:l∈g.ports.getD v []):0<=l.1/\l.1.toNat<g.ids.length/\(1<=l.2/\l.2<=15)/\(0<=endP c 0 l/\endP c 0 l<=15*g.ids.length):=by
 have j:=a.2.2.1;obtain⟨b,k,_,d,e⟩:=yds a (by omega) i
 have f:=h.row l.1.toNat (by omega)
 exact⟨b,by omega,⟨d,e⟩,f.2.1⟩
theorem ydgw(h:PtC g c)(a:ybh g)(d:v<g.ids.length):1<=ptM g c v:=ykh (by omega) fun x e=>by
 obtain⟨l,b,rfl⟩:=List.mem_map.1 e;obtain⟨_,_,f,i⟩:=h.link a d b;unfold ptK;omega
theorem ycwc{x:Int}(h:InB x):satP x=x:=by unfold InB at h;unfold satP;omega
theorem ybsj(h:PtC g c)(a:ybh g)(e:v<g.ids.length){q:Nat}(b:q<(g.ports.getD v []).length):yda g c v ycpx q=ptK c (ycs g v q):=by
 have d:ycs g v q∈g.ports.getD v []:=by unfold ycs;rw[Sh.getD_at b];exact zM b
 obtain⟨_,_,f,i⟩:=h.link a e d;have j:=a.2.1;have k:=a.2.2.1;show satP (endP c 0 (ycs g v q)+(ycs g v q).2)=_;rw[ycwc (by unfold InB;omega)]
 rfl
theorem ybsh(h:PtC g c)(a:ybh g)(d:v<g.ids.length)(p:Int):yda g c v yboj p=ptM g c v:=by
 show yjm 24 _=_;unfold ptM yjm;rw[if_neg (by decide),if_neg (by decide),if_neg (by decide),if_neg (by decide),if_pos rfl]
 congr 1;exact ybio g v _ _ fun q b=>ybsj h a d b
theorem ycpj(a:ybh g)(p:Int):yda g c v ybxk p=15*(g.ids.length:Int):=by
 have b:=a.2.1;have d:=a.2.2.1;show satP (15*(g.ids.length:Int))=_;exact ycwc (by unfold InB;omega)
theorem ybpr(h:PtC g c)(a:ybh g)(d:v<g.ids.length)(p:Int):yda g c v ybtv p=ptD g c v:=by
 show(if binP 37 (yda g c v yboj p) (yda g c v ybxk p)≠0 then yda g c v yboj p else yda g c v ybxk p)=_
 rw[ybsh h a d,ycpj a];have b:binP 37 (ptM g c v) (15*(g.ids.length:Int))=ydc (decide (ptM g c v<15*(g.ids.length:Int))):=rfl;rw[b];unfold ptD
 by_cases h:ptM g c v<15*(g.ids.length:Int)
 .rw[if_pos h,if_pos (by simp[ydc,h])]
 .rw[if_neg h,if_neg (by simp[ydc,h])]
theorem ybsl(h:PtC g c)(a:ybh g)(b:v<g.ids.length)(p:Int):yda g c v ybuz p=ptF g c v:=by
 show yjm 23 _=_;unfold ptF yjm;rw[if_neg (by decide),if_neg (by decide),if_neg (by decide),if_pos rfl,<-ybep]
 congr 1;refine ybio g v _ _ fun q d=>?_;show binP 35 (yda g c v ycpx q) (yda g c v yboj q)=_;rw[ybsh h a b,ybsj h a b d];rfl
theorem yedc:-1<=ptF g c v/\ptF g c v<(g.ports.getD v []).length:=by
 unfold ptF ylk;split
 .rename_i i a
  obtain⟨h,_⟩:=List.findIdx?_eq_some_iff_getElem.1 a;omega
 .omega
theorem ydor(h:PtC g c)(a:ybh g)(b:v<g.ids.length):0<=ptD g c v/\ptD g c v<=15*g.ids.length:=by
 have:=ydgw h a b;unfold ptD;split<;>omega
theorem ycbj(h:PtC g c)(s:ybh g)(j:v<g.ids.length) :
 yop g c v ⟨nt,ycul,[(0,eNum 0),(1,ydht)]⟩=(decide (v=0) && !decide (c.getD v []=[0,-1])) /\
 yop g c v ⟨nl,yduh,[(0,ybtv),(1,ybuz)]⟩=(!decide (v=0) && !decide (c.getD v []=[ptD g c v,ptF g c v])):=by
 have u:=(h.row v j).1;have q:∀p,yda g c v ycae p=ydc ((v:Int)==0):=fun p=>rfl
 have r:((v:Int)==0)=decide (v=0):=by
  cases v with
  |zero=>rfl
  |succ k=>simp;omega
 have n:∀p,yda g c v (eVar 0) p=(c.getD v []).getD 0 0:=fun p=>rfl;have o:∀p,yda g c v (eVar 1) p=(c.getD v []).getD 1 0:=fun p=>rfl
 have m:∀x y:Int,(decide (c.getD v []=[x,y]))=(((c.getD v []).getD 0 0==x)&&((c.getD v []).getD 1 0==y)):=fun x y=>by
  rw[zCM];simp only[decide_eq_true_eq,zF,beq_iff_eq];exact ydeg u x y
 have e:∀a b:Bool,binP 41 (ydc a) (ydc b)=ydc (a&&b):=fun a b=>by cases a<;>cases b<;>rfl
 have f:∀a b:Bool,binP 42 (ydc a) (ydc b)=ydc (a||b):=fun a b=>by cases a<;>cases b<;>rfl
 have d:∀a b:Int,binP 36 a b=ydc (a != b):=fun a b=>rfl;have l:∀a:Bool,unP 19 (ydc a)=ydc (!a):=fun a=>by cases a<;>rfl
 have i:∀t a b:Bool,(t&&(!a || !b))=(t && !(a&&b)):=by decide
 constructor
 .show(binP 41 (yda g c v ycae (-1)) (binP 42 (binP 36 (yda g c v (eVar 0) (-1)) 0) (binP 36 (yda g c v (eVar 1) (-1)) (-1)))!=0)=_;rw[q,n,o,d,d,f,e,ybhl,m,r];exact i _ _ _
 .show(binP 41 (unP 19 (yda g c v ycae (-1))) (binP 42 (binP 36 (yda g c v (eVar 0) (-1)) (yda g c v ybtv (-1))) (binP 36 (yda g c v (eVar 1) (-1)) (yda g c v ybuz (-1))))!=0)=_;rw[q,l,ybpr h s j,ybsl h s j,n,o,d,d,f,e,ybhl,m,r];exact i _ _ _
theorem ybln(h:PtC g c)(f:ybh g)(i:v<g.ids.length):yeo (yfa nm nd np nt nl) g c v=if c.getD v []=ptT g c v then -1 else if v=0 then 0 else 1:=by
 obtain⟨d,e⟩:=ycbj (nt:=nt) (nl:=nl) h f i;unfold yeo yfa;simp only[zBG,d,e,List.findIdx?_nil];unfold ptT
 generalize c.getD v []=s
 by_cases b:v=0
 .rw[if_pos b,if_pos b,decide_eq_true b]
  by_cases a:s=[0,-1]
  .rw[if_pos a,decide_eq_true a];rfl
  .rw[if_neg a,decide_eq_false a];rfl
 .rw[if_neg b,if_neg b,decide_eq_false b]
  by_cases a:s=[ptD g c v,ptF g c v]
  .rw[if_pos a,decide_eq_true a];rfl
  .rw[if_neg a,decide_eq_false a];rfl
theorem yvl{k:Int}{b:Int×Int}{x:Int}(h:b.1<=x/\x<=b.2):yjh k b x=x:=by unfold yjh;rw[if_pos ⟨h.1,h.2⟩]
theorem ydip(h:PtC g c)(d:ybh g)(a:v<g.ids.length)(e:c.getD v []≠ptT g c v):ykc (yfa nm nd np nt nl) g c v (yeo (yfa nm nd np nt nl) g c v).toNat=ptT g c v:=by
 rw[ybln h d a,if_neg e];have i:=(h.row v a).1
 obtain⟨x,y,f⟩:∃x y,c.getD v []=[x,y]:=by
  match hq:c.getD v [],i with
  |[x,y],_=>exact⟨x,y,rfl⟩
 obtain⟨f1,f2⟩:=yedc (g:=g) (c:=c) (v:=v);obtain⟨d1,d2⟩:=ydor h d a;unfold ykc yuo ptT;rw[f]
 by_cases b:v=0
 .rw[if_pos b,if_pos b];show[yjh 1 (ybj g v ⟨nd,1,0,0,15,0⟩) 0,yjh 3 (ybj g v ⟨np,3,0,0,0,0⟩) (-1)]=_;rw[yvl (by rw[bTP];simp only;omega),yvl (by rw[bT3];simp only;omega)]
 .rw[if_neg b,if_neg b];show[yjh 1 (ybj g v ⟨nd,1,0,0,15,0⟩) (yda g c v ybtv (-1)),yjh 3 (ybj g v ⟨np,3,0,0,0,0⟩) (yda g c v ybuz (-1))]=_;rw[ybpr h d a,ybsl h d a,yvl (by rw[bTP];simp only;omega),yvl (by rw[bT3];simp only;omega)]
theorem ybmt(a:ybh g):Sh.ybgr (yfa nm nd np nt nl) g=true:=by
 have b:=a.1;have d:=a.2.1;have e:=a.2.2.1;simp[Sh.ybgr,yfa,ybj];omega
theorem ydtv:(yfa nm nd np nt nl).ok=true:=by kernel_rfl
theorem ybpx(hg:ybh g):Tgt (ymq (yfa nm nd np nt nl) g) (fun c=>ydo (yfa nm nd np nt nl) g c=true) (ptT g) where
 valid:=fun c s hc _ _=>Sh.ykf hg ydtv (ybmt hg) hc s
 stay:=fun c s v hc hv hb=>by
  have hl:=(ygp hc).len;show(ygn _ g c s).getD v []=_;rw[Sh.yqb _ g c s (by rw[hl];exact hv),hb]
  rfl
 move:=fun c s v hc hv hb hs=>by
  have hl:=(ygp hc).len;have hv:v<g.ids.length:=hv;show(ygn _ g c s).getD v []=_;rw[Sh.yqb _ g c s (by rw[hl];exact hv),hb,if_pos rfl]
  refine ydip (ygp hc) hg hv fun he=>?_;have h1:=hs v hb;have h1:(ylv _ g.ids.length).testBit v=true:=h1;rw[ymc]at h1;simp only[zF,decide_eq_true_eq]at h1;rw[ybln (ygp hc) hg hv,if_pos he]at h1;omega
 en:=fun c v hc hv=>by
  have hv:v<g.ids.length:=hv;show(ylv _ g.ids.length).testBit v=false↔_;rw[ymc,ybln (ygp hc) hg hv,decide_eq_true hv,zAO,decide_eq_false_iff_not]
  by_cases he:c.getD v []=ptT g c v
  .rw[if_pos he];exact⟨fun _=>he,fun _=>by omega⟩
  .rw[if_neg he];exact⟨fun h=>(h (by split<;>omega)).elim,fun h=>absurd h he⟩
def lgV(g:Gr):Nat->Int
 |0=>15
 |v+1=>(g.ports.getD v []).foldl (fun a l=>min a l.2) (lgV g v)
def yfr(g:Gr):Int:=lgV g g.ports.length
theorem lgF(ls:List (Int×Int))(a:Int):ls.foldl (fun a l=>min a l.2) a<=a/\(∀l∈ls,ls.foldl (fun a l=>min a l.2) a<=l.2)/\∀b:Int,b<=a->(∀l∈ls,b<=l.2)->b<=ls.foldl (fun a l=>min a l.2) a:=by
 have e:ls.foldl (fun a l=>min a l.2) a=(ls.map (·.2)).foldl min a:=by rw[zCR]
 obtain⟨h,i,j⟩:=ymz (ls.map (·.2)) a;rw[e];refine⟨h,fun l d=>i _ (List.mem_map.2 ⟨l,d,rfl⟩),fun b k d=>j b k fun x m=>?_⟩;obtain⟨l,f,rfl⟩:=List.mem_map.1 m;exact d l f
theorem ydes(b:ybh g):∀k,k<=g.ports.length->1<=lgV g k/\lgV g k<=15/\∀v l,v<k->l∈g.ports.getD v []->lgV g k<=l.2
 |0,_=>⟨show(1:Int)<=15 by decide,zDB _,fun v l d=>absurd d (zU v)⟩
 | k+1,hk=>by
   obtain⟨f,m,h⟩:=ydes b k (by omega)
   obtain⟨n,i,j⟩:=lgF (g.ports.getD k []) (lgV g k);show 1<=zCN _ _ _/\zCN _ _ _<=15/\∀v l,v<k+1->l∈g.ports.getD v []->zCN _ _ _<=l.2;refine⟨j 1 f fun l a=>(yds b (by omega) a).2.2.2.1,by omega,fun v l d a=>?_⟩
   by_cases e:v=k
   .subst e;exact i l a
   .have:=h v l (by omega) a;omega
theorem ynt(a:ybh g):1<=yfr g/\yfr g<=15/\∀v l,v<g.ports.length->l∈g.ports.getD v []->yfr g<=l.2:=ydes a _ (zI _)
def ytx(g:Gr)(W:List Int)(v:Nat):Int:=if v=0 then -1 else ylk (fun l=>W.getD l.1.toNat 0+l.2==W.getD v 0) (g.ports.getD v [])
def ptS(g:Gr)(W:List Int)(v:Nat):List Int:=[W.getD v 0,ytx g W v]
def ptR(g:Gr)(W:List Int)(r v:Nat)(s:List Int):Prop:=if W.getD v 0<(r:Int)*yfr g then s=ptS g W v else(r:Int)*yfr g<=s.getD 0 0
theorem yble{W:List Int}(p:ybh g)(n:IsW g W)(h:PtC g c)(Q:v<g.ids.length)(r:Nat)(o:∀u,u<g.ids.length->ptR g W r u (c.getD u [])):ptR g W (r+1) v (ptT g c v):=by
 have K:=p.2.2.1;have F:=p.2.1;have b:v<g.ports.length:=by omega
 obtain⟨M,N,C⟩:=ynt p;obtain⟨w,y⟩:∃w,yfr g=w:=⟨_,rfl⟩;rw[y]at M N C;obtain⟨k,hk⟩:∃k:Int,(r:Int)*w=k:=⟨_,rfl⟩;have s:((r+1:Nat):Int)*w=k+w:=by rw[<-hk,zCO,zDC];omega
 have J:0<=k:=by rw[<-hk];exact Int.mul_nonneg (by omega) (by omega)
 unfold ptR ptT;rw[y,s]
 by_cases d:v=0
 .subst d;rw[if_pos rfl,n.root,if_pos (by omega)]
  unfold ptS ytx;rw[n.root,if_pos rfl]
 .rw[if_neg d];have L:=n.small v b
  have a:∀l∈g.ports.getD v [],w<=l.2/\W.getD v 0<=W.getD l.1.toNat 0+l.2/\((W.getD l.1.toNat 0<k/\endP c 0 l=W.getD l.1.toNat 0)\/(k<=W.getD l.1.toNat 0/\k<=endP c 0 l)):=fun l f=>by
   obtain⟨_,O,P,_⟩:=yds p b f;refine⟨C v l b f,n.le v b l f,?_⟩;have j:=o l.1.toNat (by omega)
   unfold ptR at j;rw[y,hk]at j;split at j
   .rename_i t
    refine .inl ⟨t,?_⟩;unfold endP;rw[j];rfl
   .exact .inr ⟨by omega,j⟩
  by_cases B:W.getD v 0<k+w
  .rw[if_pos B]
   have q:ptM g c v=W.getD v 0:=by
    obtain⟨l,f,e⟩:=n.from_ v b d;have G:=a l f
    have H:ptK c l=W.getD v 0:=by
     unfold ptK;rcases G.2.2 with⟨_,h⟩|⟨h,_⟩
     .rw[h,e]
     .omega
    refine Int.le_antisymm ?_ (ykh (by omega) fun x z=>?_)
    .rw[<-H];exact ylw (List.mem_map.2 ⟨l,f,rfl⟩)
    .obtain⟨A,i,rfl⟩:=List.mem_map.1 z;have m:=a A i;unfold ptK;rcases m.2.2 with⟨_,h⟩|⟨_,h⟩<;>omega
   have D:ptD g c v=W.getD v 0:=by
    unfold ptD;rw[q,if_pos (by omega)]
   have E:ptF g c v=ytx g W v:=by
    unfold ptF ytx;rw[if_neg d];refine ytj fun l f=>?_;have m:=a l f;unfold ptK;rw[q,zCM];simp only[beq_iff_eq];rcases m.2.2 with⟨I,h⟩|⟨I,h⟩<;>omega
   rw[D,E];rfl
  .rw[if_neg B]
   have q:k+w<=ptM g c v:=ykh (by omega) fun x z=>by
    obtain⟨A,i,rfl⟩:=List.mem_map.1 z;have m:=a A i;unfold ptK;rcases m.2.2 with⟨_,h⟩|⟨_,h⟩<;>omega
   show k+w<=ptD g c v;unfold ptD;split<;>omega
theorem ycoy{W:List Int}(b:ybh g)(r v:Nat)(s:List Int)(h:ptR g W (r+1) v s):ptR g W r v s:=by
 obtain⟨e,_,_⟩:=ynt b;have a:((r+1:Nat):Int)*yfr g=(r:Int)*yfr g+yfr g:=by rw[zCO,zDC];omega
 unfold ptR at *;rw[a]at h;split at h
 .rename_i d
  split
  .exact h
  .rw[h];show(r:Int)*yfr g<=W.getD v 0;omega
 .rw[if_neg (by omega)];omega
theorem ybpj{W:List Int}(a:IsW g W)(b:ybh g)(h:PtC g c)(e:v<g.ids.length):ptR g W 0 v (c.getD v []):=by
 have d:=b.2.2.1;have:=a.pos v (by omega)
 unfold ptR;rw[show((0:Nat):Int)*yfr g=0 by simp,if_neg (by omega)]
 exact(h.row v e).2.1.1
def yxc(g:Gr)(W:List Int)(c:Conf):Prop:=∀v,v<g.ids.length->c.getD v []=ptS g W v
theorem ycbl{W:List Int}(d:IsW g W)(b:ybh g){c:Conf}{r:Nat}(j:g.ports.length*15<=r)(h:∀v,v<g.ids.length->ptR g W r v (c.getD v [])):yxc g W c:=fun v f=>by
 have e:=b.2.2.1;obtain⟨i,_,_⟩:=ynt b;have a:=h v f;have:=d.small v (by omega)
 have:(r:Int)*1<=(r:Int)*yfr g:=zBD i (by omega)
 unfold ptR at a;rw[if_pos (by omega)]at a
 exact a
theorem ycdz{W:List Int}(b:IsW g W)(d:ybh g){c:Conf}(h:yxc g W c)(r:Nat)(v:Nat)(a:v<g.ids.length):ptR g W r v (c.getD v []):=by
 rw[h v a];unfold ptR;split
 .rfl
 .show _<=W.getD v 0;omega
theorem yckq{W:List Int}(d:IsW g W)(a:ybh g){c:Conf}(f:ydo (yfa nm nd np nt nl) g c=true):ybt (yfa nm nd np nt nl) g c=0↔yxc g W c:=by
 have m:=a.2.2.1;have k:=a.2.1;constructor
 .intro l;have:=(ybpx (nm:=nm) (nd:=nd) (np:=np) (nt:=nt) (nl:=nl) a).silent (P:=ptR g W) (fun c v r j b e=>yble a d (ygp j) b r e) f (fun v h=>ybpj d a (ygp f) h) l;refine ycbl d a (r:=1000) (by omega) fun v b=>this 1000 v b
 .intro h;refine(ybpx (nm:=nm) (nd:=nd) (np:=np) (nt:=nt) (nl:=nl) a).en_zero f (Sh.yzj _ g c) fun v b=>?_;have b:v<g.ids.length:=b;have i:=yble a d (ygp f) b 1000 fun u n=>ycdz d a h 1000 u n;obtain⟨o,_,_⟩:=ynt a;have:=d.small v (by omega)
  have:((1000+1:Nat):Int)*1<=((1000+1:Nat):Int)*yfr g:=zBD o (by omega)
  unfold ptR at i;rw[if_pos (by omega)]at i
  rw[i];exact h v b
end
end
section
def relax(v:Nat)(R:List Int)(l:Int×Int):List Int:=R.set v (min (R.getD v 0) (R.getD l.1.toNat 0+l.2))
def relV(g:Gr)(R:List Int)(v:Nat):List Int:=(g.ports.getD v []).foldl (relax v) R
def relN(g:Gr)(R:List Int)(k:Nat):List Int:=(zAG k).foldl (relV g) R
def yiq(g:Gr)(T:Int):List Int:=(zAG g.ports.length).map fun v=>if v=0 then 0 else T
def yip(g:Gr)(T:Int):Nat->List Int
 |0=>yiq g T
 |r+1=>relN g (yip g T r) g.ports.length
theorem yra{R:List Int}{v x:Nat}{a:Int}(b:v<R.length):(R.set v a).getD x 0=if x=v then a else R.getD x 0:=by
 rw[zAP,List.getElem?_set]
 by_cases h:v=x
 .subst h;simp[b]
 .rw[if_neg h,if_neg (fun e=>h e.symm),zAP]
theorem yyb(v:Nat)(R:List Int)(l:Int×Int):(relax v R l).length=R.length:=by unfold relax;simp
theorem yxd(v:Nat):∀(ls:List (Int×Int)) (R:List Int),(ls.foldl (relax v) R).length=R.length
 |[],_=>rfl
 |l::ls,R=>by rw[zAZ,yxd v ls,yyb]
theorem ycqh(g:Gr)(R:List Int)(v:Nat):(relV g R v).length=R.length:=yxd v _ R
theorem yxr(g:Gr)(R:List Int)(k:Nat):relN g R (k+1)=relV g (relN g R k) k:=by
 unfold relN;rw[zCP,zAL];rfl
theorem ybph(g:Gr)(R:List Int):∀k,(relN g R k).length=R.length
 |0=>rfl
 |k+1=>by rw[yxr,ycqh,ybph g R k]
theorem yrk(g:Gr)(T:Int):∀r,(yip g T r).length=g.ports.length
 |0=>by simp[yip,yiq]
 |r+1=>by show(relN g _ _).length=_;rw[ybph,yrk g T r]
theorem ybjx{f:Type}{p q:f->Bool}:∀{l:List f},(∀x∈l,p x=true->q x=true)->(∃y∈l,q y=true/\p y=false)->l.countP p<l.countP q
 |[],_,h=>by obtain⟨y,a,_⟩:=h;exact absurd a zO
 | x :: l,h,⟨y,a,c,d⟩=>by
   have i:l.countP p<=l.countP q:=List.countP_mono_left fun z b=>h z (zL _ b);rcases List.mem_cons.1 a with rfl|a
   .rw[List.countP_cons_of_pos c,List.countP_cons_of_neg (by rw[d];simp)]
    omega
   .have:=ybjx (l:=l) (fun z b=>h z (zL _ b)) ⟨y,a,c,d⟩;rw[zCJ,zCJ];have j:=h x zT
    by_cases e:p x=true
    .rw[if_pos e,if_pos (j e)];omega
    .rw[if_neg e];omega
section
variable {g:Gr}{W R:List Int}{v:Nat}
def yblk(g:Gr)(W:List Int)(v:Nat):Nat:=(zAG g.ports.length).countP fun u=>decide (W.getD u 0<W.getD v 0)
theorem ycde{u:Nat}(a:u<g.ports.length)(h:W.getD u 0<W.getD v 0):yblk g W u<yblk g W v :=
 ybjx (fun x _ b=>decide_eq_true (by have:=of_decide_eq_true b;omega)) ⟨u,List.mem_range.2 a,decide_eq_true h,decide_eq_false (by omega)⟩
theorem ydkz:yblk g W v<=g.ports.length:=by
 have:=zBQ (p:=fun u=>decide (W.getD u 0<W.getD v 0)) (l:=zAG g.ports.length)
 rwa [List.length_range]at this
structure RelOk(g:Gr)(W R:List Int):Prop where
 len:R.length=g.ports.length
 ge:∀v,v<g.ports.length->W.getD v 0<=R.getD v 0
theorem ybdp(h:RelOk g W R)(a:v<g.ports.length)(l:Int×Int)(x:Nat):(relax v R l).getD x 0=if x=v then min (R.getD v 0) (R.getD l.1.toNat 0+l.2)else R.getD x 0:=by
 unfold relax;exact yra (by rw[h.len];exact a)
theorem ycns(i:ybh g)(f:IsW g W)(h:RelOk g W R)(c:v<g.ports.length){l:Int×Int}(b:l∈g.ports.getD v []):RelOk g W (relax v R l):=by
 refine⟨by rw[yyb,h.len],fun x a=>?_⟩
 obtain⟨_,d,_⟩:=yds i c b;rw[ybdp h c];split
 .rename_i e;subst e;have:=f.le x a l b;have:=h.ge x a;have:=h.ge _ d;omega
 .exact h.ge x a
theorem yzr(f:ybh g)(d:IsW g W)(h:RelOk g W R)(a:v<g.ports.length){l:Int×Int}(b:l∈g.ports.getD v []){x:Nat}(e:R.getD x 0=W.getD x 0):(relax v R l).getD x 0=W.getD x 0:=by
 obtain⟨_,c,_⟩:=yds f a b;rw[ybdp h a];split
 .rename_i q;subst q;have:=d.le x a l b;have:=h.ge _ c;omega
 .exact e
theorem ycdu(k:ybh g)(j:IsW g W)(f:v<g.ports.length):∀(ls:List (Int×Int)) (R:List Int),(∀l∈ls,l∈g.ports.getD v [])->RelOk g W R ->
 RelOk g W (ls.foldl (relax v) R)/\(∀x,R.getD x 0=W.getD x 0->(ls.foldl (relax v) R).getD x 0=W.getD x 0) /\
  ((∃l∈ls,W.getD l.1.toNat 0+l.2=W.getD v 0/\R.getD l.1.toNat 0=W.getD l.1.toNat 0)->(ls.foldl (relax v) R).getD v 0=W.getD v 0)
 |[],R,_,h=>⟨h,fun _ e=>e,fun⟨l,i,_⟩=>absurd i zO⟩
 | l :: ls,R,m,h=>by
   have i:=m l zT;obtain⟨a,b,d⟩:=ycdu k j f ls (relax v R l) (fun x p=>m x (zL _ p)) (ycns k j h f i);refine⟨a,fun x e=>b x (yzr k j h f i e),?_⟩;rintro⟨q,c,n,o⟩;rw[zAZ];rcases List.mem_cons.1 c with rfl|c
   .refine b v ?_;rw[ybdp h f,if_pos rfl];have:=h.ge v f;omega
   .exact d ⟨q,c,n,yzr k j h f i o⟩
theorem ybxu(i:ybh g)(f:IsW g W)(h:RelOk g W R):∀k,k<=g.ports.length ->
 RelOk g W (relN g R k)/\(∀x,R.getD x 0=W.getD x 0->(relN g R k).getD x 0=W.getD x 0) /\
  ∀v,v<k->(∃l∈g.ports.getD v [],W.getD l.1.toNat 0+l.2=W.getD v 0/\R.getD l.1.toNat 0=W.getD l.1.toNat 0)->(relN g R k).getD v 0=W.getD v 0
 |0,_=>⟨h,fun _ e=>e,fun v j=>absurd j (zU v)⟩
 | k + 1,hk=>by
   obtain⟨a,b,d⟩:=ybxu i f h k (by omega)
   obtain⟨n,c,o⟩:=ycdu i f (v:=k) (by omega) (g.ports.getD k []) (relN g R k) (fun _ h=>h) a
   rw[yxr];refine⟨n,fun x e=>c x (b x e),fun v j m=>?_⟩
   by_cases q:v=k
   .subst q;obtain⟨l,s,p,r⟩:=m;exact o ⟨l,s,p,b _ r⟩
   .exact c v (d v (by omega) m)
theorem yboo(j:ybh g)(d:IsW g W){T:Int}(s:15*(g.ports.length:Int)<=T):∀r,RelOk g W (yip g T r)/\∀v,v<g.ports.length->yblk g W v<=r->(yip g T r).getD v 0=W.getD v 0
 | 0 => by
   have h:∀v,v<g.ports.length->(yip g T 0).getD v 0=if v=0 then 0 else T:=fun v c=>by simp[yip,yiq,zJ,c]
   refine⟨⟨yrk g T 0,fun v c=>?_⟩,fun v c t=>?_⟩
   .rw[h v c];have:=d.small v c;split
    .rename_i e;rw[e,d.root];omega
    .omega
   .rw[h v c]
    by_cases f:v=0
    .rw[if_pos f,f,d.root]
    .exfalso
     obtain⟨l,k,e⟩:=d.from_ v c f;obtain⟨_,i,_,q,_⟩:=yds j c k;have:=ycde (g:=g) (W:=W) i (v:=v) (by omega)
     omega
 | r + 1 => by
   obtain⟨a,b⟩:=yboo j d s r;obtain⟨n,o,p⟩:=ybxu j d a g.ports.length (zI _);refine⟨n,fun v c t=>?_⟩
   by_cases f:yblk g W v<=r
   .exact o v (b v c f)
   .have m:v≠0:=fun e=>by
     subst e;refine f ?_
     have:yblk g W 0=0:=by
      unfold yblk;rw[List.countP_eq_zero];intro u w;have:=d.pos u (List.mem_range.1 w);rw[d.root]
      simpa using this
     omega
    obtain⟨l,k,e⟩:=d.from_ v c m;obtain⟨_,i,_,q,_⟩:=yds j c k;have:=ycde (g:=g) (W:=W) i (v:=v) (by omega)
    exact p v c ⟨l,k,e,b _ i (by omega)⟩
theorem ydgy(i:ybh g)(c:IsW g W){T:Int}(h:15*(g.ports.length:Int)<=T){r:Nat}(j:g.ports.length<=r):yip g T r=W:=by
 obtain⟨a,b⟩:=yboo i c h r;refine zBN (by rw[a.len,c.len]) fun v f d=>?_
 have k:v<g.ports.length:=by rw[<-c.len];exact d
 have e:=b v k (Nat.le_trans ydkz j);have l:(yip g T r).getD v 0=(yip g T r)[v]:=by simp[zJ,f]
 have m:W.getD v 0=W[v]:=by simp[zJ,d]
 omega
end
structure RelB(g:Gr)(T:Int)(R:List Int):Prop where
 len:R.length=g.ports.length
 in_:∀x,x<g.ports.length->0<=R.getD x 0/\R.getD x 0<=T
section
variable {g:Gr}{T:Int}{R:List Int}{v:Nat}
theorem RelB.start(b:0<=T):RelB g T (yiq g T):=by
 refine⟨yrk g T 0,fun x a=>?_⟩;have e:(yiq g T).getD x 0=if x=0 then 0 else T:=by simp[yiq,zJ,a]
 rw[e];split<;>omega
theorem RelB.relax(e:ybh g)(h:RelB g T R)(c:v<g.ports.length){l:Int×Int}(f:l∈g.ports.getD v []):RelB g T (relax v R l):=by
 obtain⟨_,d,_,j,_⟩:=yds e c f;refine⟨by rw[yyb,h.len],fun x i=>?_⟩
 unfold Proofs.YthclbjjgfcgbgaaGreatDoor.relax;rw[yra (by rw[h.len];exact c)]
 have a:=h.in_ v c;have b:=h.in_ _ d;split
 .omega
 .exact h.in_ x i
theorem RelB.fold(a:ybh g)(c:v<g.ports.length):∀(ls:List (Int×Int)) (R:List Int),(∀l∈ls,l∈g.ports.getD v [])->RelB g T R->RelB g T (ls.foldl (Proofs.YthclbjjgfcgbgaaGreatDoor.relax v) R)
 |[],_,_,h=>h
 |l::ls,R,b,h=>RelB.fold a c ls _ (fun x d=>b x (zL _ d)) (RelB.relax a h c (b l zT))
theorem RelB.relN(a:ybh g)(h:RelB g T R):∀k,k<=g.ports.length->RelB g T (relN g R k)
 |0,_=>h
 | k+1,hk=>by
   rw[yxr];exact RelB.fold a (by omega) _ _ (fun _ h=>h) (RelB.relN a h k (by omega))
theorem RelB.yip(b:ybh g)(a:0<=T):∀r,RelB g T (yip g T r)
 |0=>RelB.start a
 |r+1=>RelB.relN b (RelB.yip b a r) _ (zI _)
end
end
section
namespace Sh
open Ev Go.RowKit
def blV(l:List Bool):SV:=.sl 1 l.length (fun k=>[.b (l.getD k false)])
def ycon(l:List Bool)(k:Nat):Bool:=(l.take k).any id
structure HeldOk(legit:List Bool)(ks:List Cnt)(rounds moves:Int)(ended:Bool):Prop where
 len:legit.length=ks.length
 pos:0<legit.length
 stays:∀i,i<legit.length->ycon legit i=true->legit.getD i false=true
 rounds:∀i,i<legit.length->ycon legit (i+1)=false->((ks.getD i default).begun:Int)<=rounds
 moves:∀i,i<legit.length->ycon legit (i+1)=false->0<=moves->((ks.getD i default).moves:Int)<=moves
 ends:ycon legit legit.length=true\/ended=false
def ytf(kind:Int)(a silent:Bool)(rounds moves:Int):List SV:=[.i .i64 kind,.b a,.b silent,.i .i64 rounds,.i .i64 moves]
end Sh
end
section
open Go.RowKit
end
section
open Go.RowKit
end
section
namespace Sh
open Ev Go.RowKit
theorem ycqe{n d:Nat}{c:Conf}(h:ConfIn n d c):ydlp c:=fun s a x b=>by
 have:=(h.row s a).2 x b;unfold InB at this;exact ygx (by omega)
end Sh
end
section
namespace Sh
open Go Ev
def ydxj:LO:=[o3 (.mv (.const (.string (ByteArray.mk #[])))) 0 0]
def yeao:LO:=[o3 (.mv (.const (.string (ByteArray.mk #[112,114,111,103,114,97,109,32,112,97,116,104,115,59,10,118,97,114,32,100,32,58,32,48,32,46,46,32,49,53,32,42,32,110,59,10,118,97,114,32,112,32,58,32,112,111,114,116,59,10,114,117,108,101,32,116,111,112,58,32,114,111,111,116,32,38,38,32,40,100,32,33,61,32,48,32,124,124,32,112,32,33,61,32,110,111,110,101,41,32,45,62,32,100,32,58,61,32,48,44,32,112,32,58,61,32,110,111,110,101,59,10,114,117,108,101,32,108,111,119,58,32,33,114,111,111,116,32,38,38,32,40,100,32,33,61,32,40,109,105,110,40,113,46,100,32,43,32,113,46,119,101,105,103,104,116,41,32,60,32,49,53,32,42,32,110,32,63,32,109,105,110,40,113,46,100,32,43,32,113,46,119,101,105,103,104,116,41,32,58,32,49,53,32,42,32,110,41,32,124,124,32,112,32,33,61,32,102,105,114,115,116,40,113,46,100,32,43,32,113,46,119,101,105,103,104,116,32,61,61,32,109,105,110,40,113,46,100,32,43,32,113,46,119,101,105,103,104,116,41,41,41,10,32,32,45,62,32,100,32,58,61,32,40,109,105,110,40,113,46,100,32,43,32,113,46,119,101,105,103,104,116,41,32,60,32,49,53,32,42,32,110,32,63,32,109,105,110,40,113,46,100,32,43,32,113,46,119,101,105,103,104,116,41,32,58,32,49,53,32,42,32,110,41,44,32,112,32,58,61,32,102,105,114,115,116,40,113,46,100,32,43,32,113,46,119,101,105,103,104,116,32,61,61,32,109,105,110,40,113,46,100,32,43,32,113,46,119,101,105,103,104,116,41,41,59,10])))) 0 0]
def c12:SC:=(sr ydxj <| sr yeao <| .ret)
theorem ydpk:Fn 12 c12 [.t 0]:=fn_0 Tryz.func12
def ydyq:LO:=[bx' 27 0 1 0,mb false 2 0]
def yech:LO:=[la' 2 1 3 0,cl' 121 [3] 4 1,mv' 4 2 3]
def c52:SC:=(sr ydyq <| sr yech <| .ret)
theorem yduo:Fn 52 c52 [.t 2]:=fn_0 Tryz.func52
def ydzt:LO:=[bx' 27 0 2 0,mb false 4 0]
def ydse:LO:=[la' 2 2 5 0,cl' 52 [5] 6 1,mv' 6 7 3,gt (.load true 2 (.tmp 2)) 8 7 7,gt (.mv (.tmp 1)) 9 7 7,gt (.faddr 0 1 (.tmp 2)) 10 7 7,gt (.load false 1 (.tmp 10)) 11 7 39,gt (.len (.tmp 11)) 12 7 103,gt (.bin .mul (ci' 15) (.tmp 12)) 13 7 231,gt (.bslice 3 1 2 [.i .i64 0,.i .i64 0] [(0,1,(.tmp 13)),(1,1,(.const (.int .i64 (-1))))]) 14 7 487,gt (.call (.func 89) [(.tmp 8),(.tmp 9),(.tmp 14)]) 15 7 1023,o3 (.pick (.tmp 7) (.tmp 15) (.const (.bool false))) 16 2047,mv' 16 4 4095]
def c69:SC:=(sr ydzt <| sr ydse <| .ret)
theorem yecl:Fn 69 c69 [.t 4]:=fn_0 Tryz.func69
def ydye:LO:=[bx' 27 0 1 0,nl' 2 0]
def ydsp:LO:=[fa' 0 1 1 7 0,ld' 1 7 8 1,ln' 8 9 3,o3 (.mk 3 1 8 [.i .i64 0] (.tmp 9) (.tmp 9)) 10 7,o3 (.alloc 22 1 [.a (.slice none 0 0)]) 3 0,sto 1 3 10 31]
def ydsw:LO:=[ld' 1 3 11 0,ln' 11 12 1,mc 0 13 0]
def ydhg:LO:=[bn' .lss 13 12 14 0]
def ydvh:LO:=[mv' 13 15 0,mv' 15 4 1]
def yecv:LO:=[ld' 1 3 16 0,mv' 4 17 0,fa' 0 1 1 18 0,ld' 1 18 19 4,ln' 19 20 12,o3 (.bin .mul (ci' 15) (.tmp 20)) 21 28,ix' 1 16 17 22 63,sto 1 22 21 127]
def ydzo:LO:=[bc .add 13 1 23 0,mv' 23 13 1]
def ydvc:LO:=[ld' 1 3 24 0,o3 (.idx 1 (.tmp 24) (ci' 0)) 25 1,o0 (.store 1 (.tmp 25) (ci' 0)) 3]
def yeca:LO:=[fa' 0 1 1 26 0,ld' 1 26 27 1,ln' 27 28 3,mc 0 29 0]
def ydmh:LO:=[bn' .lss 29 28 30 0]
def yctd:LO:=[la' 2 1 31 0,cl' 53 [31] 32 1]
def ydeo:LO:=[mv' 33 5 0]
def ydbi:LO:=[o3 (.alloc 68 1 [.i .i64 0,.i .i64 0]) 6 0,sto 2 6 34 1]
def ydfg:LO:=[ld' 1 3 35 0,mv' 5 36 0,ld' 1 3 37 0,mv' 5 38 0,ix' 1 37 38 39 12,ld' 1 39 40 28,ld' 1 3 41 0,fa' 0 1 6 42 0,ld' 1 42 43 128,ix' 1 41 43 44 448,ld' 1 44 45 960,fa' 1 1 6 46 0,ld' 1 46 47 2048,bn' .add 45 47 48 8128,o3 (.mm false (.tmp 40) (.tmp 48)) 49 16380,ix' 1 35 36 50 32767,sto 1 50 49 65535]
def ycuc:LO:=[bc .add 29 1 51 0,mv' 51 29 1]
def ydbj:LO:=[ld' 1 3 52 0,mv' 52 2 1]
def c55:SC:=(sr ydye <| sr ydsp <| .seq (sr ydsw <| .block 0 (.loop (sr ydhg <| .seq (cn 14 .skip (.exit 0)) (.seq (.block 1 (sr ydvh <| .reg false yecv)) (.reg false ydzo))))) (sr ydvc <| .seq (sr yeca <| .block 2 (.loop (sr ydmh <| .seq (cn 30 .skip (.exit 2)) (.seq (.block 3 (sr yctd <| .block 4 (.range (.tmp 32) [33,34] (sr ydeo <| .reg false ydbi) (.block 5 (.reg true ydfg))))) (.reg false ycuc))))) (sr ydbj <| .ret)))
theorem ydrq:Fn 55 c55 [.t 2]:=fn_0 Tryz.func55
def ydro:LO:=[bx' 27 0 2 0,mb false 4 0]
def yduq:LO:=[la' 2 2 9 0,mv' 1 10 0,cl' 69 [9,10] 11 3,o3 (.un .not (.tmp 11)) 12 7]
def yeeg:LO:=[mb false 4 0]
def ydvp:LO:=[la' 2 2 13 0,cl' 55 [13] 14 1,o3 (.alloc 22 1 [.a (.slice none 0 0)]) 5 0,sto 1 5 14 7]
def ydzn:LO:=[mv' 1 15 0,ln' 15 16 1,mc 0 17 0]
def ybvo:LO:=[bn' .lss 17 16 18 0]
def ycgg:LO:=[mv' 17 19 0,ix' 1 15 17 20 0,ld' 1 20 21 2,o3 (.alloc 3 1 [.i .i64 0]) 6 0,sto 1 6 19 15,mv' 21 7 31]
def ybyp:LO:=[mc (-1) 8 0]
def ycgx:LO:=[ld' 1 6 22 0,bc .neq 22 0 23 1]
def ydxr:LO:=[la' 2 2 24 0,ld' 1 6 25 0,o3 (.mkfn 71 [] [(.tmp 5),(.tmp 6)]) 26 0,cl' 70 [24,25,26] 27 7,mv' 27 8 15]
def yxo:LO:=[mv' 7 28 0,o3 (.idx 1 (.tmp 28) (ci' 0)) 29 1,ld' 1 29 30 3,ld' 1 5 31 0,ld' 1 6 32 0,ix' 1 31 32 33 24,ld' 1 33 34 56,bn' .neq 30 34 35 127,mv' 35 36 255,gf (.mv (.tmp 7)) 37 36 511,gf (.idx 1 (.tmp 37) (ci' 1)) 38 36 1023,gf (.load false 1 (.tmp 38)) 39 36 2047,gf (.mv (.tmp 8)) 40 36 511,gf (.bin .neq (.tmp 39) (.tmp 40)) 41 36 8191,pk' 36 41 42 16383]
def ybgd:LO:=[mb false 4 0]
def ycan:LO:=[bc .add 17 1 43 0,mv' 43 17 1]
def ycth:LO:=[mb true 4 0]
def c16:SC:=(sr ydro <| .seq (sr yduq <| cn 12 (sr yeeg <| .ret) .skip) (sr ydvp <| .seq (sr ydzn <| .block 0 (.loop (sr ybvo <| .seq (cn 18 .skip (.exit 0)) (.seq (.block 1 (sr ycgg <| sr ybyp <| .seq (sr ycgx <| cn 23 (.reg false ydxr) .skip) (.seq (.reg true yxo) (cn 42 (sr ybgd <| .ret) .skip)))) (.reg false ycan))))) (sr ycth <| .ret)))
theorem ydpy:Fn 16 c16 [.t 4]:=fn_0 Tryz.func16
def ydpl:LO:=[bx' 68 0 3 0,mb false 4 0]
def ydzy:LO:=[ld' 1 1 5 0,fa' 0 1 3 6 0,ld' 1 6 7 2,ix' 1 5 7 8 7,ld' 1 8 9 15,fa' 1 1 3 10 0,ld' 1 10 11 32,bn' .add 9 11 12 127,ld' 1 1 13 0,ld' 1 2 14 0,ix' 1 13 14 15 768,ld' 1 15 16 1792,bn' .eql 12 16 17 4095,mv' 17 4 8191]
def c71:SC:=(sr ydpl <| .seq (.reg true ydzy) .ret)
theorem ydsi:Fn 71 c71 [.t 4]:=fn_0 Tryz.func71
def ydzh:LO:=[bx' 27 0 1 0,o3 (.alloc 36 1 [.i .i64 0,.b false,.b false,.i .i64 0,.i .i64 0]) 2 0]
def yeal:LO:=[la' 2 1 7 0,cl' 52 [7] 8 1,o3 (.un .not (.tmp 8)) 9 3]
def yeey:LO:=[o3 (.build [.i .i64 0,.b false,.b false,.i .i64 0,.i .i64 0] []) 10 0,sto 5 2 10 1]
def yecw:LO:=[o3 (.alloc 3 1 [.i .i64 0]) 3 0,o0 (.store 1 (.tmp 3) (ci' 0)) 1]
def ydsy:LO:=[la' 2 1 11 0,cl' 53 [11] 12 1]
def yckz:LO:=[o3 (.alloc 68 1 [.i .i64 0,.i .i64 0]) 5 0,sto 2 5 14 1]
def ycqc:LO:=[ld' 1 3 15 0,bc .eql 15 0 16 1,mv' 16 17 3,gf (.faddr 1 1 (.tmp 5)) 18 17 7,gf (.load false 1 (.tmp 18)) 19 17 15,gf (.load false 1 (.tmp 3)) 20 17 7,gf (.bin .lss (.tmp 19) (.tmp 20)) 21 17 63,pk' 17 21 22 127]
def ydiq:LO:=[fa' 1 1 5 23 0,ld' 1 23 24 1,sto 1 3 24 3]
def ydsm:LO:=[la' 2 1 25 0,cl' 55 [25] 26 1,cl' 54 [26] 27 3,ld' 1 3 28 0,o3 (.mm true (.tmp 28) (ci' 1)) 29 8,bn' .quo 27 29 30 31,bc .add 30 1 31 63,mv' 31 6 127]
def ydsd:LO:=[mv' 6 32 0,o3 (.build [.i .i64 0,.b false,.b false,.i .i64 0,.i .i64 0] [(0,1,(ci' 3)),(2,1,(.const (.bool true))),(3,1,(.tmp 32)),(4,1,(.const (.int .i64 (-1))))]) 33 1,sto 5 2 33 3]
def c13:SC:=(sr ydzh <| .seq (sr yeal <| cn 9 (sr yeey <| .ret) .skip) (sr yecw <| .seq (sr ydsy <| .block 0 (.range (.tmp 12) [13,14] (.reg false yckz) (.block 1 (sr ycqc <| cn 22 (.reg false ydiq) .skip)))) (.seq (.reg true ydsm) (sr ydsd <| .ret))))
theorem ydzi:Fn 13 c13 [.c 2 true 5]:=fn_0 Tryz.func13
def ydso:LO:=[bx' 27 0 1 0,o3 (.mv (.const (.nilFunc))) 2 0]
def yebi:LO:=[o3 (.mkfn 122 [] [(.tmp 1)]) 3 0,mv' 3 2 1]
def c53:SC:=(sr ydso <| sr yebi <| .ret)
theorem ydqe:Fn 53 c53 [.t 2]:=fn_0 Tryz.func53
end Sh
end
section
namespace Sh
open Ev Go.RowKit
def intsO(n:Nat)(f:Nat->Int):OB:=⟨3,false,1,n,fun j=>[.i .i64 (f j)]⟩
theorem yboi{g:Gr}{T:Int}{j:Nat}(a:j<g.ports.length):(yiq g T).getD j 0=if j=0 then 0 else T:=by simp[yiq,zJ,a]
end Sh
end
section
namespace Sh
open Go Ev Go.RowKit
section
variable {m:Mem}{F:AM}
theorem row_of{z c p n cp N e u:Nat}{Tb:Ev.T Value}{L:Nat->List Value}(q:m.b.get c=some (.cells Tb N e u))(v:0<n)(r:p+n*z<=N)(f:∀a,a<n->(L a).length=z)(s:∀a,a<n->∀j,j<z->Tb.get (p+a*z+j)=(L a)[j]?) :
 rowOf m z (.slice (some ⟨c,p,none⟩) n cp)=some (ycq L n,[c]):=by
 have i:=yct f;show(bif zQ n 0 then _ else _)=_;rw[show zQ n 0=false by cases n with|zero=>omega|succ n=>rfl]
 simp only[cond_false];rw[q];simp only;rw[zS r];simp only[cond_true]
 have g:=yif (T:=Tb) (L:=ycq L n) (o:=p) (fun j h=>by
  rw[i]at h;rcases zBH z with d|d
  .subst d;omega
  .have t:=Nat.div_add_mod j z;have k:=Nat.mod_lt j d;have hk:j/z<n:=Nat.div_lt_of_lt_mul (by rwa [zCX]at h)
   have l:j=j/z*z+j%z:=by rw[zCX];exact t.symm
   rw[l,yhb f _ _ hk k,<-Nat.add_assoc];exact s _ hk _ k)
 rw[i]at g;rw[g]
theorem row_zero{u:Value}(h:Z0 u)(z:Nat):rowOf m z u=some ([],[]):=by
 rcases h with rfl|⟨b,o,c,rfl⟩
 .rfl
 .rfl
theorem in64{n:Int}(h:I64 n):yzh n=true:=by
 unfold I64 at h;unfold yzh;split
 .rename_i k;exact zS (by simp only[Int.ofNat_eq_natCast]at h;omega)
 .rename_i k;exact zS (by omega)
theorem ytn{a b:Int}(c:I64 a)(d:I64 b):∀{l:List Value}{r:List (Int×Int)},yjl l=some r->yjl (l++[.int .i64 a,.int .i64 b])=some (r++[(a,b)])
 | [],r,h=>by
   cases h
   show(bif yzh a&&yzh b then _ else _)=_;rw[in64 c,in64 d];rfl
 | .int .i64 x :: .int .i64 y::l,r,h=>by
   unfold yjl at h;split at h
   .rename_i g f
    rw[zCK]at h;split at h
    .rename_i e
     cases h
     show(match yjl (l++[.int .i64 a,.int .i64 b])with|some r=>bif yzh x&&yzh y then some ((x,y)::r)else none|none=>none)=_
     rw[ytn c d f];simp only[e,cond_true];rfl
    .cases h
   .cases h
theorem ybao(s:Le F m.b.get){ls:List (Int×Int)}{u:Value}(h:RV F om0 (ybc ls) u)(t:∀l∈ls,I64 l.1/\I64 l.2):ykz m u=some ls:=by
 unfold ykz;rcases h.sl_inv with⟨c,z⟩|⟨B,p,C,T,N,e,H,L,rfl,j,D,k,o,q,r,E⟩
 .rw[row_zero z];have:ls=[]:=zAD c;subst this;rfl
 .rcases zBH ls.length with c|c
  .have:ls=[]:=zAD c;subst this;rfl
  .rw[row_of (s _ _ j) c k o q]
   have:∀n,n<=ls.length->yjl (ycq L n)=some (ls.take n):=by
    intro n
    induction n with
    |zero=>intro _;rfl
    | succ n A =>
      intro G;have a:n<ls.length:=by omega
      have d:=r n a
      have g:L n=[.int .i64 ls[n].1,.int .i64 ls[n].2]:=by
       have f:ls.getD n (0,0)=ls[n]:=by simp[zJ,a]
       rw[f]at d;obtain⟨x,y,i,v,w⟩:=rvl2 d;rw[i,v.int_inv,w.int_inv]
      show yjl (ycq L n++L n)=_;rw[g,zAI a];have:=t ls[n] (zM a);exact ytn this.1 this.2 (A (by omega))
   simp only;rw[this _ (zI _),zZ]
theorem yckc{d e:Type}{f:d->Option e}:∀{l:List d}{r:List e},l.length=r.length->(∀(k:Nat) x y,l[k]?=some x->r[k]?=some y->f x=some y)->mapO f l=some r
 |[],[],_,_=>rfl
 | x::l,y::r,c,h=>by
   unfold mapO;rw[h 0 x y rfl rfl];simp only;rw[yckc (by simpa using c) fun k a b g i=>h (k+1) a b (by simpa using g) (by simpa using i)]
 |[],_::_,c,_=>by simp at c
 |_::_,[],c,_=>by simp at c
theorem ybim{L:Nat->List Value}{n:Nat}(h:∀a,a<n->(L a).length=1){k:Nat}(hk:k<n):(ycq L n)[k]?=(L k)[0]?:=by
 have:=yhb h k 0 hk (by omega)
 simpa using this
theorem ybvu{ids:SV}{P:List (List (Int×Int))}{u:Value}(h:RV F om0 (.rf [ids,yu P]) u)(R:∀ls∈P,∀l∈ls,I64 l.1/\I64 l.2) :
 ∃A v us,u = .pointer (some A)/\∀m:Mem,Le F m.b.get->yjn m A=some ⟨v,us,P⟩:=by
 obtain⟨s,p,T,N,e,zz,L,rfl,K,M,O,Q,_⟩:=h.rf_inv;cases Q with
 | cons a0 B =>
   cases B with
   | cons z C =>
     rename_i u0 _ j _
     cases C
     have d:∀m:Mem,Le F m.b.get->ynh m ⟨s,p,none⟩=some j:=fun m c=>by
      unfold ynh;simp only;rw[c _ _ K];simp only;rw[show zAM (p+1) N=true from zS (show p+1+1<=N by simp at M;omega)]
      simp only[cond_true];exact O 1 (by simp)
     have a:∀(us:List Value) (t:List Nat),(∀m:Mem,Le F m.b.get->rowOf m 1 j=some (us,t))->us.length=P.length->(∀(k:Nat) x y,us[k]?=some x->P[k]?=some y->RV F om0 (ybc y) x) ->
      ∃A v us,Value.pointer (some ⟨s,p,none⟩) = .pointer (some A)/\∀m:Mem,Le F m.b.get->yjn m A=some ⟨v,us,P⟩:=fun us t S i V=>by
      refine⟨_,j,us,rfl,fun m c=>?_⟩;unfold yjn;rw[d m c];show ob (rowOf m 1 j) _=_;rw[S m c];show ob (mapO (ykz m) us) _=_;rw[yckc i fun k x y f g=>ybao c (V k x y f g) (R y (zBR g))];rfl
     rcases z.sl_inv with⟨X,W⟩|⟨n,p',cp,T',Z,e',Y,w,rfl,G,g2,H,o,I,J,g7⟩
     .have:P=[]:=zAD X;subst this;exact a [] [] (fun m _=>row_zero W 1) rfl (fun k x y q _=>by simp at q)
     .rcases zBH P.length with r|r
      .have:P=[]:=zAD r;subst this;exact a [] [] (fun m _=>rfl) rfl (fun k x y q _=>by simp at q)
      .refine a (ycq w P.length) [n] (fun m c=>row_of (c _ _ G) r H o I) (by rw[yct o,zDA]) fun k x y f g=>?_
       have hk:k<P.length:=(List.getElem?_eq_some_iff.1 g).1;rw[ybim o hk]at f;have i:=J k hk;have D:P.getD k []=y:=by simp[zJ,g]
       rw[D]at i;obtain⟨v,E,U⟩:=rvl1 i;rw[E]at f;cases f
       exact U
end
def yef(P:List (List (Int×Int)))(k:Nat):El:=(ybp 0 P).getD k ⟨0,0,0⟩
def ybgp(P:List (List (Int×Int))):ItS:=⟨(ybp 0 P).length,fun k=>[.i .i64 (yef P k).v,.ag [.i .i64 (yef P k).a,.i .i64 (yef P k).b]],[],fun _ _=>True,fun _ o=>o⟩
theorem ybrq{ids:SV}{P:List (List (Int×Int))}(hI:∀ls∈P,∀l∈ls,I64 l.1/\I64 l.2):ItC zH 122 [.rf [ids,yu P]] (ybgp P):=by
 intro lo F ω s f m us hc hr _;obtain⟨u,rfl,hu⟩:=rvl1 hr
 have R:RV F om0 (.rf [ids,yu P]) u:=by
  obtain⟨bk,p,T,N,e,zz,L,rfl,o,O,H,Q,h5⟩:=hu.rf_inv;exact .rf o O H Q h5
 obtain⟨A,v,X,rfl,hg⟩:=ybvu R hI;have K:∀k,k<(ybp 0 P).length->(ybp 0 P)[k]?=some (yef P k):=fun k hk=>by simp[yef,zJ,hk]
 refine⟨⟨(ybp 0 P).length,fun k=>[(yef P k).v0,(yef P k).v1],fun _ m=>yjn m A=some ⟨v,X,P⟩,fun _ m=>m,fun _ _ M w g n=>g=M/\n=w⟩,⟨ybel.1,fun k m hk W _=>Grow.refl W,?_,?_⟩,rfl,fun F' a0 s' f' m' k hF _ B hk _=>⟨hg m' (hF.trans B.sub),fun hk=>⟨.cons .i (.cons (.ag (.cons .i (.cons .i .nil))) .nil),B⟩⟩⟩
 .rintro k I M w m g n hk W hR hs hp ⟨rfl,rfl⟩;exact Good.refl hR hs
 .intro l Y y I M w V r q j h0 C;obtain⟨box,rfl,z⟩:=ygg C;refine CallsIn.mono (ybel.2 l A ⟨v,X,P⟩ (fun pre a g n=>I.le a/\(∃c,ybp 0 P=pre++c)/\Y pre.length a g n) y I M w box ?_ ?_ ?_ ⟨I.le_refl,⟨_,rfl⟩,h0⟩ z) ?_
  .rintro pre a g n ⟨_,_,b⟩;exact(r _ _ _ _ b).2
  .rintro pre a g n E ⟨o,O,b⟩ hb;exact⟨o,O,q _ _ _ _ _ b hb⟩
  .rintro pre x c a g n ⟨o,_,b⟩ d;have d:ybp 0 P=pre++x::c:=d;have hk:pre.length<(ybp 0 P).length:=by rw[d];simp
   have ex:yef P pre.length=x:=by
    have:=K _ hk;rw[d,List.getElem?_append_right (zI _)]at this
    simpa using this.symm
   obtain⟨fn,D,J,Z,S,U⟩:=j pre.length a g n [x.v0,x.v1] hk b (by
    show VRL a [(yef P pre.length).v0,(yef P pre.length).v1] _;rw[ex];exact .cons (.simple rfl) (.cons (VR.ydd (v:=x.v1) rfl) .nil))
   refine⟨fn,D,J,Z,S,U.mono ?_⟩
   .rintro e E (⟨he,G,t,H,_,Q⟩|h)
    .refine .inl ⟨he,G,t,H,Phi.le_trans o H,⟨c,by rw[d];simp⟩,?_⟩
     rw[zAK];exact Q t E ⟨rfl,rfl⟩
    .exact .inr h
  .rintro e n ⟨o,(⟨a,g,_,_,b⟩|h)⟩
   .exact⟨o,.inl ⟨a,g,b⟩⟩
   .exact⟨o,.inr h⟩
end Sh
end
section
open Ev
theorem ybfj:∀(ps:List (List (Int×Int))) (v:Nat) (x:El),x∈ybp v ps->v<=x.v/\x.v<v+ps.length/\(x.a,x.b)∈ps.getD (x.v-v) []
 |[],_,_,h=>absurd h zO
 | ls::l,v,x,h=>by
   rcases List.mem_append.1 h with h|h
   .obtain⟨y,d,rfl⟩:=List.mem_map.1 h;refine⟨zI _,by simp,?_⟩
    simp only[zCY,zBV];exact d
   .obtain⟨f,g,c⟩:=ybfj l (v+1) x h;refine⟨by omega,by simp only[zCF];omega,?_⟩
    have e:x.v-v=(x.v-(v+1))+1:=by omega
    rw[e,zBW];exact c
theorem ybxr{g:Gr}{k:Nat}(hk:k<g.ports.length):ybp 0 (g.ports.take (k+1))=ybp 0 (g.ports.take k)++(g.ports.getD k []).map fun x=>(⟨k,x.1,x.2⟩:El):=by
 have h:=ypc (ps:=g.ports) (k:=k) (ls:=g.ports.getD k []) (by simp[zJ,hk])
 rw[<-h];unfold yhm;rw[zZ]
theorem ybhi{b:Type}{g:Gr}(f:b->El->b)(a:b):∀k,k<=g.ports.length->(ybp 0 (g.ports.take k)).foldl f a=(zAG k).foldl (fun a v=>(g.ports.getD v []).foldl (fun a l=>f a ⟨v,l.1,l.2⟩) a) a
 |0,_=>by simp[ybp]
 | k+1,hk=>by
   rw[ybxr (by omega),zAL,ybhi f a k (by omega),zCP,zAL,zCR]
   rfl
theorem yckd{b:Type}{g:Gr}(f:b->El->b)(a:b):(ybp 0 g.ports).foldl f a=(zAG g.ports.length).foldl (fun a v=>(g.ports.getD v []).foldl (fun a l=>f a ⟨v,l.1,l.2⟩) a) a:=by
 have:=ybhi (g:=g) f a g.ports.length (zI _)
 rwa [zZ]at this
theorem ymx{g:Gr}(f:ybh g){k:Nat}(hk:k<(ybp 0 g.ports).length):(Sh.yef g.ports k).v<g.ports.length/\((Sh.yef g.ports k).a,(Sh.yef g.ports k).b)∈g.ports.getD (Sh.yef g.ports k).v []:=by
 have d:Sh.yef g.ports k∈ybp 0 g.ports:=by unfold Sh.yef;rw[Sh.getD_at hk];exact zM hk
 obtain⟨_,e,c⟩:=ybfj _ _ _ d;exact⟨by omega,by simpa using c⟩
theorem yma{b:Type}{g:Gr}(f:b->El->b)(a:b){k:Nat}(hk:k<(ybp 0 g.ports).length):((ybp 0 g.ports).take (k+1)).foldl f a=f (((ybp 0 g.ports).take k).foldl f a) (Sh.yef g.ports k):=by
 rw[zAI hk,zAL];unfold Sh.yef;rw[Sh.getD_at hk];rfl
theorem ybgo{g:Gr}(b:ybh g):∀ls∈g.ports,∀l∈ls,I64 l.1/\I64 l.2:=fun ls a l f=>by
 obtain⟨v,c,e⟩:=zY a;have d:=b.2.1;have:g.ports.getD v []=ls:=by simp[zJ,c,e]
 obtain⟨h,i,_,j,k⟩:=yds b c (by rw[this];exact f)
 exact⟨Sh.ygx (by omega),Sh.ygx (by omega)⟩
end
section
namespace Sh
open Ev Go.RowKit
theorem ybfx{g:Gr}:Returns zH 53 [grV g] (.fn 122 [] [.rf [yba g.ids,yu g.ports]]):=by
 refine Returns.of (ydqe _ _ ?_);simp only[c53,ydso,yebi,grV,clash,go_sem,zA,zB,zK,zD];exact Sim.refl _
end Sh
end
section
namespace Sh
open Ev Go.RowKit
def ybht(R:List Int)(e:El):List Int:=relax e.v R (e.a,e.b)
theorem ycjf(g:Gr)(R:List Int):(ybp 0 g.ports).foldl ybht R=relN g R g.ports.length:=by
 rw[yckd];rfl
theorem yced{g:Gr}(a:ybh g){T:Int}{R:List Int}(h:RelB g T R):∀k,k<=(ybp 0 g.ports).length->RelB g T (((ybp 0 g.ports).take k).foldl ybht R)
 |0,_=>by simpa using h
 | k+1,hk=>by
   rw[yma ybht R (by omega)]
   obtain⟨b,c⟩:=ymx a (k:=k) (by omega)
   exact RelB.relax a (yced a h k (by omega)) b c
set_option maxHeartbeats 1000000 in
theorem ybgu{g:Gr}(f:ybh g):Returns zH 55 [grV g] (yba (yip g (15*(g.ports.length:Int)) g.ports.length)):=by
 refine Returns.of (ydrq _ _ ?_);obtain⟨n,w⟩:∃n,g.ports.length=n:=⟨_,rfl⟩;have G:=f.1;have s:=f.2.1;have c:=f.2.2.1;rw[w]at G s c;obtain⟨T,z⟩:∃T,15*(n:Int)=T:=⟨_,rfl⟩;have m:=fun r=>yrk g T r;have l:=ybfx (g:=g);rw[w,z];simp only[grV,yba,c]at l;simp only[c55,ydye,ydsp,ydsw,grV,yba,c,clash,go_sem,zA,zB,zK,zD];refine⟨⟨by omega,by omega,by omega⟩,?_⟩
 refine ybf (σ:=Nat) (fun k=>⟨[(13,.i .i64 k),(12,.i .i64 n),(3,.pt (3,0) 0 0),(1,.pt (1,0) 0 0)],[(3,.one (some ⟨22,true,1,1,fun _=>[.os (10,0) 0 n true]⟩)),(10,.one (some (intsO n fun j=>if j<k then T else 0))),(1,.one (some ⟨27,true,2,1,fun _=>[yba g.ids,yu g.ports]⟩))]⟩) (fun k=>k<=n) (fun k=>n-k) 0 (zAA _) ?_ ?_
 .refine yw ?_;simp only[intsO,yba,c,zU,wk,go_sem,zA,zD]
 intro k hk
 by_cases L:k<n
 .have t1:decide ((k:Int)<(n:Int))=true:=decide_eq_true (by omega)
  simp only[ydhg,ydvh,yecv,ydzo,yba,c,t1,intsO,clash,splice,z,go_sem,zA,zB,zK];refine⟨ikw (by omega) (by omega),⟨by omega,by omega⟩,by omega,ikw (by omega) (by omega),?_⟩
  refine ybz (k+1) ?_;refine yw ?_;simp only[wk,go_sem,zA,zD];refine⟨by omega,fun j u=>?_⟩
  by_cases q:j=k
  .subst q;simp only[if_pos (zCL j)];simp only[go_sem,wk,go_sem]
  .have e:(if j<k+1 then T else 0)=if j<k then T else 0:=by
    by_cases D:j<k
    .rw[if_pos D,if_pos (by omega)]
    .rw[if_neg D,if_neg (by omega)]
   simp only[if_neg q,e];simp only[go_sem,wk,go_sem]
 .obtain rfl:k=n:=by omega
  have t1:decide ((k:Int)<(k:Int))=false:=decide_eq_false (by omega)
  simp only[ydhg,ydvc,yeca,yba,c,t1,intsO,clash,splice,go_sem,zAB,zA,zB,zK];refine⟨by omega,by omega,?_⟩
  refine ybf (σ:=Nat) (fun r=>⟨[(29,.i .i64 r),(28,.i .i64 k),(3,.pt (3,0) 0 0),(1,.pt (1,0) 0 0)],[(3,.one (some ⟨22,true,1,1,fun _=>[.os (10,0) 0 k true]⟩)),(10,.one (some (intsO k fun j=>(yip g T r).getD j 0))),(1,.one (some ⟨27,true,2,1,fun _=>[yba g.ids,yu g.ports]⟩))]⟩) (fun r=>r<=k) (fun r=>k-r) 0 (zAA _) ?_ ?_
  .refine yw ?_;simp only[intsO,yba,c,wk,go_sem,zA,zD];intro j u;have e:(yip g T 0).getD j 0=if j=0 then 0 else T:=yboi (by omega)
   rw[e,if_pos u];split<;>simp only[go_sem,wk,go_sem]
  intro r Q
  by_cases B:r<k
  .have t2:decide ((r:Int)<(k:Int))=true:=decide_eq_true (by omega)
   simp only[ydmh,yctd,yba,c,t2,intsO,go_sem,zA,zB];refine l.use ?_;simp only[ybk,clash,go_sem];have t:=RelB.yip (T:=T) f (by omega) r
   refine yky (ybrq (ybgo f)) [(3,0),(1,0)] (fun i (_:Unit)=>⟨[(32,.fn 122 [] [.rf [.sl 1 k fun j=>[.i .i64 (g.ids.getD j 0)],yu g.ports]]),(29,.i .i64 r),(28,.i .i64 k),(3,.pt (3,0) 0 0),(1,.pt (1,0) 0 0)],
    [(3,.one (some ⟨22,true,1,1,fun _=>[.os (10,0) 0 k true]⟩)),(10,.one (some (intsO k fun j=>(((ybp 0 g.ports).take i).foldl ybht (yip g T r)).getD j 0))),(1,.one (some ⟨27,true,2,1,fun _=>[yba g.ids,yu g.ports]⟩))]⟩) (fun i _=>i<=(ybp 0 g.ports).length) () (zAA _) ⟨fun _ h=>absurd h zO,fun _ h=>absurd h zO⟩ ?_ (fun _=>rfl) ?_ ?_ ?_
   .refine yw ?_;simp only[intsO,yba,c,zCS,wk,go_sem,zA,zD]
   .intro i _ A _;refine⟨trivial,?_⟩;simp only[go_sem,wk,go_sem,zA]
   .intro i _ A d;have d:i<(ybp 0 g.ports).length:=d;obtain⟨p,y⟩:=ymx f d;have o:=yced f t i A;have x:=yma ybht (yip g T r) d;refine⟨_,rfl,?_⟩;show vc _ _ _ ⟨_,_⟩;simp only[ybgp];simp only[ydeo,ydbi,ydfg,intsO,clash,splice,go_sem,zA,zB,zK,zD];obtain⟨R,J⟩:∃R,((ybp 0 g.ports).take i).foldl ybht (yip g T r)=R:=⟨_,rfl⟩;obtain⟨E,I⟩:∃E,yef g.ports i=E:=⟨_,rfl⟩;obtain⟨M,C,_,N,O⟩:=yds f p y;rw[J]at o x ⊢;rw[I]at p y x M C N O ⊢
    have P:=o.in_ _ p;have F:=o.in_ _ C;have H:=o.len;simp only at F;refine⟨⟨by omega,by omega⟩,by omega,⟨by omega,by omega⟩,by omega,ikw (by omega) (by omega),⟨by omega,by omega⟩,by omega,by decide,by omega,?_⟩
    refine ybi [] [] [] ?_;simp only[yba,c,x,wk,go_sem,zA,zD];intro j u
    have e:(ybht R E).getD j 0=if j=E.v then min (R.getD E.v 0) (R.getD E.a.toNat 0+E.b)else R.getD j 0:=by
     unfold ybht relax;exact yra (by omega)
    rw[e];split<;>simp only[go_sem,wk,go_sem]
   .intro _ _;simp only[ycuc,intsO,clash,ybgp,zZ,ycjf,go_sem,zA,zB];refine⟨ikw (by omega) (by omega),?_⟩
    refine ybz (r+1) ?_;refine yw ?_;have K:yip g T (r+1)=relN g (yip g T r) g.ports.length:=rfl;rw[K];simp only[yba,c,wk,go_sem,zA,zD];omega
  .obtain rfl:r=k:=by omega
   have t2:decide ((r:Int)<(r:Int))=false:=decide_eq_false (by omega)
   simp only[ydmh,ydbj,yba,c,t2,intsO,clash,go_sem,zA,zB];rw[m,w];exact Sim.refl _
end Sh
end
section
namespace Sh
open Go Ev
end Sh
end
section
namespace Sh
open Ev Go.RowKit
theorem ycdl{g:Gr}(f:GrI g):Returns zH 121 [grV g] (.b (yil g)):=by
 refine ybot ⟨_,_,zBY,rfl⟩ (fun _=>.b) (fun _=>.simple rfl) fun G m n e h o M w l a i j=>?_;obtain⟨u,rfl,c⟩:=rvl1 h;obtain⟨k,rfl,d⟩:=ygg j;exact ybby k g w (ydjn e c d a i f)
end Sh
end
section
namespace Sh
open Ev Go.RowKit
theorem ycqf{g:Gr}(n:ybh g){c:Conf}(C:ydlp c){G:List Int}(B:∀x∈G,I64 x):Returns zH 89 [grV g,ycn c,yba G] (.b (yyp g.ports.length (yfu g G) c)):=by
 refine ybot ⟨_,_,zCE,rfl⟩ (fun _=>.b) (fun _=>.simple rfl) fun H m J h D o M w l a i E=>?_
 obtain⟨u,d,rfl,p,q⟩:∃u d,J=u::d/\RV H om0 (grV g) u/\RVL H om0 [ycn c,yba G] d:=by
  cases D with|cons x y=>exact⟨_,_,rfl,x,y⟩
 obtain⟨F,I,rfl,r,s⟩:=rvl2 q
 obtain⟨f,e,rfl,t,v⟩:∃f e,l=f::e/\VR o u f/\VRL o [F,I] e:=by
  cases E with|cons x y=>exact⟨_,_,rfl,x,y⟩
 obtain⟨j,k,rfl,z,A⟩:=ybcf v;exact ysh f j k g c G w (ydjn h p t a i (ycgz n)) (ydgt h r z a i C) (ints_at h s A a i B) n
end Sh
end
section
namespace Sh
open Go Ev
end Sh
end
section
namespace Sh
open Ev Go.RowKit
end Sh
end
section
namespace Ev
theorem yue:∀l:List UInt8,ymj l l=true
 |[]=>rfl
 | x::l=>by
   show(zQ x.toNat x.toNat&&ymj l l)=true;rw[zN,yue l];rfl
theorem ybam{ρ:Nat->Nat}{a:Addr}(h:a.spot.isNone=true):yyl (renA ρ a) (renA ρ a)=true:=by
 rw[ymg];unfold yyl;simp only[zN,h,Bool.and_self]
theorem ybyh{ρ:Nat->Nat}{v:Value}(b:yun v=true)(h:eq1 v v=true):eq1 (ren1 ρ v) (ren1 ρ v)=true:=by
 unfold yun at b;split at b
 .exact ybam b
 .rename_i a n c
  show(yyl (renA ρ a) (renA ρ a)&&zQ n n&&zQ c c)=true;rw[ybam b,zN,zN];rfl
 .rename_i d e
  have:ren1 ρ v=v:=by
   unfold ren1;split
   .rename_i a;exact absurd rfl (d a)
   .rename_i a n c;exact absurd rfl (e a n c)
   .rfl
  rw[this];exact h
theorem yuw{ρ:Nat->Nat}:∀{l:List Value},l.all yun=true->eqL1 l l=true->eqL1 (l.map (ren1 ρ)) (l.map (ren1 ρ))=true
 |[],_,_=>rfl
 | x::l,a,h=>by
   simp only[List.all_cons,zF]at a;have h:(eq1 x x&&eqL1 l l)=true:=h;rw[zF]at h;show(eq1 (ren1 ρ x) (ren1 ρ x)&&eqL1 (l.map (ren1 ρ)) (l.map (ren1 ρ)))=true;rw[ybyh a.1 h.1,yuw a.2 h.2];rfl
theorem ycfz{v:Value}(b:∀a,v = .agg a->False)(d:∀g a c,v = .func (.func g) a c->False):eq2 v v=eq1 v v:=by
 cases v with
 |agg a=>exact(b a rfl).elim
 | func f a c=>cases f with
   |func g=>exact(d g a c rfl).elim
   |_=>rfl
 |_=>rfl
theorem ycbn{ρ:Nat->Nat}{v:Value}(b:∀a,v = .agg a->False)(d:∀g a c,v = .func (.func g) a c->False)(e:yun v=true):ren2 ρ v=ren1 ρ v:=by
 cases v with
 |agg a=>exact(b a rfl).elim
 | func f a c=>cases f with
   |func g=>exact(d g a c rfl).elim
   |_=>cases e
 |_=>rfl
theorem ybbl{ρ:Nat->Nat}{v:Value}(b:yun v=true):(∀a,ren1 ρ v = .agg a->False)/\∀g a c,ren1 ρ v = .func (.func g) a c->False:=by
 cases v with
 |agg a=>cases b
 |func f a c=>cases b
 |pointer p=>cases p<;>exact⟨fun _ h=>(by cases h),fun _ _ _ h=>(by cases h)⟩
 |slice p n c=>cases p<;>exact⟨fun _ h=>(by cases h),fun _ _ _ h=>(by cases h)⟩
 |_=>exact⟨fun _ h=>(by cases h),fun _ _ _ h=>(by cases h)⟩
theorem ycfc{ρ:Nat->Nat}{v:Value}(b:yok v=true)(h:eq2 v v=true):eq2 (ren2 ρ v) (ren2 ρ v)=true:=by
 unfold yok at b;split at b
 .rename_i a
  have h:eqL1 a.toList a.toList=true:=h;show eqL1 (a.toList.map (ren1 ρ)).toArray.toList (a.toList.map (ren1 ρ)).toArray.toList=true;exact yuw b h
 .rename_i g a c
  rw[zF]at b;have h:(zQ g g&&eqL1 a.toList a.toList&&eqL1 c.toList c.toList)=true:=h;simp only[zF]at h;show(zQ g g&&eqL1 (a.toList.map (ren1 ρ)).toArray.toList (a.toList.map (ren1 ρ)).toArray.toList&&eqL1 (c.toList.map (ren1 ρ)).toArray.toList (c.toList.map (ren1 ρ)).toArray.toList)=true;rw[zN,yuw b.1 h.1.2,yuw b.2 h.2];rfl
 .rename_i d e
  rw[ycfz d e]at h;rw[ycbn d e b,ycfz (ybbl b).1 (ybbl b).2];exact ybyh b h
def reflB(b:BlkL):Bool:=b.l.all (fun v=>eq2 v v&&yok v)&&zAM b.l.length 1000000
theorem ywq{ρ:Nat->Nat}{b:BlkL}(h:reflB b=true):∀v∈(b.ren ρ).l,eq2 v v=true:=by
 unfold reflB at h;rw[zF]at h;intro v a;obtain⟨x,c,rfl⟩:=List.mem_map.1 a;have:=List.all_eq_true.1 h.1 x c;rw[zF]at this;exact ycfc this.2 this.1
theorem yqu{l:List Value}(h:∀v∈l,eq2 v v=true):∀(k:List Value) (n:Nat),l.drop n=k->ykx (tOf l) n k=true
 |[],_,_=>rfl
 | v :: k,n,e=>by
   have a:n<l.length:=by
    rcases zBA n l.length with q|q
    .exact q
    .rw[List.drop_eq_nil_of_le q]at e;cases e
   rw[List.drop_eq_getElem_cons a]at e
   injection e with e1 e2
   unfold ykx;rw[ydf,zG a,e1];simp only;rw[h v (by rw[<-e1];exact zM _),yqu h k (n+1) e2]
   rfl
theorem yru{m:Mem}{b:BlkL}(a:m.b.get b.i=some b.blk)(h:∀v∈b.l,eq2 v v=true)(c:zAM b.l.length 1000000=true):yya m b=true:=by
 unfold yya;rw[a];show(zQ b.l.length b.l.length&&zQ b.e b.e&&zQ b.z b.z&&zAM b.l.length 1000000&&ykx (tOf b.l) 0 b.l)=true;rw[zN,zN,zN,c,yqu h b.l 0 (zCQ ..)];rfl
theorem yyj:∀{l:List BlkL}{t:T ABlk}{i:Nat},(∀b∈l,b.i≠i)->(yio t l).get i=t.get i
 |[],_,_,_=>rfl
 | b::l,t,i,h=>by
   unfold yio;rw[T.strict_eq,yyj fun c a=>h c (zL _ a),T.set_at,if_neg (fun e=>h b zT e.symm)]
theorem yuy:∀{l:List BlkL}{t:T ABlk},yhw (l.map (·.i))=true->∀b∈l,(yio t l).get b.i=some b.blk
 |[],_,_,b,a=>by cases a
 | c :: l,t,h,b,a=>by
   have h:(!(l.map (·.i)).elem c.i&&yhw (l.map (·.i)))=true:=h;rw[zF,zBK]at h;unfold yio;rw[T.strict_eq];rcases List.mem_cons.1 a with e|a
   .subst e;rw[yyj fun d f e=>?_,T.set_at,if_pos rfl];have:(l.map (·.i)).elem b.i=true:=List.elem_eq_true_of_mem (List.mem_map.2 ⟨d,f,e⟩);rw[this]at h;cases h.1
   .exact yuy h.2 b a
theorem ypx:∀{l:List Nat},l.Nodup->yhw l=true
 |[],_=>rfl
 | x :: l,h=>by
   rw[zBO]at h;show(!(l.elem x)&&yhw l)=true
   have:l.elem x=false:=by
    cases a:l.elem x with
    |false=>rfl
    |true=>exact absurd (by simpa using a) h.1
   rw[this,ypx h.2];rfl
theorem ybci:∀{l:List Nat},yhw l=true->l.Nodup
 |[],_=>zBE
 | x::l,h=>by
   have h:(!(l.elem x)&&yhw l)=true:=h;rw[zF,zBK]at h;rw[zBO];refine⟨fun a=>?_,ybci h.2⟩;have:l.elem x=true:=by simpa using a
   rw[this]at h;cases h.1
theorem ybrh{d:Nat}:∀{l:List BlkL}{k:List Nat},(l.map (·.i)).Nodup->l.length=k.length->l.map (fun b=>ybcg l k d b.i)=k
 |[],[],_,_=>rfl
 | b :: l,t::k,a,g=>by
   rw[zAU,zBO]at a;have m:=ybrh (d:=d) a.2 (by simpa using g)
   rw[zAU];have e:ybcg (b::l) (t::k) d b.i=t:=by unfold ybcg;rw[zN];rfl
   rw[e];congr 1;refine zCZ (zAF fun c f=>?_) m;show(bif zQ b.i c.i then t else ybcg l k d c.i)=_
   have:zQ b.i c.i=false:=by
    cases j:zQ b.i c.i with
    |false=>rfl
    |true=>exact absurd (List.mem_map.2 ⟨c,f,(zAH j).symm⟩) a.1
   rw[this];rfl
 |[],_::_,_,h=>by cases h
 |_::_,[],_,h=>by cases h
def Fact.still(f:Fact):Bool:=zBF f.next0 f.low&&f.args.all yok&&ybzf f.v&&f.pre.all (fun b=>zAM b.i f.next0&&reflB b)&&yhw (f.pre.map (·.i))&&f.post.all (fun b=>zBF f.next0 b.i&&zAM b.i f.next1&&reflB b)&&yhw (f.post.map (·.i))&&zBF f.next0 f.next1
theorem ycrg{a b:Nat}(h:zAM a b=true):a<b:=zAJ (zCL _) (zV h)
theorem ybqh{a b:Nat}(h:a<b):zAM a b=true:=zS h
theorem ypj{f:Fact}(h:f.still=true):f.next0<=f.low/\(f.args.all yok=true/\ybzf f.v=true)/\(∀b∈f.pre,b.i<f.next0/\reflB b=true)/\(f.pre.map (·.i)).Nodup/\(∀b∈f.post,f.next0<=b.i/\b.i<f.next1/\reflB b=true)/\(f.post.map (·.i)).Nodup/\f.next0<=f.next1:=by
 unfold Fact.still at h;simp only[zF]at h;obtain⟨⟨⟨⟨⟨⟨⟨c,d⟩,e⟩,g⟩,j⟩,k⟩,l⟩,m⟩:=h;refine⟨zV c,⟨d,e⟩,fun b a=>?_,ybci j,fun b a=>?_,ybci l,zV m⟩
 .have:=List.all_eq_true.1 g b a;rw[zF]at this;exact⟨ycrg this.1,this.2⟩
 .have:=List.all_eq_true.1 k b a;simp only[zF]at this;exact⟨zV this.1.1,ycrg this.1.2,this.2⟩
theorem yciu{f:Fact}{tgt:List Nat}{n0:Nat}(g:∀b∈f.pre,b.i<f.next0/\reflB b=true)(e:(f.pre.map (·.i)).Nodup)(c:f.pre.length=tgt.length):f.pre.map (fun b=>f.rho tgt n0 b.i)=tgt:=by
 refine zCZ (zAF fun b a=>?_) (ybrh (d:=Nat.add n0 (Nat.sub f.next1 f.next0)) e c);unfold Fact.rho;have j:=(g b a).1
 have:(zBF f.next0 b.i&&zAM b.i f.next1)=false:=by
  rw[Bool.and_eq_false_iff];left
  cases h:zBF f.next0 b.i with
  |false=>rfl
  |true=>have:=zV h;omega
 rw[this];rfl
theorem ybrn{f:Fact}{tgt:List Nat}{n0 i:Nat}(a:f.next0<=i)(b:i<f.next1):f.rho tgt n0 i=i-f.next0+n0:=by
 unfold Fact.rho;rw[zCK,if_pos (by rw[zS a,ybqh b];rfl)]
 rfl
theorem ybah{P:Program}{f:Fact}{tgt:List Nat}{n0:Nat}(r:yhe P f)(E:f.still=true)(C:f.pre.length=tgt.length)(D:tgt.Nodup)(q:∀t∈tgt,t<n0):yhe P (f.move tgt n0):=by
 refine yyk r ?_;obtain⟨H,⟨I,J⟩,m,K,j,z,L⟩:=ypj E
 have k:(f.move tgt n0).pre.map (·.i)=tgt:=by
  show(f.pre.map (BlkL.ren (f.rho tgt n0))).map (·.i)=tgt;rw[zBC];exact zCZ (zAF fun b a=>b.yih) (yciu (n0:=n0) m K C)
 have s:yhw ((f.move tgt n0).post.map (·.i))=true:=by
  refine ypx ?_;show((f.post.map (BlkL.ren (f.rho tgt n0))).map (·.i)).Nodup
  have e:(f.post.map (BlkL.ren (f.rho tgt n0))).map (·.i)=(f.post.map (·.i)).map (fun i=>i-f.next0+n0):=by
   rw[zBC,zBC];refine zAF fun b a=>?_;show(b.ren (f.rho tgt n0)).i=b.i-f.next0+n0;rw[b.yih,ybrn (j b a).1 (j b a).2.1]
  rw[e];unfold List.Nodup at z ⊢;rw[zAS];refine List.Pairwise.imp_of_mem (fun {x y} F G h=>?_) z;obtain⟨B,o,rfl⟩:=List.mem_map.1 F;obtain⟨n,p,rfl⟩:=List.mem_map.1 G;have:=(j B o).1;have:=(j n p).1;omega
 have g:yhw ((f.move tgt n0).pre.map (·.i))=true:=by rw[k];exact ypx D
 unfold Fact.moves;simp only[zF];refine⟨⟨⟨⟨⟨⟨⟨⟨zS H,I⟩,J⟩,?_⟩,?_⟩,g⟩,?_⟩,?_⟩,zS L⟩
 .refine List.all_eq_true.2 fun b a=>?_;have:=(m b a).2;unfold reflB at this;rw[zF]at this;rw[ybqh (m b a).1,zAO];exact List.all_eq_true.2 fun v u=>by have:=List.all_eq_true.1 this.1 v u;rw[zF]at this;exact this.2
 .refine List.all_eq_true.2 fun b a=>?_;have:=(j b a).2.2;unfold reflB at this;rw[zF]at this;rw[ybqh (j b a).2.1,zAO];exact List.all_eq_true.2 fun v u=>by have:=List.all_eq_true.1 this.1 v u;rw[zF]at this;exact this.2
 .refine List.all_eq_true.2 fun A c=>?_;obtain⟨b,a,rfl⟩:=List.mem_map.1 c;have d:=(m b a).2;have w:(b.ren (f.rho tgt n0)).i∈(f.move tgt n0).pre.map (·.i):=List.mem_map.2 ⟨_,c,rfl⟩;rw[k]at w;rw[ybqh (q _ w),zAO];refine yru (yuy g _ c) (ywq d) ?_;show zAM (b.l.map _).length 1000000=true;rw[zAC];unfold reflB at d;rw[zF]at d;exact d.2
 .refine List.all_eq_true.2 fun A c=>?_;obtain⟨b,a,rfl⟩:=List.mem_map.1 c;have d:=(j b a).2.2;refine yru (yuy s _ c) (ywq d) ?_;show zAM (b.l.map _).length 1000000=true;rw[zAC];unfold reflB at d;rw[zF]at d;exact d.2
end Ev
end
section
namespace Sh
open Go Ev
def Lies(B:List BlkL)(v:Value)(F:AM)(u:Value):Prop :=
 ∃ρ:Nat->Nat,(∀b∈B,∀c∈B,ρ b.i=ρ c.i->b.i=c.i)/\(∀b∈B,F (ρ b.i)=some (b.ren ρ).blk)/\u=ren1 ρ v
theorem Lies.mono{B:List BlkL}{v:Value}(F G:AM)(u:Value)(h:Le F G)(k:Lies B v F u):Lies B v G u:=by
 obtain⟨ρ,a,c,d⟩:=k;exact⟨ρ,a,fun b e=>h _ _ (c b e),d⟩
def yefx(B:List BlkL)(j:Nat):Option BlkL:=B.find? fun b=>zQ b.i j
def ycpn(p:Nat->Bool):Nat->Bool
 |0=>true
 |n+1=>p n&&ycpn p n
theorem ybqi{p:Nat->Bool}:∀{n:Nat},ycpn p n=true->∀k,k<n->p k=true
 |0,_,k,h=>absurd h (zU k)
 | n+1,h,k,hk=>by
   have h:(p n&&ycpn p n)=true:=h;rw[zF]at h
   by_cases q:k=n
   .rw[q];exact h.1
   .exact ybqi h.2 k (by omega)
def ybom(B:List BlkL)(z n:Nat)(row:Nat->List Value->Bool):Value->Bool
 | .slice (some a) m _=>a.spot.isNone&&zQ m n&&(match yefx B a.block with
   |some b=>zQ b.z z&&zBF (a.off+n*z) b.l.length&&ycpn (fun k=>row k ((b.l.drop (a.off+k*z)).take z)) n
   |none=>false)
 |.slice none 0 0=>zQ n 0
 |_=>false
theorem yvc {B:List BlkL}{F:AM}{ρ:Nat->Nat}{z n:Nat}{row:Nat->List Value->Bool}{v:Value}{g:Nat->List SV}(D:∀b∈B,F (ρ b.i)=some (b.ren ρ).blk) (h:ybom B z n row v=true)
 (I:∀k L,k<n->row k L=true->L.length=z/\RVL F om0 (g k) (L.map (ren2 ρ))/\(g k).all one1=true):RV F om0 (.sl z n g) (ren1 ρ v):=by
 unfold ybom at h;split at h
 .rename_i a m c
  simp only[zF]at h;obtain⟨⟨x,y⟩,f⟩:=h;split at f
  .rename_i b u
   simp only[zF]at f;obtain⟨⟨f,s⟩,C⟩:=f;have H:m=n:=zAH y;have J:=zAH f;have s:=zV s;have q:=List.mem_of_find?_eq_some u;have E:b.i=a.block:=zAH (List.find?_some (p:=fun b:BlkL=>zQ b.i a.block) u);have r:=D b q;rw[E]at r;show RV F om0 _ (.slice (some (renA ρ a)) m c);rw[ymg];subst H;obtain⟨A,o,K⟩:=a;have t:K=none:=by simpa using x
   subst t;have r:F (ρ A)=some (.cells (tOf (b.l.map (ren2 ρ))) (b.l.map (ren2 ρ)).length b.e b.z):=r;have d:∀k,k<m->_:=fun k hk=>I k _ hk (ybqi C k hk);refine .sl (L:=fun k=>((b.l.drop (o+k*z)).take z).map (ren2 ρ)) r (.inl J) (by rw[zAC];exact s) ?_ ?_ (fun k hk=>(d k hk).2.1) (fun k hk=>(d k hk).2.2)
   .intro k hk;rw[zAC];exact(d k hk).1
   .intro k hk j G;rw[ydf];simp only[zCC,List.getElem?_take,List.getElem?_drop,G,if_true]
  .cases f
 .have h:zQ n 0=true:=h;have w:=zAH h;subst w;exact .sl0 (.inl rfl)
 .cases h
def isI(v:Value)(n:Int):Bool:=match v with
 |.int .i64 m=>ybie m n
 |_=>false
def isS(v:Value)(s:ByteArray):Bool:=match v with
 |.string t=>ymj t.data.toList s.data.toList
 |_=>false
theorem yuc{F:AM}{ρ:Nat->Nat}{v:Value}{n:Int}(h:isI v n=true):RV F om0 (.i .i64 n) (ren2 ρ v):=by
 unfold isI at h;split at h
 .rw[yvn h];exact .i
 .cases h
theorem ycwn{F:AM}{ρ:Nat->Nat}{v:Value}{s:ByteArray}(h:isS v s=true):RV F om0 (.a (.string s)) (ren2 ρ v):=by
 unfold isS at h;split at h
 .rename_i t
  have e:=yrs h
  have:t=s:=by
   cases t;cases s
   congr 1;exact Array.toList_inj.1 e
  rw[this];exact .a rfl
 .cases h
def ydol(ls:List (Int×Int))(k:Nat):List Value->Bool
 |[x,y]=>isI x (ls.getD k (0,0)).1&&isI y (ls.getD k (0,0)).2
 |_=>false
def ycyl(l:List VarR)(k:Nat):List Value->Bool
 |[s,a,b,c,d,e]=>isS s (l.getD k default).name&&isI a (l.getD k default).kind&&isI b (l.getD k default).lo&&isI c (l.getD k default).hi&&isI d (l.getD k default).perNode&&isI e (l.getD k default).perID
 |_=>false
def ybdl(B:List BlkL)(ls:List (Int×Int))(v:Value):Bool:=ybom B 2 ls.length (ydol ls) v
def isSl:Value->Bool
 |.slice _ _ _=>true
 |_=>false
def yccj(B:List BlkL)(l:List SetR)(k:Nat):List Value->Bool
 |[a,v]=>isI a (l.getD k default).var&&isSl v&&ybdl B (l.getD k default).val v
 |_=>false
def ybwz(B:List BlkL)(l:List RuleR)(k:Nat):List Value->Bool
 |[s,v,w]=>isS s (l.getD k default).name&&isSl v&&ybdl B (l.getD k default).guard v&&isSl w&&ybom B 2 (l.getD k default).sets.length (yccj B (l.getD k default).sets) w
 |_=>false
def ycih(B:List BlkL)(v:Value)(l:List VarR):Bool:=ybom B 6 l.length (ycyl l) v
def ybqp(B:List BlkL)(v:Value)(l:List RuleR):Bool:=ybom B 3 l.length (ybwz B l) v
section
variable {B:List BlkL}{F:AM}{ρ:Nat->Nat}
theorem ybmo{v:Value}(h:isSl v=true):ren2 ρ v=ren1 ρ v:=by
 unfold isSl at h;split at h
 .rfl
 .cases h
theorem yvu(c:∀b∈B,F (ρ b.i)=some (b.ren ρ).blk){ls:List (Int×Int)}{v:Value}(h:ybdl B ls v=true):RV F om0 (ybc ls) (ren1 ρ v):=by
 refine yvc c h fun k L hk a=>?_;unfold ydol at a;split at a
 .simp only[zF]at a;exact⟨rfl,.cons (yuc a.1) (.cons (yuc a.2) .nil),rfl⟩
 .cases a
theorem ybts(m:∀b∈B,F (ρ b.i)=some (b.ren ρ).blk){l:List VarR}{v:Value}(h:ycih B v l=true):RV F om0 (yfi l) (ren1 ρ v):=by
 refine yvc m h fun k L hk a=>?_;unfold ycyl at a;split at a
 .simp only[zF]at a;obtain⟨⟨⟨⟨⟨c,d⟩,e⟩,f⟩,g⟩,j⟩:=a;exact⟨rfl,.cons (ycwn c) (.cons (yuc d) (.cons (yuc e) (.cons (yuc f) (.cons (yuc g) (.cons (yuc j) .nil))))),rfl⟩
 .cases a
theorem ybvy(c:∀b∈B,F (ρ b.i)=some (b.ren ρ).blk){l:List SetR}{v:Value}(h:ybom B 2 l.length (yccj B l) v=true):RV F om0 (yjs l) (ren1 ρ v):=by
 refine yvc c h fun k L hk a=>?_;unfold yccj at a;split at a
 .simp only[zF]at a;obtain⟨⟨d,e⟩,f⟩:=a;refine⟨rfl,.cons (yuc d) (.cons ?_ .nil),rfl⟩;rw[ybmo e];exact yvu c f
 .cases a
theorem ybka(c:∀b∈B,F (ρ b.i)=some (b.ren ρ).blk){l:List RuleR}{v:Value}(h:ybqp B v l=true):RV F om0 (ydk l) (ren1 ρ v):=by
 refine yvc c h fun k L hk a=>?_;unfold ybwz at a;split at a
 .simp only[zF]at a;obtain⟨⟨⟨⟨d,e⟩,f⟩,g⟩,j⟩:=a;refine⟨rfl,.cons (ycwn d) (.cons ?_ (.cons ?_ .nil)),rfl⟩
  .rw[ybmo e];exact yvu c f
  .rw[ybmo g];exact ybvy c j
 .cases a
end
structure LaidP(fp:Fact)(t:ByteArray)(p:ProgR)(vv vr:Value)(Bv Br:List BlkL):Prop where
 args:fp.args=[.string t]
 pre:fp.pre=[]
 v:fp.v = .agg #[.string p.name,vv,vr]
 still:fp.still=true
 bv:∀b∈Bv,b∈fp.post
 br:∀b∈Br,b∈fp.post
 vars:ycih Bv vv p.vars=true
 rules:ybqp Br vr p.rules=true
theorem ycpq{P:Program}{fp:Fact}{t:ByteArray}{p:ProgR}{N M:Value}{Q O:List BlkL}(I:yhe P fp)(h:LaidP fp t p N M Q O):Returns P fp.g [.a (.string t)] (.ag (yfs (Lies Q N) (Lies O M) p)):=by
 intro G m Z L T K
 have V:Z=[.string t]:=by
  cases K with
  |cons a b=>cases a with|a _=>cases b with|nil=>rfl
 subst V;obtain⟨s1,⟨s2,s3⟩,s4,s5,q,R,s8⟩:=ypj h.still;have E:=ybah (tgt:=[]) (n0:=m.next) I h.still (by rw[h.pre];rfl) zBE (fun t U=>by cases U)
 obtain⟨ρ,o⟩:∃ρ,fp.rho [] m.next=ρ:=⟨_,rfl⟩
 have n:(fp.move [] m.next).post=fp.post.map (BlkL.ren ρ):=by rw[<-o];rfl
 have W:(fp.move [] m.next).v = .agg #[.string p.name,ren1 ρ N,ren1 ρ M]:=by
  show renV (fp.rho [] m.next) fp.v=_
  rw[o,h.v];rfl
 have l:(fp.move [] m.next).pre=[]:=by
  show fp.pre.map _=[];rw[h.pre];rfl
 have r:(fp.move [] m.next).fits fp.g [.string t] m=true:=by
  unfold Fact.fits;rw[l];show(zQ fp.g fp.g&&zQ m.next m.next&&eqL2 (fp.args.map (ren2 _)) [.string t]&&true)=true
  rw[zN,zN,h.args];show(true&&true&&(ymj t.data.toList t.data.toList&&true)&&true)=true;rw[yue];rfl
 have f:∀b∈fp.post,ρ b.i=b.i-fp.next0+m.next:=fun b d=>by rw[<-o];exact ybrn (q b d).1 (q b d).2.1
 have H:yhw ((fp.post.map (BlkL.ren ρ)).map (·.i))=true:=by
  refine ypx ?_
  have e:(fp.post.map (BlkL.ren ρ)).map (·.i)=(fp.post.map (·.i)).map (fun i=>i-fp.next0+m.next):=by
   rw[zBC,zBC];refine zAF fun b d=>?_;show(b.ren ρ).i=_;rw[b.yih,f b d];rfl
  rw[e];unfold List.Nodup at R ⊢;rw[zAS];refine List.Pairwise.imp_of_mem (fun {x y} X Y h=>?_) R;obtain⟨S,z,rfl⟩:=List.mem_map.1 X;obtain⟨u,C,rfl⟩:=List.mem_map.1 Y;have:=(q S z).1;have:=(q u C).1;omega
 have J:=ybet E r;unfold Fact.out at J;rw[W,l,n]at J;refine⟨_,_,_,J,zI _,?_,rfl,?_⟩
 .intro i b d;show(yio m.b (fp.post.map (BlkL.ren ρ))).get i=some b;rw[yyj fun c j=>?_]
  .exact d
  .obtain⟨c,D,rfl⟩:=List.mem_map.1 j;have:=L i b d;rw[c.yih,f c D];omega
 .have s:∀b∈fp.post,frsh m.next ⟨(fp.move [] m.next).next1,yio m.b (fp.post.map (BlkL.ren ρ)),(fp.move [] m.next).low⟩ G (ρ b.i)=some (b.ren ρ).blk:=fun b d=>by
   unfold frsh;rw[if_pos (by rw[f b d];omega)]
   have:=yuy (t:=m.b) H _ (List.mem_map.2 ⟨b,d,rfl⟩);rw[b.yih]at this;exact this
  have k:∀b∈fp.post,∀c∈fp.post,ρ b.i=ρ c.i->b.i=c.i:=fun b d c j e=>by
   rw[f b d,f c j]at e;have:=(q b d).1;have:=(q c j).1;omega
  refine .ag (.cons (.a rfl) (.cons (.ex ?_ (fun A B w=>Lies.mono A B w) ?_) (.cons (.ex ?_ (fun A B w=>Lies.mono A B w) ?_) .nil)))
  .exact⟨ρ,fun b d c j=>k b (h.bv b d) c (h.bv c j),fun b d=>s b (h.bv b d),rfl⟩
  .exact ybts (fun b d=>s b (h.bv b d)) h.vars
  .exact⟨ρ,fun b d c j=>k b (h.br b d) c (h.br c j),fun b d=>s b (h.br b d),rfl⟩
  .exact ybka (fun b d=>s b (h.br b d)) h.rules
def inB(B:List BlkL):Value->Bool
 |.slice (some a) _ _=>(B.map (·.i)).elem a.block
 |.pointer (some a)=>(B.map (·.i)).elem a.block
 |.agg _=>false
 |.func _ _ _=>false
 |_=>true
theorem ykg{B:List BlkL}{ρ σ:Nat->Nat}(h:∀b∈B,ρ b.i=σ b.i){v:Value}(d:inB B v=true):ren1 ρ v=ren1 σ v:=by
 have hk:∀j,(B.map (·.i)).elem j=true->ρ j=σ j:=fun j g=>by
  have:j∈B.map (·.i):=by simpa using g
  obtain⟨b,e,rfl⟩:=List.mem_map.1 this;exact h b e
 cases v with
 | slice p n c=>cases p with
   |none=>rfl
   | some a =>
     show Value.slice (some (renA ρ a)) n c = .slice (some (renA σ a)) n c;rw[ymg,ymg,hk _ d]
 | pointer p=>cases p with
   |none=>rfl
   | some a =>
     show Value.pointer (some (renA ρ a)) = .pointer (some (renA σ a));rw[ymg,ymg,hk _ d]
 |agg a=>cases d
 |func f a c=>cases d
 |_=>rfl
theorem ybrw{B:List BlkL}{d:Nat->Nat}{v:Value}(b:inB B v=true):ren2 d v=ren1 d v:=by
 cases v with
 |agg a=>cases b
 |func f a c=>cases b
 |_=>rfl
theorem ybvn{B:List BlkL}{ρ σ:Nat->Nat}(h:∀b∈B,ρ b.i=σ b.i){v:Value}(a:inB B v=true):ren2 ρ v=ren2 σ v:=by
 rw[ybrw a,ybrw a];exact ykg h a
def ybnf(B:List BlkL):Bool:=B.all fun b=>b.l.all (inB B)
theorem ybgk{B:List BlkL}{ρ σ:Nat->Nat}(f:ybnf B=true)(h:∀b∈B,ρ b.i=σ b.i){b:BlkL}(c:b∈B):b.ren ρ=b.ren σ:=by
 have d:=List.all_eq_true.1 (List.all_eq_true.1 f b c)
 have e:∀a:Nat->Nat,b.ren a=⟨a b.i,b.e,b.z,b.l.map (ren2 a)⟩:=fun a=>by
  unfold BlkL.ren;rw[ybr]
 rw[e,e,h b c];congr 1;exact zAF fun v g=>ybvn h (d v g)
theorem yzx{low:Nat}:∀{l:List BlkL}{t:T ABlk},(∀b∈l,b.i<low)->ymr t low l=t
 |[],_,_=>rfl
 | b :: l,t,h=>by
   have d:=h b zT;unfold ymr
   have e:zBF low b.i=false:=by
    cases q:zBF low b.i with
    |false=>rfl
    |true=>have:=zV q;omega
   rw[e,ybg,if_neg (by simp)]
   exact yzx fun c a=>h c (zL _ a)
structure GoodV(fv:Fact)(p:ProgR)(vv vr:Value)(Bv Br:List BlkL):Prop where
 args:fv.args=[.agg #[.string p.name,vv,vr]]
 pre:∀b∈fv.pre,b∈Bv\/b∈Br
 bv:∀b∈Bv,b∈fv.pre
 br:∀b∈Br,b∈fv.pre
 v:fv.v = .bool true
 post:fv.post=[]
 still:fv.still=true
 apart:(Bv.all fun b=>Br.all fun c=>!(zQ b.e c.e) && !(zQ b.i c.i))=true
 cv:ybnf Bv=true
 cr:ybnf Br=true
 iv:inB Bv vv=true
 ir:inB Br vr=true
 refl:eq2 (.agg #[.string p.name,vv,vr]) (.agg #[.string p.name,vv,vr])=true
theorem ycph{P:Program}{fv:Fact}{p:ProgR}{w u:Value}{Bv z:List BlkL}(a7:yhe P fv)(h:GoodV fv p w u Bv z):Returns P fv.g [.ag (yfs (Lies Bv w) (Lies z u) p)] (.b true):=by
 intro G m us a9 L a8
 obtain⟨f,j,hu,a1,a2,a3,a4⟩:∃f j:Nat->Nat,us=[.agg #[.string p.name,ren1 f w,ren1 j u]]/\(∀b∈Bv,∀c∈Bv,f b.i=f c.i->b.i=c.i)/\(∀b∈Bv,G (f b.i)=some (b.ren f).blk) /\
  (∀b∈z,∀c∈z,j b.i=j c.i->b.i=c.i)/\∀b∈z,G (j b.i)=some (b.ren j).blk:=by
  cases a8 with
  | cons a b =>
    cases b
    cases a with
    | ag K =>
      cases K with
      | cons x1 K =>
        cases x1
        cases K with
        | cons x2 K =>
          cases x2 with
          | ex q2 _ _ =>
            cases K with
            | cons x3 K =>
              cases x3 with
              | ex q3 _ _ =>
                cases K
                obtain⟨f,b1,b2,rfl⟩:=q2;obtain⟨j,b3,b4,rfl⟩:=q3;exact⟨f,j,rfl,b1,b2,b3,b4⟩
 subst hu;obtain⟨s1,⟨s2,s3⟩,s4,S,s6,s7,s8⟩:=ypj h.still
 have V:∀b∈Bv,∀c∈z,b.e≠c.e/\b.i≠c.i:=fun b k c A=>by
  have:=List.all_eq_true.1 (List.all_eq_true.1 h.apart b k) c A;simp only[zF,zBK]at this;exact⟨fun e=>(by rw[e,zN]at this;exact absurd this.1 (by decide)),fun e=>(by rw[e,zN]at this;exact absurd this.2 (by decide))⟩
 let R:Nat->Nat:=fun i=>if (Bv.map (·.i)).elem i then f i else j i
 have o:∀b∈Bv,∀c∈z,f b.i≠j c.i:=fun b k c A e=>by
  have U:=a2 b k;have e2:=a4 c A;rw[e,e2]at U
  injection U with U
  unfold BlkL.blk at U
  injection U with _ _ e3 _
  exact(V b k c A).1 e3.symm
 have hG:∀i b,G i=some b->i<m.next:=fun i b k=>a9 i b (L i b k)
 have T:∀b∈Bv,R b.i=f b.i:=fun b k=>if_pos (by simpa using⟨b,k,rfl⟩)
 have sr:∀b∈z,R b.i=j b.i:=fun b k=>by
  refine if_neg fun q=>?_;have:b.i∈Bv.map (·.i):=by simpa using q
  obtain⟨d,hd,a5⟩:=List.mem_map.1 this;exact(V d hd b k).2 a5
 have s:∀b∈fv.pre,R b.i<m.next:=fun b k=>by
  rcases h.pre b k with q|q
  .rw[T b q];exact hG _ _ (a2 b q)
  .rw[sr b q];exact hG _ _ (a4 b q)
 have Z:∀b∈fv.pre,∀c∈fv.pre,R b.i=R c.i->b.i=c.i:=fun b k c A e=>by
  rcases h.pre b k with q|q<;>rcases h.pre c A with E|E
  .rw[T b q,T c E]at e;exact a1 b q c E e
  .rw[T b q,sr c E]at e;exact absurd e (o b q c E)
  .rw[sr b q,T c E]at e;exact absurd e.symm (o c E b q)
  .rw[sr b q,sr c E]at e;exact a3 b q c E e
 obtain⟨n,r⟩:∃t,fv.pre.map (fun b=>R b.i)=t:=⟨_,rfl⟩
 have b0:∀t∈n,t<m.next:=fun t ht=>by
  rw[<-r]at ht;obtain⟨b,k,rfl⟩:=List.mem_map.1 ht;exact s b k
 have b5:n.Nodup:=by
  rw[<-r];have S:=S;unfold List.Nodup at S ⊢;rw[zAS]at S ⊢;exact List.Pairwise.imp_of_mem (fun {x y} hx hy h e=>h (Z x hx y hy e)) S
 have I:fv.pre.length=n.length:=by rw[<-r,zAC]
 have a6:=ybah (n0:=m.next) a7 h.still I b5 b0
 have H:=yciu (n0:=m.next) s4 S I
 obtain⟨ρ,Q⟩:∃ρ,fv.rho n m.next=ρ:=⟨_,rfl⟩
 rw[Q,<-r]at H;have N:∀b∈fv.pre,ρ b.i=R b.i:=List.map_inj_left.1 H;have D:∀b∈Bv,ρ b.i=f b.i:=fun b k=>by rw[N b (h.bv b k),T b k]
 have C:∀b∈z,ρ b.i=j b.i:=fun b k=>by rw[N b (h.br b k),sr b k]
 have J:(fv.move n m.next).args=[.agg #[.string p.name,ren1 f w,ren1 j u]]:=by
  show fv.args.map (ren2 (fv.rho n m.next))=_
  rw[Q,h.args,<-ykg D h.iv,<-ykg C h.ir];rfl
 have O:eqL2 [.agg #[.string p.name,ren1 f w,ren1 j u]] [.agg #[.string p.name,ren1 f w,ren1 j u]]=true:=by
  have hf:yok (.agg #[.string p.name,w,u])=true:=by
   have:=s2;rw[h.args]at this
   simpa using this
  have e:=ycfc (ρ:=ρ) hf h.refl;rw[show ren2 ρ (.agg #[.string p.name,w,u]) = .agg #[.string p.name,ren1 ρ w,ren1 ρ u]from rfl,ykg D h.iv,ykg C h.ir]at e
  show(eq2 _ _&&true)=true;rw[e];rfl
 have Y:∀b∈fv.pre,m.b.get (ρ b.i)=some (b.ren ρ).blk:=fun b k=>by
  rcases h.pre b k with q|q
  .rw[ybgk h.cv D q,D b q];exact L _ _ (a2 b q)
  .rw[ybgk h.cr C q,C b q];exact L _ _ (a4 b q)
 have hp:(fv.move n m.next).pre=fv.pre.map (BlkL.ren ρ):=by rw[<-Q];rfl
 have X:(fv.move n m.next).fits fv.g [.agg #[.string p.name,ren1 f w,ren1 j u]] m=true:=by
  unfold Fact.fits;rw[J,O];show(zQ fv.g fv.g&&zQ m.next m.next&&true&&(fv.move n m.next).pre.all (yya m))=true
  rw[zN,zN,hp];show List.all _ _=true;refine List.all_eq_true.2 fun b' a0=>?_;obtain⟨b,k,rfl⟩:=List.mem_map.1 a0;have h2:=(s4 b k).2;refine yru ?_ (ywq h2) ?_
  .rw[b.yih];exact Y b k
  .show zAM (b.l.map _).length 1000000=true;rw[zAC];unfold reflB at h2;rw[zF]at h2;exact h2.2
 have hs:=ybet a6 X;unfold Fact.out at hs
 have hv:(fv.move n m.next).v = .bool true:=by
  show renV (fv.rho n m.next) fv.v=_
  rw[h.v];rfl
 have M:(fv.move n m.next).post=[]:=by
  show fv.post.map _=[];rw[h.post];rfl
 rw[hv,M]at hs;refine⟨_,_,_,hs,zI _,?_,rfl,.b⟩;intro i b k;show(ymr m.b m.next (fv.move n m.next).pre).get i=some b
 rw[yzx fun c A=>?_]
 .exact k
 .rw[hp]at A;obtain⟨c,W,rfl⟩:=List.mem_map.1 A;rw[c.yih,N c W];exact s c W
end Sh
end
section
namespace Sh
open Go Ev
def PqP:ProgT:=yfa (by8 [112,97,116,104,115]) (by8 [100]) (by8 [112]) (by8 [116,111,112]) (by8 [108,111,119])
def Pqt:ByteArray:=yg
def Pqv:Value:=.slice (some ⟨1118,0,none⟩) 2 CU
def Pqr:Value:=.slice (some ⟨1813,0,none⟩) 2 CU
def PqB:List BlkL:=ysl.post.take 1
def PqC:List BlkL:=ysl.post.drop 1
theorem ybwo:Returns zH 11 [.a (.string Pqt)] (.ag (yfs (Lies PqB Pqv) (Lies PqC Pqr) PqP.raw)) :=
 ycpq (fp:=ysl) (ybq.at_ ybzx 0 rfl) ⟨rfl,rfl,rfl,by kernel_rfl,fun _ h=>zAN h,fun _ h=>zBU h,by kernel_rfl,by kernel_rfl⟩
theorem ydyj:ybli.pre=ysl.post:=rfl
theorem ycps:Returns zH 130 [.ag (yfs (Lies PqB Pqv) (Lies PqC Pqr) PqP.raw)] (.b true) :=
 ycph (fv:=ybli) (ybq.at_ ybzp 0 rfl) ⟨rfl,fun b h=>by
  rw[ydyj,<-List.take_append_drop 1 ysl.post]at h;exact List.mem_append.1 h,fun _ h=>zAN h,fun _ h=>zBU h,rfl,rfl,by kernel_rfl,by kernel_rfl,by kernel_rfl,by kernel_rfl,by kernel_rfl,by kernel_rfl,by kernel_rfl⟩
theorem yebx:PqP.ok=true:=by kernel_rfl
end Sh
end
section
namespace Ev
open Go Go.RowKit
def hkN:Hooks:=⟨some 118,some 245,some 175,symB,[],some 122⟩
theorem ydsc:HooksOk zH hkN:=⟨fun g h=>(by cases h;exact yboq),fun g h=>(by cases h;exact ytv),fun g h=>(by cases h;exact ycit),fun c a=>(by cases a),fun g h=>(by cases h;exact ybel)⟩
set_option maxRecDepth 1000000 in
theorem ybmf:outV (ev zH hkN 3000 (.call 21 [] mem0))=some (.bool true):=by kernel_rfl
theorem ydkl(w:World)(a:GlW w):Calls zH 21 #[] w fun e b=>e = .returned (.bool true)/\Below w.heap.size w b :=
 ybez mix ytd ydsc ybmf rfl rfl ⟨_,_,zDD,rfl⟩ w a
end Ev
end
section
namespace Sh
open Ev Go.RowKit
end Sh
end
section
namespace Sh
open Ev Go.RowKit
end Sh
end
section
def ygc(g:Gr)(W:List Int)(c:Conf):Bool:=(zAG c.length).all fun v=>decide (c.getD v []=ptS g W v)
theorem ybod{nm nd np nt nl:ByteArray}{g:Gr}{W:List Int}{c:Conf}(e:ydo (yfa nm nd np nt nl) g c=true):ygc g W c=true↔yxc g W c:=by
 have b:=(ygp e).len;unfold ygc;rw[b];constructor
 .intro h v a;exact of_decide_eq_true (List.all_eq_true.1 h v (List.mem_range.2 a))
 .intro h;exact List.all_eq_true.2 fun v d=>decide_eq_true (h v (List.mem_range.1 d))
namespace Sh
open Ev Go.RowKit
theorem ybrt{g:Gr}(c:GrI g):Returns zH 52 [grV g] (.b (yil g)):=by
 refine Returns.of (yduo _ _ ?_);have a:=ycdl c;simp only[grV]at a;simp only[c52,ydyq,yech,grV,go_sem,zA,zB,zD];refine a.use ?_;simp only[ybk,yyr,go_sem,zA,zB]
theorem ycqx{g:Gr}(a:ybh g)(t:yil g=true){c:Conf}(o:ydo PqP g c=true):Returns zH 69 [grV g,ycn c] (.b true):=by
 refine Returns.of (yecl _ _ ?_);have i:=ybrt (ycgz a);have r:=a.2.1;have d:=a.2.2.1;have s:=ycqe (ybpw a yebx o)
 have f:=ycqf a s (G:=[15*(g.ids.length:Int),-1]) (fun x p=>by
  simp at p;rcases p with rfl|rfl<;>exact ygx (by omega))
 have j:yyp g.ports.length (yfu g [15*(g.ids.length:Int),-1]) c=true:=by
  rw[<-o];unfold ydo;rw[d];congr 1
  funext v
  have l:((15*(g.ports.length:Int)) = -1)=False:=eq_false (by omega)
  simp[yfu,PqP,yfa,ybj,yclg,d,l]
 rw[j]at f;rw[t]at i;obtain⟨n,k⟩:∃n,g.ids.length=n:=⟨_,rfl⟩;rw[k]at f;simp only[grV,yba,k]at i f;have e:∀{q:Nat},q<2->q=0\/q=1:=fun {q} h=>by omega
 simp only[c69,ydzt,ydse,grV,yba,k,clash,go_sem,zA,zB,zD];refine i.use ?_;simp only[ybk,clash,go_sem,zA,zB,zK,zD];refine⟨ikw (by omega) (by omega),.inl ⟨fun q m=>by rcases e m with rfl|rfl<;>simp only[go_sem],f.useS ?_ ?_⟩⟩
 .refine⟨Sim.refl _,Sim.refl _,?_,trivial⟩;refine yec fun q m=>?_;rcases e m with rfl|rfl<;>(simp only[zBV,zBW,go_sem];exact⟨Sim.refl _,trivial⟩)
 simp only[go_sem];exact Sim.refl _
theorem yblg{g:Gr}{W:List Int}(a:IsW g W){v:Nat}(c:v<g.ports.length)(m:g.ports.length<=24){l:Int×Int}(k:0<=l.1/\l.1<g.ports.length/\1<=l.2/\l.2<=15) :
 Returns zH 71 [.ag [.i .i64 l.1,.i .i64 l.2],.rf [yba W],.rf [.i .i64 v]] (.b (W.getD l.1.toNat 0+l.2==W.getD v 0)):=by
 refine Returns.of (ydsi _ _ ?_);have d:=a.len;have e:=a.pos v c;have f:=a.small v c;have h:=a.pos l.1.toNat (by omega)
 have j:=a.small l.1.toNat (by omega)
 simp only[c71,ydpl,ydzy,yba,clash,go_sem,zA,zB,zK,zD];refine⟨⟨by omega,by omega⟩,ikw (by omega) (by omega),⟨by omega,by omega⟩,?_⟩
 exact Sim.refl _
theorem ycvd{g:Gr}{W:List Int}(a:ybh g)(b:IsW g W):Returns zH 55 [grV g] (yba W):=by
 have h:=ybgu a;rw[ydgy a b (by omega) (zI _)]at h
 exact h
set_option maxHeartbeats 1000000 in
theorem ybuo{g:Gr}{W:List Int}(p:ybh g)(N:yil g=true)(D:IsW g W){c:Conf}(B:ydo PqP g c=true):Returns zH 16 [grV g,ycn c] (.b (ygc g W c)):=by
 refine Returns.of (ydpy _ _ ?_);have J:=ycqx p N B;have u:=ycvd p D;have C:=p.2.1;have F:=p.2.2.1;have w:=ygp B;have M:=D.len;simp only[grV]at J u;obtain⟨m,n⟩:∃m,c.length=m:=⟨_,rfl⟩;have R:m=g.ports.length:=by rw[<-n,w.len,F]
 simp only[c16,ydro,yduq,grV,clash,go_sem,zA,zB,zD];refine J.use ?_;simp only[ybk,ydvp,clash,go_sem,zA,zB,zD];refine u.use ?_;simp only[ydzn,ycn,n,clash,go_sem,zA,zB]
 refine ybf (σ:=Nat) (fun k=>⟨[(17,.i .i64 k),(16,.i .i64 m),(15,ycn c),(5,.pt (5,0) 0 0),(2,.pt (2,0) 0 0)],
  [(2,.one (some ⟨27,true,2,1,fun _=>[yba g.ids,yu g.ports]⟩)),(5,.one (some ⟨22,true,1,1,fun _=>[yba W]⟩))]⟩)
  (fun k=>k<=m/\∀j,j<k->c.getD j []=ptS g W j) (fun k=>m-k) 0 ⟨zAA _,fun j K=>absurd K (zU j)⟩ ?_ ?_
 .refine yw ?_;simp only[ycn,yba,n,wk,go_sem,zA,zD]
 rintro k ⟨hk,d⟩
 by_cases Q:k<m
 .have r:decide ((k:Int)<(m:Int))=true:=decide_eq_true (by omega)
  obtain⟨x,G,H⟩:=w.row k (by omega)
  obtain⟨s,o⟩:∃s,c.getD k []=s:=⟨_,rfl⟩;rw[o]at x G H
  have f:=ybcq g k (by omega) 71 [.rf [yba W],.rf [.i .i64 k]] (fun l=>W.getD l.1.toNat 0+l.2==W.getD k 0) (by rfl) (by have:=p.deg_lt (v:=k);omega) (fun l O=>by
   obtain⟨S,V,_,T,U⟩:=yds p (by omega) O
   exact yblg D (by omega) C ⟨S,by omega,T,U⟩)
  have a:s=ptS g W k↔s.getD 0 0=W.getD k 0/\s.getD 1 0=ytx g W k:=ydeg x _ _
  have done:s≠ptS g W k->ygc g W c=false:=fun E=>by
   unfold ygc;rw[zCD];exact⟨k,List.mem_range.2 (by omega),by rw[o];simp[E]⟩
  simp only[grV,yba]at f
  have L:s=ptS g W k->∀j,j<k+1->c.getD j []=ptS g W j:=fun e j K=>by
   by_cases q:j=k
   .rw[q,o,e]
   .exact d j (by omega)
  have cut:∀P:Int,ytx g W k=P->((s.getD 0 0 != W.getD k 0)=true/\s≠ptS g W k)\/((s.getD 0 0 != W.getD k 0)=false/\(s.getD 1 0 != P)=true/\s≠ptS g W k)\/((s.getD 0 0 != W.getD k 0)=false/\(s.getD 1 0 != P)=false/\s=ptS g W k):=fun P A=>by
   rw[A]at a
   by_cases t:s.getD 0 0=W.getD k 0
   .by_cases z:s.getD 1 0=P
    .exact .inr (.inr ⟨by rw[bne_eq_false_iff_eq];exact t,by rw[bne_eq_false_iff_eq];exact z,a.2 ⟨t,z⟩⟩)
    .exact .inr (.inl ⟨by rw[bne_eq_false_iff_eq];exact t,by rw[bne_iff_ne];exact z,fun h=>z (a.1 h).2⟩)
   .exact .inl ⟨by rw[bne_iff_ne];exact t,fun h=>t (a.1 h).1⟩
  by_cases I:k=0
  .have y:((k:Int)!=0)=false:=by rw[bne_eq_false_iff_eq];omega
   rcases cut (-1) (by unfold ytx;rw[if_pos I])with⟨q0,qn⟩|⟨q0,q1,qn⟩|⟨q0,q1,qe⟩
   .rw[done qn];simp only[ybvo,ycgg,ybyp,ycgx,yxo,ybgd,ycn,yba,n,o,r,y,q0,clash,go_sem,zAB,zA,zB,zD]
    repeat (refine⟨by omega,?_⟩)
    exact Sim.refl _
   .rw[done qn];simp only[ybvo,ycgg,ybyp,ycgx,yxo,ybgd,ycn,yba,n,o,r,y,q0,q1,clash,go_sem,zAB,zA,zB,zD]
    repeat (refine⟨by omega,?_⟩)
    exact Sim.refl _
   .simp only[ybvo,ycgg,ybyp,ycgx,yxo,ycan,ycn,yba,n,o,r,y,q0,q1,clash,go_sem,zAB,zA,zB,zD]
    repeat (refine⟨by omega,?_⟩)
    refine⟨ikw (by omega) (by omega),yj (k+1) ⟨by omega,L qe⟩ (by omega) ?_⟩
    refine yw ?_;simp only[wk,go_sem,zA,zD];omega
  .have y:((k:Int)!=0)=true:=by rw[bne_iff_ne];omega
   obtain⟨P,A⟩:∃P,ylk (fun l=>W.getD l.1.toNat 0+l.2==W.getD k 0) (g.ports.getD k [])=P:=⟨_,rfl⟩;rw[A]at f;simp only[ybvo,ycgg,ybyp,ycgx,ydxr,ycn,yba,n,o,r,y,clash,go_sem,zA,zB,zK,zD];refine⟨⟨by omega,by omega⟩,.inl (f.use ?_)⟩
   rcases cut P (by unfold ytx;rw[if_neg I];exact A)with⟨q0,qn⟩|⟨q0,q1,qn⟩|⟨q0,q1,qe⟩
   .rw[done qn];simp only[ybk,yxo,ybgd,q0,clash,go_sem,zAB,zA,zB]
    repeat (refine⟨by omega,?_⟩)
    exact Sim.refl _
   .rw[done qn];simp only[ybk,yxo,ybgd,q0,q1,clash,go_sem,zAB,zA,zB]
    repeat (refine⟨by omega,?_⟩)
    exact Sim.refl _
   .simp only[ybk,yxo,ycan,q0,q1,clash,go_sem,zAB,zA,zB]
    repeat (refine⟨by omega,?_⟩)
    refine⟨ikw (by omega) (by omega),yj (k+1) ⟨by omega,L qe⟩ (by omega) ?_⟩
    refine yw ?_;simp only[wk,go_sem,zA,zD];omega
 .obtain rfl:k=m:=by omega
  have r:decide ((k:Int)<(k:Int))=false:=decide_eq_false (by omega)
  have e:ygc g W c=true:=by
   unfold ygc;rw[zCH];intro v B;exact decide_eq_true (d v (by have:=List.mem_range.1 B;omega))
  rw[e];simp only[ybvo,ycth,r,go_sem,zA];exact Sim.refl _
theorem ybyu:Returns zH 12 [] (.a (.string Pqt)):=by
 refine Returns.of (ydpk _ _ ?_);simp only[c12,ydxj,yeao,go_sem];exact Sim.refl _
theorem ybmh:Returns zH 21 [] (.b true):=by
 refine ybot ⟨_,_,zDD,rfl⟩ (fun _=>.b) (fun _=>.simple rfl) fun G m i g c j M w f a h d=>?_;cases c
 cases d
 exact ydkl w fun x e=>(a.gl x e).1
def yka(a:Int)(e:El):Int:=if a=0\/e.b<a then e.b else a
theorem ybfq{g:Gr}(b:ybh g):∀k,k<=(ybp 0 g.ports).length->0<=((ybp 0 g.ports).take k).foldl yka 0/\((ybp 0 g.ports).take k).foldl yka 0<=15
 |0,_=>by simp
 | k+1,hk=>by
   rw[yma yka 0 (by omega)]
   obtain⟨c,d⟩:=ymx b (k:=k) (by omega)
   obtain⟨_,_,_,e,f⟩:=yds b c d;have:=ybfq b k (by omega)
   generalize ((ybp 0 g.ports).take k).foldl yka 0=a at this ⊢
   unfold yka;split<;>omega
theorem yzs{g:Gr}{W:List Int}(f:IsW g W)(h:ybh g):0<=maxI W/\maxI W<=400:=by
 have l:=h.1;have i:=h.2.1;have m:=f.len
 have c:∀x∈W,0<=x/\x<=400:=fun x d=>by
  obtain⟨v,j,e⟩:=zY d;have k:W.getD v 0=x:=by simp[zJ,j,e]
  have a:=f.pos v (by omega)
  have b:=f.small v (by omega)
  omega
 rw[ybei (by omega) fun x d=>(c x d).1]
 exact⟨yuf _ _,yud _ _ (fun x d=>(c x d).2) _ (by omega)⟩
set_option maxHeartbeats 1000000 in
def ligP(g:Gr):Int:=(ybp 0 g.ports).foldl yka 0
def yfx(g:Gr)(W:List Int):Int:=(maxI W).tdiv (max (ligP g) 1)+1
theorem yboc{g:Gr}{W:List Int}(d:ybh g)(B:yil g=true)(o:IsW g W):Returns zH 13 [grV g] (.ag (ytf 3 false true (yfx g W) (-1))):=by
 unfold yfx ligP;obtain⟨LT,j⟩:∃x,(ybp 0 g.ports).foldl yka 0=x:=⟨_,rfl⟩;rw[j];refine Returns.of (ydzi _ _ ?_);have r:=ybrt (ycgz d);rw[B]at r;have m:=ycvd d o;have l:=ybfx (g:=g);have G:=d.1;have z:=d.2.1;have A:=ybzk W (by rw[o.len];omega) (by rw[o.len];omega)
 simp only[grV]at r m l;simp only[c13,ydzh,yeal,grV,clash,go_sem,zA,zB,zD];refine r.use ?_;simp only[ybk,yecw,ydsy,splice,clash,go_sem,zA,zB,zD];refine l.use ?_
 refine yky (ybrq (ybgo d)) [(3,0),(1,0),(2,0)] (fun i (_:Unit)=>⟨[(12,.fn 122 [] [.rf [yba g.ids,yu g.ports]]),(3,.pt (3,0) 0 0),(2,.pt (2,0) 0 0),(1,.pt (1,0) 0 0)],
  [(3,.one (some ⟨3,true,1,1,fun _=>[.i .i64 (((ybp 0 g.ports).take i).foldl yka 0)]⟩)),(2,.one (some ⟨36,true,5,1,fun _=>ytf 0 false false 0 0⟩)),(1,.one (some ⟨27,true,2,1,fun _=>[yba g.ids,yu g.ports]⟩))]⟩) (fun i _=>i<=(ybp 0 g.ports).length) () (zAA _) ⟨fun _ h=>absurd h zO,fun _ h=>absurd h zO⟩ ?_ (fun _=>rfl) ?_ ?_ ?_
 .refine yw ?_;simp only[ytf,zCS,wk,go_sem,zA,zD]
 .intro i _ w _;refine⟨trivial,?_⟩;simp only[go_sem,wk,go_sem,zA]
 .intro i _ w c;have c:i<(ybp 0 g.ports).length:=c;obtain⟨D,F⟩:=ymx d c;have y:=yma yka 0 c;have v:=ybfq d i w;obtain⟨a,p⟩:∃x,((ybp 0 g.ports).take i).foldl yka 0=x:=⟨_,rfl⟩;obtain⟨E,n⟩:∃E,yef g.ports i=E:=⟨_,rfl⟩;rw[p,n]at y;refine⟨_,rfl,?_⟩;simp only[ybgp];have e:∀x,yka a E=x->((ybp 0 g.ports).take (i+1)).foldl yka 0=x:=fun x h=>by rw[y,h]
  by_cases s:a=0
  .have q:(a==0)=true:=by rw[beq_iff_eq];exact s
   have f:=e E.b (by unfold yka;rw[if_pos (.inl s)])
   simp only[yckz,ycqc,ydiq,p,n,q,clash,splice,ytf,go_sem,zA,zB,zD];refine⟨by omega,?_⟩
   refine ybi [] [] [] ?_;simp only[f,wk,go_sem,zA,zD]
  .have q:(a==0)=false:=by rw[beq_eq_false_iff_ne];exact s
   by_cases t:E.b<a
   .have u:decide (E.b<a)=true:=decide_eq_true t;have f:=e E.b (by unfold yka;rw[if_pos (.inr t)])
    simp only[yckz,ycqc,ydiq,p,n,q,u,clash,splice,ytf,go_sem,zA,zB,zD];refine⟨by omega,?_⟩
    refine ybi [] [] [] ?_;simp only[f,wk,go_sem,zA,zD]
   .have u:decide (E.b<a)=false:=decide_eq_false t;have f:=e a (by unfold yka;rw[if_neg (by omega)])
    simp only[yckz,ycqc,p,n,q,u,clash,splice,ytf,go_sem,zA,zB,zD];refine⟨by omega,?_⟩
    refine ybi [] [] [] ?_;simp only[f,wk,go_sem,zA,zD]
 .intro _ _;have v:=ybfq d _ (zI _);rw[zZ,j]at v;have C:1<=max LT 1:=by omega
  have k:=yzs o d;simp only[ydsm,ydsd,ybgp,zZ,j,ytf,go_sem,zA,zB];refine m.use ?_;simp only[ybk,clash,go_sem,zA,zB,zK];refine A.use ?_;simp only[go_sem,zA,zB];have d1:(maxI W).tdiv (max LT 1)=maxI W/max LT 1:=Int.tdiv_eq_ediv_of_nonneg k.1;have d2:0<=maxI W/max LT 1:=Int.ediv_nonneg k.1 (by omega)
  have d3:maxI W/max LT 1<=maxI W:=Int.ediv_le_self _ k.1;exact⟨by decide,⟨by omega,ikw (by omega) (by omega)⟩,ikw (by omega) (by omega),Sim.refl _⟩
theorem ycew{g:Gr}(c:ybh g):∀k,k<=(ybp 0 g.ports).length->(((ybp 0 g.ports).take k).foldl yka 0=0->k=0)/\∀i,i<k->((ybp 0 g.ports).take k).foldl yka 0<=(yef g.ports i).b
 |0,_=>⟨fun _=>rfl,fun i f=>absurd f (zU i)⟩
 | k + 1,hk=>by
   obtain⟨h,d⟩:=ycew c k (by omega)
   rw[yma yka 0 (by omega)]
   obtain⟨l,m⟩:=ymx c (k:=k) (by omega)
   obtain⟨_,_,_,j,p⟩:=yds c l m;have n:=ybfq c k (by omega)
   obtain⟨a,o⟩:∃x,((ybp 0 g.ports).take k).foldl yka 0=x:=⟨_,rfl⟩;rw[o]at h d n ⊢;have j:1<=(yef g.ports k).b:=j;unfold yka
   by_cases q:a=0\/(yef g.ports k).b<a
   .rw[if_pos q];refine⟨fun e=>by omega,fun i f=>?_⟩
    by_cases e:i=k
    .rw[e];omega
    .have:=d i (by omega)
     rcases q with q|q
     .have:=h q;omega
     .omega
   .rw[if_neg q];refine⟨fun e=>absurd (.inl e) q,fun i f=>?_⟩
    by_cases e:i=k
    .rw[e];omega
    .exact d i (by omega)
end Sh
end
section
def ype(ls:List (Int×Int))(b:Int):Bool:=ls.any fun l=>decide (l.1=b)
namespace Sh
open Ev Go.RowKit
theorem ybwv{ids:List Int}{ports:List (List (Int×Int))}{a b:Nat}(u:a<ports.length)(g:(ports.getD a []).length<=100000) :
 Returns zH 116 [.ag [yba ids,yu ports],.i .i64 a,.i .i64 b] (.b (ype (ports.getD a []) b)):=by
 refine Returns.of (ydnw _ _ ?_);obtain⟨n,t⟩:∃n,ports.length=n:=⟨_,rfl⟩;obtain⟨L,o⟩:∃L,ports.getD a []=L:=⟨_,rfl⟩;rw[o]at g ⊢;obtain⟨m,s⟩:∃m,L.length=m:=⟨_,rfl⟩;simp only[c116,ycvs,ycua,go_sem,zB,zD];refine ybf (σ:=Nat) (fun k=>⟨[(7,.i .i64 k),(3,.pt (3,0) 0 0),(1,.i .i64 a),(2,.i .i64 b)],[(3,.one (some ⟨27,true,2,1,fun _=>[yba ids,yu ports]⟩))]⟩) (fun k=>k<=m/\∀j,j<k->(L.getD j (0,0)).1≠b) (fun k=>m-k) 0 ⟨zAA _,fun j e=>absurd e (zU j)⟩ ?_ ?_
 .refine yw ?_;simp only[go_sem,wk,go_sem,zA,zD]
 .rintro k ⟨hk,c⟩;simp only[ycwk,ycrd,ydds,ydaj,ycya,yu,ybc,t,o,s,go_sem,zA,zB,zK];refine⟨⟨by omega,by omega⟩,fun r=>⟨⟨by omega,by omega⟩,⟨by omega,by omega⟩,fun d=>?_,fun h=>⟨ikw (by omega) (by omega),?_⟩⟩,fun p=>?_⟩
  .have f:k<L.length:=by omega
   have:ype L b=true:=List.any_eq_true.2 ⟨L[k],zM _,by rw[getD_at f]at d;exact decide_eq_true d⟩
   rw[this];exact Sim.refl _
  .refine yj (k+1) ⟨by omega,fun j e=>?_⟩ (by omega) ?_
   .by_cases q:j=k
    .rw[q];exact h
    .exact c j (by omega)
   refine yw ?_;simp only[wk,go_sem,zA,zD];omega
  .have:ype L b=false:=List.any_eq_false.2 fun l g d=>by
    obtain⟨j,e,rfl⟩:=zY g;have:=c j (by omega)
    rw[getD_at e]at this;exact this (of_decide_eq_true d)
   rw[this];exact Sim.refl _
end Sh
end
section
namespace Sh
open Go Ev
theorem Cm.ct{P:Program}{g:FuncId}{args:List SV}{Q:SV->Own->Prop}{R:SV->Prop}(h:Cm P g [] [] args Q)(a:∀r A,Q r A->vok A 5 r/\R (view A 5 r)):Ct P g args R:=by
 intro G m S W C p
 have I:Conc m.next G om0 ⟨[],[]⟩ ⟨0,.leaf⟩ (ygj m) :=
  ⟨W,zI _,zI _,C,fun B b h=>(by cases h),fun B _=>rfl,fun B γ k z k' z' h=>(by cases h),fun B k z h=>(by cases h),fun t v N=>(by cases N)⟩
 obtain⟨v,j,r,A,X,U,s0,t2,J,l1,l2,_,_,Z⟩:=h m.next G om0 ⟨0,.leaf⟩ (ygj m) S I p
 obtain⟨r3,r4⟩:=a r A Z
 have K:ybx P (.call g S m) (.call v j):=by
  obtain⟨n,b,l⟩:=m;exact ybx.relow s0
 have D:m.next<=j.low:=t2.low
 have e:∀{i x},m.b.get i=some x->i<m.next:=fun {i x} q=>W i x q
 have u:∀H:AM,Le X H->(∀B k z,U B=some (some (k,z))->∀b,j.b.get k=some b->H k=some b)->RV H om0 (view A 5 r) v:=fun H E F=>ylc t2 E F J r3
 have L:ybx P (.call g S m) (.call v ⟨j.next,yig m.b j.b,j.low⟩):=by
  intro O;obtain⟨ext,s⟩:=K O
  have d:∀{i x},(yig m.b j.b).get i=some x->m.b.get i=some x\/j.b.get i=some x:=fun {i x} q=>by
   rw[ydp]at q;split at q
   .rename_i y hy;cases q;exact .inl hy
   .exact .inr q
  refine⟨⟨ext.next,fun i b a=>?_,fun i b E F a=>?_,fun i b a=>?_⟩,fun φ M w o hR V ha hf=>?_⟩
  .rcases d a with q|q
   .exact .inl ⟨b,q⟩
   .exact ext.dom i b q
  .rcases d a with q|q
   .exact q
   .exact ext.old i b E F q
  .rcases d a with q|q
   .exact zAJ (e q) ext.next
   .exact ext.wf i b q
  .refine(s φ M w o hR V ha hf).mono ?_;rintro e' w' ⟨v',rfl,T,Y,c,N⟩;refine⟨v',rfl,T,Y,⟨c.le,c.out,c.rel,fun i b a=>?_,c.frame,c.wg⟩,N⟩;rcases d a with q|q
   .have hi:=e q;rw[c.frame i (fun z=>by omega) (.inr (zAJ hi D))]
    exact V i b q
   .exact c.sub i b q
 have f:∀{i},m.next<=i->m.b.get i=none:=fun {i} q=>by
  cases hh:m.b.get i with
  |none=>rfl
  |some x=>have:=e hh;omega
 refine⟨_,_,view A 5 r,L,D,fun i b a=>?_,r4,u _ (fun i b a=>?_) (fun B k z hk b a=>?_)⟩
 .show(yig m.b j.b).get i=some b;rw[ydp,a]
 .unfold frsh;rcases l2 i b a with q|q
  .rw[if_neg (by have:=e (C i b q);omega)];exact q
  .rw[if_pos q];show(yig m.b j.b).get i=some b;rw[ydp,f q];exact t2.sub i b a
 .unfold frsh;have:=(t2.apart B k z hk).2.1;rw[if_pos this];show(yig m.b j.b).get k=some b;rw[ydp,f this];exact a
theorem Cm.weak {P:Program}{g:FuncId}{o:Own}{args:List SV}{Q R:SV->Own->Prop}(h:Cm P g [] o args Q)
 (I:∀r l,Q r l->∃j i,Weak [] ⟨[(0,r)],l⟩ ⟨[(0,j)],i⟩/\(cln (live i) 5 j=true/\allQ (fun p=>ycl (live i) p.2) i)/\R j i):Cm P g [] o args R:=by
 intro w G U f m T H d;obtain⟨v,y,r,l,B,n,S,t2,q,M,N,_,_,E⟩:=h w G U f m T H d;obtain⟨j,i,J,k,F⟩:=I r l E
 have t3:Conc w B n ⟨[(0,r)],l⟩ ⟨1,tOf [v]⟩ y:=⟨t2.wf,t2.low,t2.nxt,t2.sub,t2.own,t2.dom,t2.inj,t2.apart,fun t x a=>by
  unfold look at a;split at a
  .rename_i e
   cases a
   exact⟨v,by rw[ydf];simp[<-e],q⟩
  .cases a⟩
 obtain⟨A,D,K,L,c,_⟩:=J w B n _ y t3;obtain⟨u,C,O⟩:=c.fr 0 j rfl
 have e:u=v:=by
  rw[ydf]at C
  simpa using C.symm
 subst e
 exact⟨u,y,j,i,D,A,S,⟨c.wf,c.low,c.nxt,c.sub,c.own,c.dom,c.inj,c.apart,fun t x a=>(by cases a)⟩,O,fun x b a=>K x b (M x b a),fun x b a=>by
  rcases L x b a with z|z
  .exact N x b z
  .exact .inr z,fun V s=>absurd s zO,⟨k.1,k.2,trivial⟩,F⟩
end Sh
end
section
structure NetR where
 n:Int
 links:List Int
 weights:List Int
 ids:List Int
 apart:Bool
 back:Bool
def NetR.ok(x:NetR):Prop:=Sh.inK .i64 x.n/\(∀k,Sh.inK .i64 (x.links.getD k 0))/\(∀k,Sh.inK .i64 (x.weights.getD k 0))/\(∀k,Sh.inK .i64 (x.ids.getD k 0))
def ybid(x:NetR)(ids:List Int):Prop:=x.ids=[]->∀y∈ids,y<(ids.length:Int)
theorem ybnw(a r:Nat)(d:r<=256):((zAG r).map fun i=>(((a+i)%256:Nat):Int)).Nodup:=by
 unfold List.Nodup;rw[zAS];refine List.Pairwise.imp_of_mem (R:=(· < ·)) (fun {i j} b c h=>?_) List.pairwise_lt_range;have b:=List.mem_range.1 b;have c:=List.mem_range.1 c;intro e;omega
theorem ybrv{a r:Nat}{l:List Int}(c:r<=256)(h:∀i,i<r->(((a+i)%256:Nat):Int)∈l):r<=l.length:=by
 have:=List.Nodup.length_le_of_subset (ybnw a r c) (l₂:=l) fun x d=>by
  obtain⟨i,b,rfl⟩:=List.mem_map.1 d;exact h i (List.mem_range.1 b)
 simpa using this
namespace Sh
open Ev Go.RowKit
def netC(x:NetR):List SV:=[.i .i64 x.n,yba x.links,yba x.weights,yba x.ids,.b x.apart,.b x.back]
theorem wrap64_in(z:Int):inK .i64 (IntKind.wrap .i64 z):=by
 unfold inK;have a:IntKind.i64.min = -9223372036854775808:=rfl;have b:IntKind.i64.max=9223372036854775807:=rfl;have c:=zBB z (show(18446744073709551616:Int)≠0 by decide)
 have d:=zAR z (show(0:Int)<18446744073709551616 by decide)
 rw[a,b]
 have e:IntKind.wrap .i64 z=if z%18446744073709551616>=9223372036854775808 then z%18446744073709551616-18446744073709551616 else z%18446744073709551616:=by
  show(if (true&&decide (z%18446744073709551616>=9223372036854775808))=true then z%18446744073709551616-18446744073709551616 else z%18446744073709551616)=_
  simp only[zAO,decide_eq_true_eq]
 rw[e];split<;>omega
theorem ycjw{x:NetR}(hx:x.ok){most:Nat}(I:1<=most/\most<=24) :
 Cm zH 47 [] [] [.ag (netC x),.i .i64 most] fun r o=>∃ids:List Int,(1<=ids.length/\ids.length<=most/\(ids.length:Int)=1+yea (IntKind.wrap .i64 (x.n-1)) most/\ybid x ids)/\(∀y∈ids,0<=y/\y<=255)/\ids.Nodup/\r = .ag [.os (148,0) 0 ids.length true,.os (17,0) 0 ids.length true] /\
  o=[(17,.one (some ⟨135,false,1,ids.length,fun _=>[.a (.slice none 0 0)]⟩)),(148,.one (some ⟨3,false,1,ids.length,fun k=>[.i .i64 (ids.getD k 0)]⟩))]:=by
 refine ydhl [] [] _ _ _ ?_;obtain⟨a2,a3,a4,N⟩:=hx;have w:=ynn (v:=IntKind.wrap .i64 (x.n-1)) (m:=(most:Int)) (by omega)
 obtain⟨k,hk⟩:∃k:Nat,yea (IntKind.wrap .i64 (x.n-1)) most=k:=zAE w.1;have O:=ynf (IntKind.wrap .i64 (x.n-1)) most (by omega) (wrap64_in _)
 rw[hk]at O w;obtain⟨n,Z⟩:∃n:Nat,(1:Int)+(k:Int)=(n:Int):=⟨1+k,by omega⟩
 have L:1<=n/\n<=most/\(n:Int)=1+yea (IntKind.wrap .i64 (x.n-1)) most:=by omega
 simp only[c47,ydts,ydtb,netC,go_sem,zA,zB,zK,zD];refine O.use ?_;simp only[ybk,yecy,yedh,Z,clash,go_sem,zA,zB,zD];refine⟨ikw (by omega) (by omega),⟨by omega,by omega,by omega⟩,?_⟩
 refine ybf (σ:=List Int) (fun l=>⟨[(7,.i .i64 l.length),(5,.i .i64 n),(2,.pt (2,0) 0 0),(6,.pt (6,0) 0 0),(4,.pt (4,0) 0 0)],
  [(2,.one (some ⟨24,true,6,1,fun _=>netC x⟩)),(4,.one (some ⟨27,true,2,1,fun _=>[.a (.slice none 0 0),.a (.slice none 0 0)]⟩)),
   (6,.one (some ⟨27,true,2,1,fun _=>[.os (148,0) 0 l.length true,.os (17,0) 0 n true]⟩)),(17,.one (some ⟨135,false,1,n,fun _=>[.a (.slice none 0 0)]⟩)),
   (148,.one (some ⟨3,false,1,l.length,fun k=>[.i .i64 (l.getD k 0)]⟩))]⟩)
  (fun l=>l.length<=n/\(∀y∈l,0<=y/\y<=255)/\l.Nodup/\ybid x l) (fun l=>n-l.length) [] ⟨zAA _,fun y d=>(zO d).elim,zBE,fun _ y d=>(zO d).elim⟩ ?_ ?_
 .refine yca [] [148] [] ?_;simp only[netC,wk,go_sem,zA,zD,Nat.reduceBEq];exact fun i _=>⟨(148,0),rfl,rfl,rfl⟩
 .rintro l ⟨X,A,B,C⟩;obtain⟨v,h⟩:∃v,l.length=v:=⟨_,rfl⟩;rw[h]at X;have T:=at_ret x.ids v;have t:=ynn (v:=atP x.ids v) (m:=256) (by omega)
  obtain⟨a,U⟩:∃a:Nat,yea (atP x.ids v) 256=a:=zAE t.1;have p:=ynf (atP x.ids v) 256 (by omega) (N v)
  rw[U]at p t;simp only[ydtd,ydxk,ydps,ydca,netC,h,splice,clash,go_sem,zA,zB,zK];refine⟨fun Y=>?_,fun W=>?_⟩
  .refine T.use ?_;simp only[ybk,clash,go_sem,zA,zB];refine p.use ?_
   refine ybf (σ:=Nat×Nat) (fun q=>⟨[(9,.i .i64 q.2),(8,.i .i64 ((a+q.1)%256:Nat)),(7,.i .i64 v),(5,.i .i64 n),(2,.pt (2,0) 0 0),(6,.pt (6,0) 0 0),(4,.pt (4,0) 0 0)],
    [(2,.one (some ⟨24,true,6,1,fun _=>netC x⟩)),(4,.one (some ⟨27,true,2,1,fun _=>[.a (.slice none 0 0),.a (.slice none 0 0)]⟩)),
     (6,.one (some ⟨27,true,2,1,fun _=>[.os (148,0) 0 v true,.os (17,0) 0 n true]⟩)),(17,.one (some ⟨135,false,1,n,fun _=>[.a (.slice none 0 0)]⟩)),
     (148,.one (some ⟨3,false,1,v,fun k=>[.i .i64 (l.getD k 0)]⟩))]⟩)
    (fun q=>q.2<=v/\(∀i,i<q.1->(((a+i)%256:Nat):Int)∈l)/\q.1<=256/\∀j,j<q.2->l.getD j 0≠(((a+q.1)%256:Nat):Int)) (fun q=>(v-q.1)*(v+2)+(v-q.2)) (0,0) ⟨zAA _,fun i K=>absurd K (zU i),by omega,fun j f=>absurd f (zU j)⟩ ?_ ?_
   .refine yw ?_;simp only[netC,wk,go_sem,zA,zD];rw[Nat.mod_eq_of_lt (by omega)]
   .rintro⟨r,u⟩ ⟨S,F,c,g⟩;obtain⟨b,s⟩:∃b,(a+r)%256=b:=⟨_,rfl⟩;have J:b<256:=by omega
    simp only[yeai,yecn,ycwf,ydaz,yctq,ydsk,netC,s,splice,clash,go_sem,zA,zB,zK,zD];have S:u<=v:=S;have F:∀i,i<r->(((a+i)%256:Nat):Int)∈l:=F;have c:r<=256:=c;have g:∀j,j<u->l.getD j 0≠(b:Int):=fun j f=>by rw[<-s];exact g j f
    have a1:r<=v:=by rw[<-h];exact ybrv c F
    refine⟨fun Q=>⟨⟨by omega,by omega⟩,by omega,fun V=>⟨ikw (by omega) (by omega),by decide,ikw (by omega) (by omega),?_⟩,fun M=>⟨ikw (by omega) (by omega),?_⟩⟩,fun P=>?_⟩
    .have D:(b:Int)∈l:=by
      rw[<-V,getD_at (show u<l.length by omega)]
      exact zM _
     have G:∀i,i<r+1->(((a+i)%256:Nat):Int)∈l:=fun i K=>by
      by_cases q:i=r
      .rw[q,s];exact D
      .exact F i (by omega)
     have R:r+1<=v:=by rw[<-h];exact ybrv (by omega) G
     refine yj (r+1,0) ⟨zAA _,G,by show r+1<=256;omega,fun j f=>absurd f (zU j)⟩ ?_ ?_
     .show(v-(r+1))*(v+2)+(v-0)<(v-r)*(v+2)+(v-u);obtain⟨m,I⟩:∃m,v-r=m+1:=⟨v-r-1,by omega⟩
      rw[show v-(r+1)=m by omega,I,Nat.succ_mul]
      generalize m*(v+2)=z
      omega
     .refine yw ?_;simp only[wk,go_sem,zA,zD];refine⟨by omega,?_⟩
      rw[Int.tmod_eq_emod_of_nonneg (by omega)]
      omega
    .refine yj (r,u+1) ⟨by show u+1<=v;omega,F,c,fun j f=>?_⟩ ?_ ?_
     .show l.getD j 0≠(((a+r)%256:Nat):Int);rw[s]
      by_cases q:j=u
      .rw[q];exact M
      .exact g j (by have:j<u+1:=f;omega)
     .show(v-r)*(v+2)+(v-(u+1))<(v-r)*(v+2)+(v-u)
      generalize (v-r)*(v+2)=z
      omega
     .refine yw ?_;simp only[s,wk,go_sem,zA,zD];omega
    .obtain rfl:u=v:=by omega
     refine⟨⟨by omega,by omega⟩,ikw (by omega) (by omega),?_⟩
     have E:(b:Int)∉l:=fun I=>by
      obtain⟨j,f,e⟩:=zY I;exact g j (by omega) (by rw[getD_at f,e])
     refine yj (l++[(b:Int)]) ⟨by rw[zAK,zAW];omega,fun y d=>?_,?_,?_⟩ (by rw[zAK,zAW];omega) ?_
     .rcases List.mem_append.1 d with d|d
      .exact A y d
      .rw[List.mem_singleton.1 d];omega
     .rw[zBJ];exact⟨B,by simp,fun y d z hz=>by rw[List.mem_singleton.1 hz];exact fun e=>E (e▸d)⟩
     .intro H y d;rw[zAK,zAW];rcases List.mem_append.1 d with d|d
      .have:=C H y d;omega
      .have a0:a=0:=by
        have:yea (atP x.ids u) 256=0:=by rw[H];rfl
        omega
       rw[List.mem_singleton.1 d];omega
     refine yca [(148,fun i=>(48,i))] [] [] ?_;simp only[zAK,h,wk,go_sem,zA,zD];refine⟨by omega,fun i K=>?_⟩
     rw[ydvx,h]
     by_cases q:i<u
     .simp only[if_pos q];simp only[wk,go_sem]
     .obtain rfl:i=u:=by omega
      simp only[if_neg q,zCY];simp only[wk,go_sem]
  .obtain rfl:v=n:=by omega
   simp only[yhi,go_sem];refine⟨.ag [.os (148,0) 0 v true,.os (17,0) 0 v true],[(17,.one (some ⟨135,false,1,v,fun _=>[.a (.slice none 0 0)]⟩)),(148,.one (some ⟨3,false,1,v,fun k=>[.i .i64 (l.getD k 0)]⟩))],?_,?_,l,⟨by omega,by omega,by rw[h];exact L.2.2,C⟩,A,B,by rw[h],by rw[h]⟩
   .refine yw ?_;simp only[wk,go_sem,zA,zD]
   .simp only[ycl,yfj,wk,go_sem,zA]
theorem yclt{x:NetR}(j:x.ok){most:Nat}(g:1<=most/\most<=24) :
 Cm zH 47 [] [] [.ag (netC x),.i .i64 most] fun r o=>∃ids:List Int,(1<=ids.length/\ids.length<=most/\(ids.length:Int)=1+yea (IntKind.wrap .i64 (x.n-1)) most/\ybid x ids)/\(∀y∈ids,0<=y/\y<=255)/\ids.Nodup/\r = .ag [yba ids,.os (17,0) 0 ids.length true] /\
  o=[(17,.one (some ⟨135,false,1,ids.length,fun _=>[.a (.slice none 0 0)]⟩))] :=
 (ycjw j g).weak fun r k ⟨ids,d,e,f,b,c⟩=>by
   subst b c;obtain⟨v,h⟩:∃v,ids.length=v:=⟨_,rfl⟩;refine⟨.ag [yba ids,.os (17,0) 0 ids.length true],[(17,.one (some ⟨135,false,1,ids.length,fun _=>[.a (.slice none 0 0)]⟩))],?_,?_,ids,d,e,f,rfl,rfl⟩
   .refine yca [] [] [(148,0)] ?_;simp only[yba,h,wk,go_sem,zA,zD]
   .simp only[ycl,yfj,wk,go_sem]
end Sh
end
end Go.Proofs.YthclbjjgfcgbgaaGreatDoor
