/- Joined. -/
import Derived.Test.YthclbjjgfcgbgaaGreatDoorPkCb7
import Derived.Test.YthclbjjgfcgbgaaGreatDoorPkCb6
set_option linter.unusedSimpArgs false
set_option linter.unusedVariables false
set_option maxRecDepth 1000000
open Nat renaming reduceEqDiff->zA,reduceAdd->zB,reduceLT->zD,reduceLeDiff->zI,le_refl->zJ,beq_refl->zO,beq->zQ,le_of_ble_eq_true->zT,zero_le->zV,add_comm->zY,reduceBEq->zAA,eq_of_beq_eq_true->zAD,zero_add->zAF,lt_of_lt_of_le->zAH,not_lt_zero->zAI,ble_eq_true_of_le->zAM,blt->zAO,ble->zBC,shiftRight_eq_div_pow->zBJ,testBit_lt_two_pow->zBR,pow_lt_pow_right->zBT,pow_le_pow_right->zBU,reduceMul->zBW,lt_of_le_of_lt->zBY,lt_of_lt_of_eq->zBZ,sub_self->zCA,lt_or_ge->zCD,lt_succ_self->zCN,lt_irrefl->zCV
open Go.Lib renaming hid->zC
open List renaming getElem?_eq_getElem->zF,getD->zK,getElem_mem->zL,getD_eq_getElem?_getD->zN,replicate->zU,mem_cons_of_mem->zW,length_map->zX,map_congr_left->zAB,mem_cons_self->zAC,not_mem_nil->zAE,getElem_of_mem->zAG,length_append->zAJ,getElem?_eq_none->zAL,mem_of_mem_take->zAN,getElem_append_left->zAP,pairwise_map->zAR,getElem?_set_self->zAS,map_cons->zAT,getElem_map->zAU,length_singleton->zAV,getElem?_set_ne->zAX,map_map->zAZ,getD_cons_zero->zBA,nodup_nil->zBB,findIdx?_cons->zBE,nodup_append->zBG,getElem_append_right->zBI,getElem?_append_left->zBK,drop_eq_getElem_cons->zBL,take_length->zBM,getElem?_replicate->zBP,nodup_cons->zBQ,drop_eq_nil_of_le->zBS,mem_of_mem_drop->zBV,getD_cons_succ->zBX,getElem?_drop->zCE,getElem?_map->zCH,all_eq_false->zCI,length->zCJ,ext_getElem->zCL,all_eq_true->zCM,length_drop->zCO,foldl_cons->zCQ,drop_zero->zCS,take->zCT,drop->zCU,all_cons->zCW,range->zDC
open Bool renaming and_eq_true->zG,true_and->zZ,false_ne_true->zAK,not_eq_true'->zBH,eq_iff_iff->zCR
open Go.Proofs.Tryz renaming prog->zH,func131->zAW,func87->zBD,ntmps131->zBF,ntmps87->zBO,func121->zCC,underlying22->zCF,zeroCells241->zCG,func89->zCK,ntmps121->zCX,ntmps89->zCZ,func34->zDB
open Int renaming eq_ofNat_of_zero_le->zM,toNat_natCast->zS,emod_lt_of_pos->zAQ,emod_nonneg->zAY,natCast_zero->zBN,reduceToNat->zCP
open And renaming intro->zCB
open BitVec renaming ofInt->zCY
open Eq renaming trans->zDA
open Go
namespace Go.Proofs.YthclbjjgfcgbgaaGreatDoor
section
open Go.RowKit
theorem ybyy(n k:Nat)(hk:k<n):(zU k (-1:Int)++zU (n-k) 0).set k (-1)=zU (k+1) (-1)++zU (n-(k+1)) 0:=by
 apply zCL
 .simp;omega
 .intro i b c;rw[List.getElem_set];split
  .subst_vars
   rw[zAP (by simp)]
   simp
  .by_cases a:i<k
   .rw[zAP (by simpa using a),zAP (by simp;omega)];simp
   .rw[zBI (by simp;omega),zBI (by simp;omega)];simp
theorem ypc(g:Gr)(a:Nat)(h:g.ports.length<=24):1+ydf (start g a)<=30:=by
 have b:=List.countP_le_length (p:=fun x:Int=>decide (x<0)) (l:=start g a);have c:(start g a).length=g.ports.length:=by simp[start]
 unfold ydf;omega
set_option maxHeartbeats 2000000 in
theorem yzv(gv:Value)(g:Gr)(a:Nat)(w:World)(hg:GrAt w gv g)(r:ybi g)(N:a<g.ports.length) :
 Calls zH 142 #[gv,.int .i64 a] w (ydku (ybs g a) w):=by
 have U:=r.2.1;have Hgood:=zC r
 clear r
 obtain⟨i,p,rfl,hi,hp⟩:=hg;obtain⟨A2,c2,rfl,d5,d6⟩:=ycc hp;have Hp:=zC hp
 clear hi hp
 have b7:=ybfb g.ports.length (by omega)
 go_enter Tryz.func142,Tryz.ntmps142
 go_wp2
 go_loopg [17] g.ports.length (fun q t wr=>∃k:Nat,q+k=g.ports.length/\t = .int .i64 k/\Hid (Below (w.heap.size+1) (w.alloc (.cells #[i,.slice A2 g.ports.length c2] 27)) wr)/\Hid (IBlk wr (w.heap.size+1) (zU k (-1)++zU (g.ports.length-k) 0)))
 case atStart =>
  refine⟨0,by omega,rfl,zC ((Below.refl _ _).alloc (by simp) _),zC ?_⟩
  have:=IBlk.new (w.alloc (.cells #[i,.slice A2 g.ports.length c2] 27)) (zU g.ports.length (0:Int))
  simpa using this
 case round =>
  obtain⟨k,hq,rfl,c,b⟩:=hrel
  by_cases B:k<g.ports.length
  .obtain⟨x,L⟩:∃x,wr.cell? ⟨w.heap.size+1,k,none⟩=some (.int .i64 x):=⟨_,b.out.cell (by simp;omega)⟩
   have hf:=b.out.frozen k
   go_wp2
   go_roundg (gk-1)
   case measure=>omega
   case rel =>
    refine⟨k+1,by omega,by go_num,zC (c.out.setCell (by simp) _),zC ?_⟩
    have:=b.out.set_ k (-1)
    rwa [ybyy _ _ B]at this
  .obtain rfl:k=g.ports.length:=by omega
   have m:IBlk wr (w.heap.size+1) (zU g.ports.length (-1)):=by simpa using b.out
   obtain⟨x,L⟩:∃x,wr.cell? ⟨w.heap.size+1,a,none⟩=some (.int .i64 x):=⟨_,m.cell (by simpa using N)⟩
   have hf:=m.frozen a;have Hb0:=zC m
   clear m b b7
   go_wp2
   go_loopg [7] (1+ydf (start g a)) (fun q t wr=>∃R Q,q=Q.length+ydf R/\q<=30/\Hid (Below (w.heap.size+1) (w.alloc (.cells #[i,.slice A2 g.ports.length c2] 27)) wr)/\Hid (IBlk wr (w.heap.size+1) R)/\Hid (BfsInv g a R Q)/\Hid (Owns wr (w.heap.size+2) 3 1 t Q.length (Q.map (fun q:Nat=>Value.int .i64 (q:Int)))))
   case atStart =>
    refine⟨start g a,[a],rfl,ypc g a U,zC ((c.out.setCell (by simp) _).alloc (by have:=c.out.size;simp at this ⊢;omega) _),zC ((Hb0.out.set_ a 0).alloc _),zC (BfsInv.start N),zC ?_⟩
    refine⟨rfl,.inr ⟨_,0,1,#[.int .i64 (a:Int)],rfl,?_,?_,zJ _,by simp[maxLen],by simp,?_⟩⟩
    .have:=Hb0.out.lt;simp;omega
    .have:=heap_alloc_new (wr.setCell ⟨w.heap.size+1,a,none⟩ (.int .i64 0)) (.cells #[.int .i64 (a:Int)] 3);simpa using this
    .intro j u hu
     simpa using hu
   case round =>
    clear c Hb0 L hf
    obtain⟨R,Q,hq,d2,c,b,f,hown⟩:=hrel;obtain⟨AQ,cQ,rfl⟩:=hown.out.val;cases Q with
    | nil =>
      have Hd:=zC (f.out.isDist.unique (yek Hgood.out N))
      go_wp2
      go_ret
      have h:=b.out.ints (fun x L=>by have:=f.out.isDist.bound Hgood.out N x L;unfold I64;omega) (by rw[f.out.len];omega)
      rw[f.out.len,Hd.out]at h;exact⟨_,rfl,h,(box2 c.out).2.2.1⟩
    | cons v Q =>
      obtain⟨gQ,oQ,d4,hv,e1,e2,b1,b4,o⟩:=hown.out.form (by simp)
      cases hv
      have O:=o 0 (.int .i64 (v:Int)) rfl;simp only[Nat.add_zero]at O;have a7:=zC o;obtain⟨d,hd⟩:=f.out.qin v (by simp)
      have a3:v<g.ports.length:=by rw[<-f.out.len];exact(List.getElem?_eq_some_iff.1 hd).1
      obtain⟨q0,q1,n,a0⟩:=box2 c.out;obtain⟨b2,a6,lv,rfl,d7,E,D⟩:=ypv Hp.out (zF a3);have S:=ylw n _ _ E
      clear E
      obtain⟨A3,c3,rfl,b6,e3⟩:=ycc D;obtain⟨z,s⟩:∃z,g.ports[v]=z:=⟨_,rfl⟩;have Hlp:=zC (show g.ports[v]?=some z by rw[zF a3,s])
      rw[s]at D S b6;have Hls:=zC D;have Hin:=zC (f.out.pop hd z);have M:=zC n
      clear s D n o f hd
      simp only[List.length_cons]at hq b1 hown O;obtain⟨i0,H,a4,K,a5⟩:=info_parts ybpv;obtain⟨vQ,Y,J,V⟩:=ycnb (P:=zH) zCF H K hown.out (k:=1) (by simp) (by simp)
      simp only[Nat.add_sub_cancel,Nat.mul_one,zAT,List.drop_succ_cons,zCS]at J;have Z:∀W,(Instr.slice 22 (.slice (some ⟨gQ,oQ,none⟩) (Q.length+1) cQ) (some (.int .i64 1)) none none).run zH W = .ok vQ W:=fun W=>by simpa using Y W
      have HoQ:=zC J;have Hi0:=zC (show _/\_/\_/\_ from⟨H,a4,K,a5⟩)
      clear J hown Y V H a4 K a5
      unfold maxLen at b4
      go_wp2
      clear Z
      obtain⟨go,rfl⟩:∃go,go=gk:=⟨_,rfl⟩
      go_loopg [43,7] z.length (fun q t tq wr=>∃(k:Nat) (R:List Int) (Q:List Nat),q+k=z.length/\t = .int .i64 k/\Hid (go=Q.length+1+ydf R)/\Hid (Below (w.heap.size+1) (w.alloc (.cells #[i,.slice (some ⟨b2,a6,none⟩) g.ports.length c2] 27)) wr)/\Hid (IBlk wr (w.heap.size+1) R)/\Hid (BfsIn g a v d z k R Q)/\Hid (Owns wr (w.heap.size+2) 3 1 tq Q.length (Q.map (fun q:Nat=>Value.int .i64 (q:Int)))))
      case atStart=>exact⟨0,R,Q,by omega,rfl,zC (by omega),c,b,Hin,HoQ⟩
      case round =>
       clear c b Hin HoQ hq S q0 q1 M a0
       obtain⟨k,R,Q,hq,rfl,Hgk,c,b,Hin,HoQ⟩:=hrel
       by_cases B:k<z.length
       .obtain⟨q0,q1,n,a0⟩:=box2 c.out;have M:=zC n;obtain⟨A4,c4,e4,_,_,hE⟩:=Hls.out.below Stable.link n;cases e4
        obtain⟨b3,d3,rfl,d8,hE⟩:=hE (by omega)
        obtain⟨⟨l1,wt⟩,s⟩:∃l,z[k]=l:=⟨_,rfl⟩;have I:z[k]?=some (l1,wt):=by rw[zF B,s]
        obtain⟨c8,c9,⟨b9,c0⟩,⟨c6,c7⟩⟩:=hE k _ I;obtain⟨k1,k2,k3,k4,k5⟩:=Hgood.out.link Hlp.out (List.mem_of_getElem? I);simp only at k1 k2 k3 k4 k5 c8 c9 b9 c0 c6 c7;obtain⟨u,rfl⟩:=zM k1;have a1:u<R.length:=by rw[Hin.out.len];omega
        have a2:v<R.length:=by rw[Hin.out.len];omega
        have G:R[v]?=some (d:Int):=Hin.out.rv;have b0:=b.out.cell a2;rw[show R[v]=(d:Int)by have:=zF a2;rw[G]at this;exact(Option.some.inj this).symm]at b0
        have d9:=b.out.cell a1;have e0:=b.out.frozen u
        have d0:d<g.ports.length:=by
         rcases Hin.out.val v _ G with e|⟨k',e,h1,h2⟩
         .omega
         .obtain rfl:d=k':=by omega
          exact ywh Hgood.out N h1 h2
        have y:z[k].1=(u:Int):=by rw[s]
        have A:R[u]?=some R[u]:=zF a1;have hB:w.heap.size+1<wr.heap.size:=b.out.lt
        clear hE I s n k1 k3 G
        by_cases d1:R[u]<0
        .have F:R[u]?=some (-1):=by
          rcases Hin.out.val u _ A with e|⟨k',e,_⟩
          .exact A.trans (congrArg some e)
          .exact absurd e (by omega)
         have Hd:=zC (Hin.out.discover Hlp.out B y F);have Hun:=zC (yxv (R:=R) (u:=u) (x:=(d:Int)+1) F (by omega))
         clear A F y
         go_wp2
         go_region
         go_wp2_with (at_builtin;refine yqv _ rfl _ _ 22 rfl (w.heap.size+2) 3 i0 (.int .i64 0) 1 8 zCF Hi0.out.1 Hi0.out.2.1 Hi0.out.2.2.1 Hi0.out.2.2.2 rfl (by decide) u7 Q.length (Q.map (fun q:Nat=>Value.int .i64 (q:Int))) (by rfl) ?hown _ 1 1 [.int .i64 (u:Int)] (by rfl) rfl ?c1 ?c2 ?c3 ?c4 ?c5 ?_)
         case hown=>exact(((HoQ.out.low (p:=⟨w.heap.size+1,u,none⟩) (by simp) _).alloc _).alloc _).drew
         case c1=>exact yclo (by simp)
         case c2=>simp[Value.oneCell']
         case c3=>have:=Hgk.out;simp only[maxLen];omega
         case c4=>have:=Hgk.out;omega
         case c5=>simp;omega
         intro e5 w' C T b8;have hgo:=Hgk.out;have Hown:=zC C;have Hgr:=zC T
         clear C T b8
         go_wp2
         go_roundg (gk-1)
         case measure=>omega
         case rel =>
          have a9:=(((c.out.setCell (p:=⟨w.heap.size+1,u,none⟩) (by simp) (.int .i64 ((d:Int)+1))).alloc (by simp;omega) (.cells #[.int .i64 (u:Int),.int .i64 wt] 68)).alloc (by simp;omega) (.cells #[.int .i64 (u:Int)] 3)).drew
          have b5:=((((b.out.set_ u ((d:Int)+1)).alloc (.cells #[.int .i64 (u:Int),.int .i64 wt] 68)).alloc (.cells #[.int .i64 (u:Int)] 3)).drew);refine⟨k+1,R.set u ((d:Int)+1),Q++[u],by omega,by go_num,zC ?_,zC (a9.grown Hgr.out (by simp;omega) (fun x L=>?_)),zC (b5.grown Hgr.out (fun e=>?_)),Hd,zC ?_⟩
          .have:=Hun.out;simp;omega
          .have:=(HoQ.out.lt L).1;omega
          .have:=(HoQ.out.lt e.symm).1;omega
          .have:=Hown.out
           simpa using this
        .have X:0<=R[u]:=by omega
         obtain⟨j,hj⟩:=zM X;have a8:=zC (Hin.out.skip B (j:=j) (by rw[y,zS,A,hj]))
         clear A y hj
         go_wp2
         have hgo:=Hgk.out
         go_roundg (gk-1)
         case measure=>omega
         case rel=>exact⟨k+1,R,Q,by omega,by go_num,Hgk,zC (c.out.alloc (by omega) _),zC (b.out.alloc _),a8,zC (HoQ.out.alloc _)⟩
       .obtain rfl:k=z.length:=by omega
        go_wp2
        have hgo:=Hgk.out
        go_roundg (Q.length+ydf R)
        case measure=>omega
        case rel=>exact⟨R,Q,rfl,by omega,c,b,zC (Hin.out.finish Hlp.out),HoQ⟩
end
section
open Go.RowKit
theorem ybgx:zCG=Array.replicate 256 (.bool false):=by kernel_rfl
def Seen(w:World)(g:Nat)(S:List Int):Prop:=∃a,w.heap[g]?=some (.cells a 241 (0,0))/\a.size=256/\∀i:Nat,i<256->a[i]?=some (.bool (decide ((i:Int)∈S)))
theorem Seen.cell{w:World}{g:Nat}{S:List Int}(h:Seen w g S){i:Nat}(d:i<256):w.cell? ⟨g,i,none⟩=some (.bool (decide ((i:Int)∈S))):=by
 obtain⟨a,b,e,c⟩:=h;simp[World.cell?,b,c i d]
theorem Seen.frozen{w:World}{g:Nat}{S:List Int}(h:Seen w g S)(i:Nat):w.frozen? ⟨g,i,none⟩=false:=by
 obtain⟨a,b,c,d⟩:=h;simp[World.frozen?,b]
theorem Seen.set_{w:World}{g:Nat}{S:List Int}(h:Seen w g S){i:Nat}:Seen (w.setCell ⟨g,i,none⟩ (.bool true)) g (S++[(i:Int)]):=by
 obtain⟨a,b,c,d⟩:=h;refine⟨a.setIfInBounds i (.bool true),by simp[World.setCell,Array.getElem?_modify,b],by simp[c],fun j e=>?_⟩
 rw[Array.getElem?_setIfInBounds];split
 .subst_vars
  rw[if_pos (by omega)]
  simp
 .rw[d j e];congr 3;simp;omega
theorem Seen.start(w:World):Seen (w.alloc (.cells zCG 241)) w.heap.size []:=by
 refine⟨_,heap_alloc_new w _,by rw[ybgx];simp,fun i a=>?_⟩
 rw[ybgx];simp[a]
def ybkk(ids:List Int):Bool:=decide ((∀x∈ids,0<=x/\x<=255)/\ids.Nodup)
def yvt(ids:List Int)(k:Nat):Prop:=(∀x∈ids.take k,0<=x/\x<=255)/\(ids.take k).Nodup
theorem ybwa{ids:List Int}{k:Nat}(hk:k<ids.length):yvt ids (k+1)↔yvt ids k/\(0<=ids[k]/\ids[k]<=255)/\ids[k]∉ids.take k:=by
 unfold yvt;rw[take_snoc ids k hk,zBG];constructor
 .rintro⟨d,f,_,g⟩;exact⟨⟨fun x c=>d x (List.mem_append_left _ c),f⟩,d _ (List.mem_append_right _ (by simp)),fun l=>g _ l _ (by simp) rfl⟩
 .rintro⟨⟨d,f⟩,g,i⟩;refine⟨fun x c=>?_,f,by simp,fun a j b h e=>?_⟩
  .rcases List.mem_append.1 c with c|c
   .exact d x c
   .simp at c;subst c;exact g
  .simp at h;subst h e;exact i j
theorem ybnu{ids:List Int}{k:Nat}(h:¬yvt ids k):ybkk ids=false:=by
 unfold ybkk;rw[decide_eq_false_iff_not];exact fun a=>h ⟨fun x b=>a.1 x (zAN b),a.2.sublist (List.take_sublist _ _)⟩
theorem ybut{ids:List Int}(h:yvt ids ids.length):ybkk ids=true:=by
 unfold yvt at h;rw[zBM]at h;exact decide_eq_true h
set_option maxRecDepth 100000 in
set_option maxHeartbeats 1000000 in
theorem ytu(s:Value)(ids:List Int)(w:World)(o:yof w s ids) :
 Calls zH 174 #[s] w fun e F=>e = .returned (.bool (ybkk ids))/\Below w.heap.size w F:=by
 obtain⟨A,c,rfl,y,z⟩:=ycc o;have Hi:=zC o
 clear o
 go_enter Tryz.func174,Tryz.ntmps174
 go_wp2
 go_loopg [8] ids.length (fun q t wr=>∃k:Nat,q+k=ids.length/\t = .int .i64 k/\Hid (Below w.heap.size w wr)/\Hid (Seen wr w.heap.size (ids.take k))/\Hid (yvt ids k))
 case atStart=>exact⟨0,by omega,rfl,zC ((Below.refl _ _).alloc (zJ _) _),zC (Seen.start w),zC ⟨by simp,by simp⟩⟩
 case round =>
  obtain⟨k,H,rfl,a,d,l⟩:=hrel
  by_cases f:k<ids.length
  .obtain⟨b,E,rfl,G,g,r⟩:=ymn (Hi.out.below Stable.int a.out) f;obtain⟨x,p⟩:∃x,ids[k]=x:=⟨_,rfl⟩;have Hsn:=zC (ybwa f);rw[p]at g r Hsn;obtain⟨C,D⟩:=r;have Hbad:=zC (fun h=>ybnu (ids:=ids) (k:=k+1) h);have Hts:=zC (take_snoc ids k f);rw[p]at Hts
   clear p
   by_cases c1:0<=x/\x<=255
   .obtain⟨m,v⟩:=c1;obtain⟨n,rfl⟩:=zM m;have j:=d.out.cell (i:=n) (by omega)
    have B:=d.out.frozen n
    by_cases c2:(n:Int)∈ids.take k
    .rw[decide_eq_true c2]at j;have Hf:=zC (Hbad.out (fun h=>(Hsn.out.1 h).2.2 c2))
     clear c2
     go_wp2
     go_ret
     exact⟨ybv Hf.out.symm,a.out⟩
    .rw[decide_eq_false c2]at j;have u:=zC (Hsn.out.2 ⟨l.out,⟨by omega,by omega⟩,c2⟩)
     clear c2
     go_wp2
     go_roundg (gk-1)
     case measure=>omega
     case rel =>
      refine⟨k+1,by omega,by go_num,zC (a.out.setCell (zJ _) _),zC ?_,u⟩
      rw[Hts.out];exact d.out.set_
   .have Hf:=zC (Hbad.out (fun h=>c1 (Hsn.out.1 h).2.1))
    by_cases c3:x<0
    .clear c1
     go_wp2
     go_ret
     exact⟨ybv Hf.out.symm,a.out⟩
    .have c4:255<x:=by omega
     clear c1
     go_wp2
     go_ret
     exact⟨ybv Hf.out.symm,a.out⟩
  .obtain rfl:k=ids.length:=by omega
   have Ht:=zC (ybut l.out)
   go_wp2
   go_ret
   exact⟨ybv Ht.out.symm,a.out⟩
theorem ychs(g:Gr)(e:1<=g.ids.length)(f:g.ids.length<=24)(h:g.ports.length=g.ids.length):yjr g=(ybkk g.ids&&symB g.ports):=by
 unfold yjr ybkk symB;rw[<-Bool.decide_and];congr 1;apply propext;unfold ybi ycoe;constructor
 .rintro⟨_,_,_,a,b,c,d⟩;exact⟨⟨a,b⟩,c,d⟩
 .rintro⟨⟨a,b⟩,c,d⟩;exact⟨by omega,by omega,by omega,a,b,c,d⟩
set_option maxHeartbeats 1000000 in
theorem yxp(gv:Value)(g:Gr)(w:World)(t:GrAt w gv g) :
 Calls zH 131 #[gv] w fun e v=>e = .returned (.bool (yjr g))/\Below w.heap.size w v:=by
 obtain⟨i,p,rfl,f,j⟩:=t;obtain⟨A,c,rfl,o,q⟩:=ycc f;obtain⟨x,c2,rfl,r,s⟩:=ycc j;have Hi:=zC f;have Hp:=zC j
 clear f j
 by_cases m:1<=g.ids.length
 .by_cases n:g.ids.length<=24
  .by_cases b:g.ports.length=g.ids.length
   .have k:((g.ports.length:Int)!=(g.ids.length:Int))=false:=by simp[b]
    have He:=zC (ychs g m n b);have u:g.ports.length<=24:=by omega
    clear b
    go_enter zAW,zBF
    go_wp2_with fail
    refine(ytu _ g.ids _ (Hi.out.below Stable.int ((Below.refl _ _).alloc (zJ _) _))).mono ?_;rintro e B ⟨rfl,a⟩;have Hb1:=zC (ywi a);obtain⟨y,z⟩:=ycpj a
    clear a
    cases l:ybkk g.ids with
    | false =>
      have Hv:=zC (show yjr g=false by rw[He.out,l];rfl)
      go_wp2_with fail
      go_ret
      exact⟨ybv Hv.out.symm,Hb1.out⟩
    | true =>
      have Hv:=zC (show yjr g=symB g.ports by rw[He.out,l];rfl)
      go_wp2_with fail
      refine(ypk _ g.ports _ (Hp.out.below (Stable.sl Stable.link) Hb1.out) (by omega)).mono ?_
      rintro e C ⟨rfl,d⟩
      go_wp2_with fail
      go_ret
      exact⟨ybv Hv.out.symm,Hb1.out.trans (d.mono Hb1.out.size)⟩
   .have k:((g.ports.length:Int)!=(g.ids.length:Int))=true:=by simp;omega
    have Hf:=zC (yjh (g:=g) (fun h=>b h.2.2.symm))
    clear b
    go_enter zAW,zBF
    go_wp2
    go_ret
    exact⟨ybv Hf.out.symm,(Below.refl _ _).alloc (zJ _) _⟩
  .have Hf:=zC (yjh (g:=g) (fun h=>n (by omega)))
   go_enter zAW,zBF
   go_wp2
   go_ret
   exact⟨ybv Hf.out.symm,(Below.refl _ _).alloc (zJ _) _⟩
 .have Hf:=zC (yjh (g:=g) (fun h=>m (by omega)))
  go_enter zAW,zBF
  go_wp2
  go_ret
  exact⟨ybv Hf.out.symm,(Below.refl _ _).alloc (zJ _) _⟩
end
section
namespace Sh
open Go Ev Go.RowKit
theorem ykd{x:Int}(h:-4611686018427387904<=x/\x<=4611686018427387904):I64 x:=by
 unfold I64;omega
theorem ycfd{g:Gr}(d:ybi g):GrI g:=by
 obtain⟨o,p,q,b,r,c,s⟩:=d;refine⟨fun x h=>ykd (by have:=b x h;omega),fun t a l e=>?_⟩
 obtain⟨v,f,rfl⟩:=zAG a;obtain⟨i,j,k,m,n⟩:=(c ⟨v,f⟩).1 l e;exact⟨ykd (by omega),ykd (by omega)⟩
theorem yzu{g:Gr}(e:GrI g):Returns zH 131 [grV g] (.b (yjr g)):=by
 refine ybii ⟨_,_,zAW,rfl⟩ (fun _=>.b) (fun _=>.simple rfl) fun G m n d h o M w l f i j=>?_;obtain⟨u,rfl,a⟩:=rvl1 h;obtain⟨k,rfl,c⟩:=ygo j;exact yxp k g w (ycmj d a c f i e)
end Sh
end
section
namespace Sh
open Go Ev Go.RowKit
theorem ycey{g:Gr}(a:ybi g){x:VarR}(b:x.ok=true)(v:Nat):-4096<=(ybh g v x).1/\(ybh g v x).2<=100000:=by
 obtain⟨c,d,e,f,h⟩:=ybsu b;obtain⟨i,j⟩:=ywr a b;have k:=a.deg_lt (v:=v);unfold ybh;split
 .exact⟨by simp only[];omega,by simp only[];omega⟩
 .split
  .exact⟨by simp only[];omega,by simp only[];omega⟩
  .split
   .exact⟨by simp only[];omega,by simp only[];omega⟩
   .exact⟨by simp only[];omega,by simp only[];omega⟩
theorem ybqu{p:ProgT}{g:Gr}(e:ybi g)(l:p.ok=true){c:Conf}(f:ydd p g c=true):ConfIn g.ports.length p.vars.length c:=by
 have h:=(ygx _ _ _).1 f;have a:=l;unfold ProgT.ok at a;simp only[zG,decide_eq_true_eq]at a;refine⟨h.1.trans e.2.2.1,fun s m=>?_⟩;obtain⟨v,n,rfl⟩:=zAG m;have d:=h.2 v _ (zF n);have k:(c[v]).length=p.vars.length:=by have:=d.1;simpa using this
 refine⟨k,fun x o=>?_⟩;obtain⟨i,j,rfl⟩:=zAG o;have b:i<p.vars.length:=by omega
 have q:=d.2 i (ybh g v p.vars[i]) _ (by simp[b]) (zF j)
 have r:=ycey e (List.all_eq_true.1 a.1.1.2 _ (zL b)) v;unfold InB;omega
structure Checked(Q1 Q2:(Nat->Option ABlk)->Value->Prop)(p:ProgT)(g:Gr):Prop where
 hg:ybi g
 hp:p.ok=true
 hf:ybjm p g=true
 hV:Returns zH 130 [.ag (yfu Q1 Q2 p.raw)] (.b true)
theorem Checked.gv{Q1 Q2:(Nat->Option ABlk)->Value->Prop}{p:ProgT}{g:Gr}(h:Checked Q1 Q2 p g):Returns zH 131 [grV g] (.b true):=by
 have e:=yzu (ycfd h.hg);rw[(yhw g).2 h.hg]at e;exact e
section
variable {Q1 Q2:(Nat->Option ABlk)->Value->Prop}{p:ProgT}{g:Gr}
theorem ybvp(k:Int):Returns zH 57 [.i .i64 k] (.b (decide (1<=k)&&decide (k<=4))):=by
 refine Returns.of (ydzu _ _ ?_);simp only[c57,yeaj,ydvo,yts,go_sem,zA,zB]
 by_cases h:k>=1<;>simp[h]
end
end Sh
end
section
theorem ypj(s a:Nat):∀b,yik s (a+b)=yik s a+yik (s>>>a) b
 |0=>rfl
 | b+1=>by
   show yik s (a+b)+(s.testBit (a+b)).toNat=_;rw[ypj s a b];show _=yik s a+(yik (s>>>a) b+((s>>>a).testBit b).toNat);rw[Nat.testBit_shiftRight];omega
theorem yrl(s:Nat):∀b,b<=8->yik (s&&&255) b=yik s b
 |0,_=>rfl
 | b+1,h=>by
   show yik _ b+_=yik s b+_;rw[yrl s b (by omega),Nat.testBit_and,show(255:Nat)=2^8-1 from rfl,Nat.testBit_two_pow_sub_one]
   simp[show b<8 by omega]
theorem ybuv(s:Nat):popP s=yik (s>>>24&&&255) 8+yik (s>>>16&&&255) 8+yik (s>>>8&&&255) 8+yik (s&&&255) 8:=by
 simp only[yrl _ 8 (zJ _)];have a:=ypj s 8 24;have b:=ypj (s>>>8) 8 16;have c:=ypj (s>>>8>>>8) 8 8;simp only[<-Nat.shiftRight_add,zB]at a b c;unfold popP;omega
namespace Sh
open Ev Go.RowKit
theorem ybep:∀k,k<256->ybav.getD k 0=yik k 8:=by decide
theorem ydkz:ybav.length=256:=by decide
theorem ycdw(a v:Nat):(a:Int).fdiv (2^v)=((a>>>v:Nat):Int):=by
 have h:=ydld (a:=a) (v:=v)
 rwa [zS]at h
theorem ycxj{a:Nat}(c:a<2^32):IntKind.wrap .u32 (((zCY (IntKind.bits .u32) (a:Int))&&&zCY (IntKind.bits .u32) 255).toNat:Int)=((a&&&255:Nat):Int):=u32_and (b:=255) c (by decide)
theorem ydrv{a n:Nat}(h:a<2^32):a>>>n<2^32:=by rw[zBJ];exact zBY (Nat.div_le_self _ _) h
theorem ybra{s:Nat}(d:s<2^32):Returns zH 113 [.i .u32 s] (.i .i64 (popP s)):=by
 refine Returns.of (ydmu _ _ ?_);simp only[c113,yddv,ycye,clash,go_sem,zCP,zA,zB];have f1:=ycxj d;have f2:=fun n=>ycxj (ydrv (n:=n) d);simp only[IntKind.bits]at f1 f2;simp only[ycdw,f1,f2,zS,ydkz];have c:=ybuv s;have g:s>>>24<256:=by rw[zBJ];omega
 have b:∀x:Nat,x&&&255<256:=fun x=>zBY Nat.and_le_right (by omega)
 rw[yrl (s>>>24) 8 (zJ _)]at c;rw[ybep _ g,ybep _ (b (s>>>16)),ybep _ (b (s>>>8)),ybep _ (b s)];have h:=yng (s>>>24) 8;have j:=yng (s>>>16&&&255) 8;have k:=yng (s>>>8&&&255) 8;have l:=yng (s&&&255) 8;have m:=b (s>>>16);have o:=b (s>>>8);have p:=b s;have a:∀x:Int,0<=x->x<=255->inK .u8 x:=fun x e f=>⟨by simpa[IntKind.min,IntKind.signed]using e,by simpa[IntKind.max,IntKind.bits,IntKind.signed]using f⟩
 refine⟨⟨by omega,by decide⟩,⟨by omega,by omega⟩,⟨by omega,by decide⟩,by omega,a _ (by omega) (by omega),⟨by omega,by decide⟩,by omega,a _ (by omega) (by omega),by omega,a _ (by omega) (by omega),?_⟩
 rw[wrap_in (ikw (by omega) (by omega)),c]
 exact Sim.refl _
def cntV(k:Cnt):List SV:=[.i .i64 k.steps,.i .i64 k.moves,.i .i64 k.rounds,.i .i64 k.begun,.i .u32 k.pend]
def usV(l:List Nat):SV:=.sl 1 l.length (fun k=>[.i .u32 ((l.getD k 0:Nat):Int)])
end Sh
end
section
def netP(ls:List (Int×Int)):Nat:=ls.foldl (fun a l=>a|||2^l.1.toNat) 0
theorem ycbf(ls:List (Int×Int))(k:Nat)(h:k<ls.length):netP (ls.take (k+1))=netP (ls.take k)|||2^(ls.getD k (0,0)).1.toNat:=by
 unfold netP;rw[List.take_succ_eq_append_getElem h,List.foldl_append,Sh.getD_at h];rfl
theorem ydlu(ls:List (Int×Int))(h:∀l∈ls,l.1<24):netP ls<2^24:=by
 unfold netP
 have:∀(ls:List (Int×Int)) (a:Nat),(∀l∈ls,l.1<24)->a<2^24->ls.foldl (fun a l=>a|||2^l.1.toNat) a<2^24:=by
  intro ls
  induction ls with
  |nil=>intro a _ h;exact h
  | cons l ls e =>
    intro a b c;refine e _ (fun x d=>b x (zW _ d)) (Nat.or_lt_two_pow c ?_);have:=b l zAC;exact zBT (by omega) (by omega)
 exact this ls 0 h (by decide)
namespace Sh
open Ev Go.RowKit
theorem ybtq{g:Gr}(z:ybi g):Returns zH 124 [grV g] (usV (g.ports.map netP)):=by
 refine Returns.of (ydjo _ _ ?_);have M:=z.2.2.1;have N:=z.2.1;simp only[c124,ycur,ycsg,ydcb,grV,ybb,yj,go_sem,zA,zB,zD];refine⟨by omega,?_⟩
 obtain⟨n,s⟩:∃n,g.ports.length=n:=⟨_,rfl⟩
 let val:Nat->Nat->Nat:=fun k i=>if i<k then netP (g.ports.getD i [])else 0
 refine ybd (σ:=Nat) (fun k=>⟨[(15,.i .i64 k),(14,.i .i64 n),(13,yj g.ports),(3,.os (11,0) 0 n true)],
  [(11,.one (some ⟨77,false,1,n,fun i=>[.i .u32 (val k i:Nat)]⟩))]⟩) (fun k=>k<=n) (fun k=>n-k) 0 (zV _) ?_ ?_
 .refine yu ?_;simp only[yj,s,wk,go_sem,zA,zD];simp[val]
 .intro k hk;obtain⟨L,y⟩:∃L,g.ports.getD k []=L:=⟨_,rfl⟩;simp only[ydem,ycwt,ydav,yj,yx,s,y,go_sem,zA,zB];refine⟨fun E=>?_,fun E=>?_⟩
  .have I:k<n:=by omega
   have p:k<g.ports.length:=by omega
   have r:∀l∈L,0<=l.1/\l.1<24:=fun l d=>by
    rw[<-y,getD_at p]at d;obtain⟨H,K,_⟩:=(z.2.2.2.2.2.1 ⟨k,p⟩).1 l d;exact⟨H,by omega⟩
   have h:=z.deg_lt (v:=k);rw[y]at h;refine⟨by omega,?_⟩
   obtain⟨m,B⟩:∃m,L.length=m:=⟨_,rfl⟩;rw[B]
   let c:Nat->Nat->Nat:=fun j i=>if i<k then netP (g.ports.getD i [])else if i=k then netP (L.take j)else 0
   refine ybd (σ:=Nat) (fun j=>⟨[(22,.i .i64 j),(21,.i .i64 m),(20,yx L),(4,.i .i64 k),(15,.i .i64 k),(14,.i .i64 n),(13,yj g.ports),(3,.os (11,0) 0 n true)],
    [(11,.one (some ⟨77,false,1,n,fun i=>[.i .u32 (c j i:Nat)]⟩))]⟩) (fun j=>j<=m) (fun j=>m-j) 0 (zV _) ?_ ?_
   .refine yu ?_;simp only[yj,yx,s,B,wk,go_sem,zA,zD];intro i A;simp only[val,c]
    by_cases q:i<k
    .rw[if_pos q,if_pos q]
    .rw[if_neg q,if_neg q]
     by_cases e:i=k
     .rw[if_pos e];rfl
     .rw[if_neg e]
   .intro j O;obtain⟨l,d⟩:∃l,L.getD j (0,0)=l:=⟨_,rfl⟩;simp only[ycxa,ycwn,yj,yx,s,B,d,go_sem,zA,zB,zD];refine⟨fun D=>⟨by omega,?_⟩,fun D=>?_⟩
    .have o:j<L.length:=by omega
     have J:=r l (by rw[<-d,getD_at o];exact zL _)
     obtain⟨t,F⟩:∃t:Nat,l.1=t:=⟨l.1.toNat,by omega⟩
     have f:t<24:=by omega
     have G:c j k<2^24:=by
      simp only[c,if_neg (zCV k),if_true];exact ydlu _ fun l d=>(r l (zAN d)).2
     have P:2^t<2^24:=zBT (by omega) f
     have w:=ybow (v:=t) (by omega)
     have u:=u32_or (a:=c j k) (b:=2^t) (by omega) (by omega)
     rw[zS]at w;simp only[IntKind.bits]at u;simp only[ycqw,F,clash,w,u,go_sem,zA,zB,zI];refine⟨by omega,by omega,⟨by omega,by show _<((32:Nat):Int);omega⟩,by omega,by omega,by decide,?_⟩
     simp only[ydaw,go_sem,zA,zB];refine⟨ikw (by omega) (by omega),?_⟩
     refine ycb (j+1) ?_;refine yu ?_;simp only[wk,go_sem,zA,zD];refine⟨by omega,fun i A=>?_⟩
     have x:=ycbf L j o;rw[d,F,zS]at x
     by_cases q:i=k
     .simp only[if_pos q];subst q;simp only[go_sem,wk,go_sem];simp only[c,if_neg (zCV i),if_true,x]
     .simp only[if_neg q];simp only[go_sem,wk,go_sem];simp only[c,if_neg q]
    .obtain rfl:j=m:=by omega
     simp only[yccv,go_sem,zA,zB];refine⟨ikw (by omega) (by omega),?_⟩
     refine ycb (k+1) ?_;refine yu ?_;simp only[wk,go_sem,zA,zD];refine⟨by omega,fun i A=>?_⟩
     simp only[val,c]
     by_cases q:i<k
     .rw[if_pos q,if_pos (by omega)]
     .rw[if_neg q]
      by_cases e:i=k
      .rw[if_pos e,if_pos (by omega),e,y,<-B,zBM]
      .rw[if_neg e,if_neg (by omega)]
  .obtain rfl:k=n:=by omega
   simp only[ycby,go_sem,zA,zB];unfold usV;rw[zX,s];refine ybql fun i A=>?_;have C:i<g.ports.length:=by omega
   simp only[val,if_pos A];simp[zK,C]
theorem ybjr(net:SV){e s:Nat}(h:e<2^24)(g:s≠0)(j:s<2^24)(c:difB s e=0):Returns zH 171 [net,.i .i64 3,.i .u32 e,.i .u32 s] (.b true):=by
 refine Returns.of (ydmj _ _ ?_);have f:((s:Int)==0)=false:=by simp;omega
 have d:=u32_andNot (a:=s) (b:=e) (by omega) (by omega)
 rw[c]at d;simp only[zBN,IntKind.bits]at d;simp only[c171,ycty,ycyz,f,d,Int.reduceBNe,go_sem,zA,zB];simp only[ydcz,ycyv,ycqp,ydcy,ybwh,Int.reduceBEq,yts,go_sem,zA,zB]
end Sh
end
section
namespace Sh
open Go Ev
def ydnx:LO:=[mc 0 4 0]
def ydmw:LO:=[mv' 1 5 0,bc .lss 5 1 6 1]
def ydns:LO:=[mc 0 4 0]
def ydoa:LO:=[mv' 0 7 0,mv' 1 8 0,bn' .rem 7 8 9 3,mv' 9 0 7]
def yebt:LO:=[mv' 0 10 0,bc .lss 10 0 11 1]
def ydws:LO:=[mv' 0 12 0,mv' 1 13 0,bn' .add 12 13 14 3,mv' 14 0 7]
def ydwp:LO:=[mv' 0 15 0,mv' 15 4 1]
def c49:SC:=(sr ydnx <| .seq (sr ydmw <| cn 6 (sr ydns <| .ret) .skip) (sr ydoa <| .seq (sr yebt <| cn 11 (.reg false ydws) .skip) (sr ydwp <| .ret)))
theorem ydsy:Fn 49 c49 [.t 4]:=fn_0 Tryz.func49
def yeao:LO:=[mc 0 4 0]
def ydre:LO:=[mv' 1 5 0,mv' 0 6 0,ln' 6 7 2,bn' .lss 5 7 8 7]
def ydvk:LO:=[mv' 0 9 0,mv' 1 10 0,ix' 1 9 10 11 3,ld' 1 11 12 7,mv' 12 4 15]
def ydyn:LO:=[mc 0 4 0]
def c50:SC:=(sr yeao <| .seq (sr ydre <| cn 8 (sr ydvk <| .ret) .skip) (sr ydyn <| .ret))
theorem ydoy:Fn 50 c50 [.t 4]:=fn_0 Tryz.func50
def ydbw:LO:=[bx' 27 0 3 0,mb false 6 0]
def ydct:LO:=[mc 0 7 0]
def ycuy:LO:=[mv' 7 8 0,fa' 1 1 3 9 0,ld' 1 9 10 2,mv' 1 11 0,ix' 1 10 11 12 14,ld' 1 12 13 30,ln' 13 14 62,bn' .lss 8 14 15 127]
def ycys:LO:=[fa' 1 1 3 18 0,ld' 1 18 19 1,mv' 1 20 0,ix' 1 19 20 21 7,ld' 1 21 22 15,mv' 7 23 0,ix' 2 22 23 24 63,fa' 0 1 24 25 127,ld' 1 25 26 255,mv' 2 27 0,bn' .eql 26 27 28 1023]
def ycwd:LO:=[mb true 6 0]
def ydbi:LO:=[mv' 7 16 0,bc .add 16 1 17 1,mv' 17 7 3]
def ycti:LO:=[mb false 6 0]
def c116:SC:=(sr ydbw <| .seq (sr ydct <| .block 0 (.loop (.seq (sr ycuy <| cn 15 .skip (.exit 0)) (.seq (.block 1 (sr ycys <| cn 28 (sr ycwd <| .ret) .skip)) (.reg false ydbi))))) (sr ycti <| .ret))
theorem ydfg:Fn 116 c116 [.t 6]:=fn_0 Tryz.func116
def ydlo:LO:=[bx' 24 0 5 0,bx' 27 1 6 0]
def ydfp:LO:=[mv' 2 12 0,mv' 3 13 0,bn' .eql 12 13 14 3,mv' 14 15 7,gf (.load true 2 (.tmp 6)) 16 15 15,gf (.mv (.tmp 2)) 17 15 15,gf (.mv (.tmp 3)) 18 15 15,gf (.call (.func 116) [(.tmp 16),(.tmp 17),(.tmp 18)]) 19 15 127,pk' 15 19 20 255]
def ybvf:LO:=[mv' 3 21 0,mv' 4 22 0,o3 (.build [.i .i64 0,.i .i64 0] [(0,1,(.tmp 21)),(1,1,(.tmp 22))]) 23 3,mv' 2 24 0,mv' 4 25 0,o3 (.build [.i .i64 0,.i .i64 0] [(0,1,(.tmp 24)),(1,1,(.tmp 25))]) 26 24,o3 (.alloc 68 1 [.i .i64 0,.i .i64 0]) 10 0,o3 (.alloc 68 1 [.i .i64 0,.i .i64 0]) 11 0,sto 2 10 23 199,sto 2 11 26 511]
def ybsx:LO:=[fa' 5 1 5 27 0,ld' 1 27 28 1]
def ycaf:LO:=[fa' 1 1 6 29 0,ld' 1 29 30 1,mv' 2 31 0,la' 2 10 32 0,o3 (.bslice 68 2 1 [.i .i64 0,.i .i64 0] [(0,2,(.tmp 32))]) 33 8,fa' 1 1 6 34 0,ld' 1 34 35 32,mv' 2 36 0,ix' 1 35 36 37 224,ld' 1 37 38 480,o3 (.app 68 2 16 (.tmp 33) (.tmp 38)) 39 1016,ix' 1 30 31 40 2047,sto 1 40 39 4095]
def ycbo:LO:=[fa' 1 1 6 41 0,ld' 1 41 42 1,mv' 3 43 0,la' 2 11 44 0,o3 (.bslice 68 2 1 [.i .i64 0,.i .i64 0] [(0,2,(.tmp 44))]) 45 8,fa' 1 1 6 46 0,ld' 1 46 47 32,mv' 3 48 0,ix' 1 47 48 49 224,ld' 1 49 50 480,o3 (.app 68 2 16 (.tmp 45) (.tmp 50)) 51 1016,ix' 1 42 43 52 2047,sto 1 52 51 4095]
def ydwg:LO:=[fa' 1 1 6 53 0,ld' 1 53 54 1,mv' 2 55 0,fa' 1 1 6 56 0,ld' 1 56 57 8,mv' 3 58 0,fa' 1 1 6 59 0,ld' 1 59 60 64,mv' 2 61 0,ix' 1 60 61 62 448,ld' 1 62 63 960,la' 2 10 64 0,o3 (.bslice 68 2 1 [.i .i64 0,.i .i64 0] [(0,2,(.tmp 64))]) 65 2048,o3 (.app 68 2 16 (.tmp 63) (.tmp 65)) 66 8128,fa' 1 1 6 67 0,ld' 1 67 68 16384,mv' 3 69 0,ix' 1 68 69 70 114688,ld' 1 70 71 245760,la' 2 11 72 0,o3 (.bslice 68 2 1 [.i .i64 0,.i .i64 0] [(0,2,(.tmp 72))]) 73 524288,o3 (.app 68 2 16 (.tmp 71) (.tmp 73)) 74 2097088,ix' 1 54 55 75 4194247,sto 1 75 66 8388551,ix' 1 57 58 76 16777215,sto 1 76 74 33554431]
def c48:SC:=(sr ydlo <| .seq (sr ydfp <| cn 20 .ret .skip) (sr ybvf <| .seq (sr ybsx <| cn 28 (.seq (.reg true ycaf) (.seq (.reg true ycbo) .ret)) .skip) (.reg true ydwg)))
theorem ydks:FnM 48 c48 []:=fn_m Tryz.func48
def ydoq:LO:=[bx' 24 0 2 0,o3 (.alloc 27 1 [.a (.slice none 0 0),.a (.slice none 0 0)]) 4 0]
def ydpi:LO:=[fa' 0 1 2 10 0,ld' 1 10 11 1,o3 (.wsub (.tmp 11) (ci' 1)) 12 3,mv' 1 13 0,cl' 49 [12,13] 14 15,o3 (.bin .add (ci' 1) (.tmp 14)) 15 31,mv' 15 5 63]
def ydup:LO:=[mv' 5 16 0,o3 (.mk 135 1 24 [.a (.slice none 0 0)] (.tmp 16) (.tmp 16)) 17 1,o3 (.build [.a (.slice none 0 0),.a (.slice none 0 0)] [(1,1,(.tmp 17))]) 18 3,o3 (.alloc 27 1 [.a (.slice none 0 0),.a (.slice none 0 0)]) 6 0,sto 2 6 18 15]
def ydnb:LO:=[mc 0 7 0]
def ydsv:LO:=[mv' 7 19 0,mv' 5 20 0,bn' .lss 19 20 21 3]
def ydtz:LO:=[fa' 3 1 2 24 0,ld' 1 24 25 1,mv' 7 26 0,cl' 50 [25,26] 27 7,o3 (.call (.func 49) [(.tmp 27),(ci' 256)]) 28 15,mv' 28 8 31]
def ydtu:LO:=[mc 0 9 0]
def ydsa:LO:=[mv' 9 29 0,mv' 7 30 0,bn' .lss 29 30 31 3]
def ycxu:LO:=[fa' 0 1 6 34 0,ld' 1 34 35 1,mv' 9 36 0,ix' 1 35 36 37 7,ld' 1 37 38 15,mv' 8 39 0,bn' .eql 38 39 40 63]
def ydeg:LO:=[mv' 8 41 0,bc .add 41 1 42 1,bc .rem 42 256 43 3,mv' 43 8 7,mc (-1) 9 15]
def ydxh:LO:=[mv' 9 32 0,bc .add 32 1 33 1,mv' 33 9 3]
def ydcs:LO:=[fa' 0 1 6 44 0,ld' 1 44 45 1,mv' 8 46 0,o3 (.bslice 3 1 1 [.i .i64 0] [(0,1,(.tmp 46))]) 47 4,o3 (.app 3 1 8 (.tmp 45) (.tmp 47)) 48 15,fa' 0 1 6 49 31,sto 1 49 48 63]
def ydru:LO:=[mv' 7 22 0,bc .add 22 1 23 1,mv' 23 7 3]
def ycsx:LO:=[la' 2 6 50 0,sto 2 4 50 1]
def c47:SC:=(sr ydoq <| sr ydpi <| sr ydup <| .seq (sr ydnb <| .block 0 (.loop (.seq (sr ydsv <| cn 21 .skip (.exit 0)) (.seq (.block 1 (sr ydtz <| .seq (sr ydtu <| .block 2 (.loop (.seq (sr ydsa <| cn 31 .skip (.exit 2)) (.seq (.block 3 (sr ycxu <| cn 40 (.reg false ydeg) .skip)) (.reg false ydxh))))) (.reg false ydcs))) (.reg false ydru))))) (sr ycsx <| .ret))
theorem ydie:FnM 47 c47 [.c 4 true 2]:=fn_m Tryz.func47
def ydrm:LO:=[bx' 24 0 2 0,o3 (.alloc 27 1 [.a (.slice none 0 0),.a (.slice none 0 0)]) 4 0]
def ydxb:LO:=[la' 6 2 7 0,mv' 1 8 0,cl' 47 [7,8] 9 3,o3 (.alloc 27 1 [.a (.slice none 0 0),.a (.slice none 0 0)]) 5 0,sto 2 5 9 15]
def ydto:LO:=[mc 1 6 0]
def ydjn:LO:=[mv' 6 10 0,fa' 1 1 5 11 0,ld' 1 11 12 2,ln' 12 13 6,bn' .lss 10 13 14 15]
def ydte:LO:=[la' 6 2 17 0,la' 2 5 18 0,fa' 1 1 2 19 0,ld' 1 19 20 4,mv' 6 21 0,bc .sub 21 1 22 16,cl' 50 [20,22] 23 60,mv' 6 24 0,cl' 49 [23,24] 25 252,mv' 6 26 0,fa' 2 1 2 27 0,ld' 1 27 28 1024,mv' 6 29 0,bc .sub 29 1 30 4096,cl' 50 [28,30] 31 15868,o3 (.call (.func 49) [(.tmp 31),(ci' 15)]) 32 32252,o3 (.bin .add (ci' 1) (.tmp 32)) 33 65020,cl' 48 [17,18,25,26,33] 34 131071]
def ydvj:LO:=[mv' 6 15 0,bc .add 15 1 16 1,mv' 16 6 3]
def ydza:LO:=[la' 2 5 35 0,sto 2 4 35 1]
def c10:SC:=(sr ydrm <| sr ydxb <| .seq (sr ydto <| .block 0 (.loop (.seq (sr ydjn <| cn 14 .skip (.exit 0)) (.seq (.block 1 (.reg true ydte)) (.reg false ydvj))))) (sr ydza <| .ret))
theorem ydjh:FnM 10 c10 [.c 4 true 2]:=fn_m Tryz.func10
end Sh
end
section
namespace Sh
open Ev Go.RowKit
instance:Inhabited Cnt:=⟨⟨0,0,0,0,0⟩⟩
structure DaemonOk(kind:Int)(net:List Nat)(res:Nat->Nat->Nat):Prop where
 resolve:∀(e w:Nat),e<2^24->e<2^net.length->e≠0->w<2^32->Returns zH 0 [usV net,.i .i64 kind,.i .u32 e,.i .u32 w] (.i .u32 (res e w))
 permits:∀(e w:Nat),e<2^24->e<2^net.length->e≠0->w<2^32->Returns zH 171 [usV net,.i .i64 kind,.i .u32 e,.i .u32 (res e w)] (.b true)
 zero:∀(w:Nat),w<2^32->∃x:Nat,Returns zH 0 [usV net,.i .i64 kind,.i .u32 0,.i .u32 w] (.i .u32 x)
 sub:∀(e w:Nat),e≠0->e<2^24->res e w≠0/\subB (res e w) e
theorem ybds{s e n:Nat}(h:subB s e)(b:e<2^n):s<2^n:=by
 refine Nat.lt_pow_two_of_testBit _ fun i c=>?_;cases a:s.testBit i with
 |false=>rfl
 | true =>
   have:=h i a;rw[zBR (zAH b (zBU (by omega) c))]at this
   cases this
end Sh
end
section
theorem ycnw{kind:Int}{b:Int×Int}(c:b.1<=b.2)(a:kind=3->b.1 <= -1 /\ -1<=b.2)(x:Int):b.1<=yhm kind b x/\yhm kind b x<=b.2:=by
 unfold yhm;split
 .assumption
 .split
  .exact a (by assumption)
  .split<;>omega
namespace Sh
theorem ycok{p:ProgT}{g:Gr}(j:ybi g)(i:p.ok=true)(f:ybjm p g=true){x:VarR}(d:x∈p.vars)(v:Nat):(ybh g v x).1<=(ybh g v x).2/\(x.kind=3->(ybh g v x).1 <= -1 /\ -1<=(ybh g v x).2):=by
 have c:=List.all_eq_true.1 f x d;have a:=i;unfold ProgT.ok at a;simp only[zG,decide_eq_true_eq]at a;have b:=ybsu (List.all_eq_true.1 a.1.1.2 _ d);rcases b.1 with h|h|h
 .have e:ybh g v x=ybh g 0 x:=by unfold ybh;rw[if_pos h,if_pos h]
  rw[e];simp[h]at c;exact⟨c.1,fun q=>by omega⟩
 .unfold ybh;rw[if_neg (by omega),if_pos h]
  exact⟨by decide,fun q=>by omega⟩
 .unfold ybh;rw[if_neg (by omega),if_neg (by omega),if_pos h]
  exact⟨by simp only[];omega,fun _=>⟨by simp only[];omega,by simp only[];omega⟩⟩
theorem ycfh{p:ProgT}{g:Gr}(l:ybi g)(n:p.ok=true)(k:ybjm p g=true){v:Nat}{s:List Int}(f:yji (p.vars.map (ybh g v)) s){a:Int}(o:0<=a/\a<p.vars.length)(y:Int) :
 yji (p.vars.map (ybh g v)) (s.set a.toNat (yhm (p.vars.getD a.toNat default).kind (ybh g v (p.vars.getD a.toNat default)) y)):=by
 refine⟨by rw[List.length_set];exact f.1,fun i b x e d=>?_⟩
 by_cases q:a.toNat=i
 .subst q;have c:a.toNat<p.vars.length:=by omega
  rw[zCH,zF c]at e;cases e
  have m:a.toNat<s.length:=by rw[f.1,zX];exact c
  rw[zAS m]at d;cases d
  rw[getD_at c];obtain⟨h,j⟩:=ycok l n k (zL c) v;exact ycnw h j y
 .rw[zAX q]at d;exact f.2 i b x e d
theorem yzm{p:ProgT}{g:Gr}(f:ybi g)(h:p.ok=true)(e:ybjm p g=true)(c:Conf)(v:Nat):∀(sets:List (Int×Ex)) (s:List Int),(∀a∈sets,0<=a.1/\a.1<p.vars.length)->yji (p.vars.map (ybh g v)) s->yji (p.vars.map (ybh g v)) (ytt p g c v s sets)
 |[],s,_,b=>b
 | a::sets,s,d,b=>by
   show yji _ (ytt p g c v (s.set _ _) sets);exact yzm f h e c v sets _ (fun x i=>d x (zW _ i)) (ycfh f h e b (d a zAC) _)
theorem yjm{p:ProgT}{g:Gr}(q:ybi g)(m:p.ok=true)(o:ybjm p g=true){c:Conf}(n:ydd p g c=true)(s:Nat):ydd p g (ygl p g c s)=true:=by
 have h:=(ygx _ _ _).1 n;refine(ygx _ _ _).2 ⟨by rw[ylm];exact h.1,fun v r i=>?_⟩
 have l:v<c.length:=by
  have:=(List.getElem?_eq_some_iff.1 i).1
  rwa [ylm]at this
 have e:r=(ygl p g c s).getD v []:=by simp[zK,i]
 rw[ypq p g c s l]at e;have b:=h.2 v (c.getD v []) (by rw[getD_at l];exact zF l)
 rw[e];split
 .unfold yjs;refine yzm q m o c v _ _ (fun a j=>?_) b;have f:=m;unfold ProgT.ok at f;simp only[zG,decide_eq_true_eq]at f
  by_cases k:(yeq p g c v).toNat<p.rules.length
  .rw[getD_at k]at j;have d:=List.all_eq_true.1 f.2 _ (zL k);unfold RuleT.ok at d;simp only[zG,decide_eq_true_eq]at d;have:=List.all_eq_true.1 d.2 a j;simp only[zG,decide_eq_true_eq]at this;exact this.1.1
  .have:p.rules.getD (yeq p g c v).toNat default=default:=by simp[zK,zAL (Nat.le_of_not_lt k)]
   rw[this]at j;cases j
 .exact b
theorem yyj(p:ProgT)(g:Gr)(c:Conf):ybt p g c<2^g.ids.length:=ybed _ _
end Sh
end
section
namespace Sh
open Ev Go.RowKit
def TT:(Nat->Option ABlk)->Value->Prop:=fun _ _=>True
def yft(p:ProgT)(g:Gr):SV:=.ex TT (.rf (yka p.raw g))
section
variable {Q1 Q2:(Nat->Option ABlk)->Value->Prop}{p:ProgT}{g:Gr}
end
end Sh
end
section
namespace Sh
open Ev Go.RowKit
theorem Returns.exT{P:Program}{g:FuncId}{args:List SV}{r:SV}(h:Returns P g args r):Returns P g args (.ex TT r):=fun G m l f i j=>by
 obtain⟨v,k,x,a,b,c,d,e⟩:=h G m l f i j;exact⟨v,k,.ex TT r,a,b,c,rfl,.ex trivial (fun _ _ _ _ _=>trivial) (d▸e)⟩
section
variable {Q1 Q2:(Nat->Option ABlk)->Value->Prop}{p:ProgT}{g:Gr}
def yje(l:List Conf):SV:=.sl 1 l.length (fun i=>[yct (l.getD i [])])
def ypg(l:List Cnt):SV:=.sl 5 l.length (fun i=>cntV (l.getD i default))
end
end Sh
end
section
def yeb(v m:Int):Int:=if m<1 then 0 else v%m
def atP(l:List Int)(i:Nat):Int:=l.getD i 0
theorem ynj{v m:Int}(h:1<=m):0<=yeb v m/\yeb v m<m:=by
 unfold yeb;rw[if_neg (by omega)]
 exact⟨zAY _ (by omega),zAQ _ (by omega)⟩
namespace Sh
open Ev Go.RowKit
theorem ybqg{v m:Int}(h:1<=m):(if v.tmod m<0 then v.tmod m+m else v.tmod m)=v%m:=by
 have e:=Int.emod_add_mul_ediv v m;have f:=zAY v (show m≠0 by omega)
 have g:=zAQ v (show 0<m by omega)
 have c:=Int.tmod_eq_emod (a:=v) (b:=m);have d:(m.natAbs:Int)=m:=by omega
 rw[c]
 by_cases q:0<=v\/m ∣ v
 .simp only[if_pos q,zBN,Int.sub_zero];rw[if_neg (by omega)]
 .simp only[if_neg q,d];rw[if_pos (by omega)]
  omega
theorem ynl(v m:Int)(e:m<=4611686018427387904)(f:inK .i64 v):Returns zH 49 [.i .i64 v,.i .i64 m] (.i .i64 (yeb v m)):=by
 refine Returns.of (ydsy _ _ ?_);simp only[c49,ydnx,ydmw,ydns,ydoa,yebt,ydws,ydwp,ych,go_sem,zA,zB];unfold yeb;refine⟨fun h=>by rw[if_pos h],fun h=>⟨by omega,fun b=>?_,fun b=>?_⟩⟩
 .have a:=ybqg (v:=v) (show 1<=m by omega)
  rw[if_pos b]at a;rw[if_neg h,a];have c:=zAY v (show m≠0 by omega)
  have d:=zAQ v (show 0<m by omega)
  exact⟨ikw (by omega) (by omega),rfl⟩
 .have a:=ybqg (v:=v) (show 1<=m by omega)
  rw[if_neg b]at a;rw[if_neg h,a]
theorem at_ret(l:List Int)(i:Nat):Returns zH 50 [ybb l,.i .i64 i] (.i .i64 (atP l i)):=by
 refine Returns.of (ydoy _ _ ?_);simp only[c50,yeao,ydre,ydvk,ydyn,ybb,ych,go_sem,zA,zB];exact⟨fun h=>⟨by omega,rfl⟩,fun h=>by unfold atP;rw[zK,zAL (by omega)];rfl⟩
theorem ydra{a:Type}(l:List a)(x d:a)(i:Nat):(l++[x]).getD i d=if i<l.length then l.getD i d else if i=l.length then x else d:=by
 by_cases h:i<l.length
 .simp[zK,zBK h,h]
 .by_cases e:i=l.length
  .subst e;simp[zK]
  .rw[if_neg h,if_neg e,zK,zAL (by simp;omega)]
   rfl
end Sh
end
section
namespace Sh
open Ev Go.RowKit
section
variable {p:ProgT}{g:Gr}
end
end Sh
end
section
namespace Sh
open Ev Go.RowKit
def blV(l:List Bool):SV:=.sl 1 l.length (fun k=>[.b (l.getD k false)])
def yckr(l:List Bool)(k:Nat):Bool:=(l.take k).any id
structure HeldOk(legit:List Bool)(ks:List Cnt)(rounds moves:Int)(ended:Bool):Prop where
 len:legit.length=ks.length
 pos:0<legit.length
 stays:∀i,i<legit.length->yckr legit i=true->legit.getD i false=true
 rounds:∀i,i<legit.length->yckr legit (i+1)=false->((ks.getD i default).begun:Int)<=rounds
 moves:∀i,i<legit.length->yckr legit (i+1)=false->0<=moves->((ks.getD i default).moves:Int)<=moves
 ends:yckr legit legit.length=true\/ended=false
def ycfu(kind:Int)(a silent:Bool)(rounds moves:Int):List SV:=[.i .i64 kind,.b a,.b silent,.i .i64 rounds,.i .i64 moves]
end Sh
end
section
open Go.RowKit
end
section
open Go.RowKit
end
section
namespace Sh
open Ev Go.RowKit
theorem yckq{n d:Nat}{c:Conf}(h:ConfIn n d c):ycfp c:=fun s a x b=>by
 have:=(h.row s a).2 x b;unfold InB at this;exact ykd (by omega)
end Sh
end
section
def yot(ls:List (Int×Int))(b:Int):Bool:=ls.any fun l=>decide (l.1=b)
namespace Sh
open Ev Go.RowKit
theorem ybvv{ids:List Int}{ports:List (List (Int×Int))}{a b:Nat}(u:a<ports.length)(g:(ports.getD a []).length<=100000) :
 Returns zH 116 [.ag [ybb ids,yj ports],.i .i64 a,.i .i64 b] (.b (yot (ports.getD a []) b)):=by
 refine Returns.of (ydfg _ _ ?_);obtain⟨n,t⟩:∃n,ports.length=n:=⟨_,rfl⟩;obtain⟨L,o⟩:∃L,ports.getD a []=L:=⟨_,rfl⟩;rw[o]at g ⊢;obtain⟨m,s⟩:∃m,L.length=m:=⟨_,rfl⟩;simp only[c116,ydbw,ydct,go_sem,zB,zD];refine ybd (σ:=Nat) (fun k=>⟨[(7,.i .i64 k),(3,.pt (3,0) 0 0),(1,.i .i64 a),(2,.i .i64 b)],[(3,.one (some ⟨27,true,2,1,fun _=>[ybb ids,yj ports]⟩))]⟩) (fun k=>k<=m/\∀j,j<k->(L.getD j (0,0)).1≠b) (fun k=>m-k) 0 ⟨zV _,fun j e=>absurd e (zAI j)⟩ ?_ ?_
 .refine yu ?_;simp only[go_sem,wk,go_sem,zA,zD]
 .rintro k ⟨hk,c⟩;simp only[ycuy,ydbi,ycys,ycwd,ycti,yj,yx,t,o,s,go_sem,zA,zB,zI];refine⟨⟨by omega,by omega⟩,fun r=>⟨⟨by omega,by omega⟩,⟨by omega,by omega⟩,fun d=>?_,fun h=>⟨ikw (by omega) (by omega),?_⟩⟩,fun p=>?_⟩
  .have f:k<L.length:=by omega
   have:yot L b=true:=List.any_eq_true.2 ⟨L[k],zL _,by rw[getD_at f]at d;exact decide_eq_true d⟩
   rw[this];exact Sim.refl _
  .refine yh (k+1) ⟨by omega,fun j e=>?_⟩ (by omega) ?_
   .by_cases q:j=k
    .rw[q];exact h
    .exact c j (by omega)
   refine yu ?_;simp only[wk,go_sem,zA,zD];omega
  .have:yot L b=false:=List.any_eq_false.2 fun l g d=>by
    obtain⟨j,e,rfl⟩:=zAG g;have:=c j (by omega)
    rw[getD_at e]at this;exact this (of_decide_eq_true d)
   rw[this];exact Sim.refl _
end Sh
end
section
namespace Sh
open Go Ev
theorem Cm.ct{P:Program}{g:FuncId}{args:List SV}{Q:SV->Own->Prop}{R:SV->Prop}(h:Cm P g [] [] args Q)(a:∀r A,Q r A->vok A 5 r/\R (view A 5 r)):Ct P g args R:=by
 intro G m S W C p
 have I:Conc m.next G om0 ⟨[],[]⟩ ⟨0,.leaf⟩ (ygg m) :=
  ⟨W,zJ _,zJ _,C,fun B b h=>(by cases h),fun B _=>rfl,fun B γ k z k' z' h=>(by cases h),fun B k z h=>(by cases h),fun t v N=>(by cases N)⟩
 obtain⟨v,j,r,A,X,U,s0,t2,J,l1,l2,_,_,Z⟩:=h m.next G om0 ⟨0,.leaf⟩ (ygg m) S I p
 obtain⟨r3,r4⟩:=a r A Z
 have K:ybx P (.call g S m) (.call v j):=by
  obtain⟨n,b,l⟩:=m;exact ybx.relow s0
 have D:m.next<=j.low:=t2.low
 have e:∀{i x},m.b.get i=some x->i<m.next:=fun {i x} q=>W i x q
 have u:∀H:AM,Le X H->(∀B k z,U B=some (some (k,z))->∀b,j.b.get k=some b->H k=some b)->RV H om0 (view A 5 r) v:=fun H E F=>ykj t2 E F J r3
 have L:ybx P (.call g S m) (.call v ⟨j.next,yhy m.b j.b,j.low⟩):=by
  intro O;obtain⟨ext,s⟩:=K O
  have d:∀{i x},(yhy m.b j.b).get i=some x->m.b.get i=some x\/j.b.get i=some x:=fun {i x} q=>by
   rw[ydr]at q;split at q
   .rename_i y hy;cases q;exact .inl hy
   .exact .inr q
  refine⟨⟨ext.next,fun i b a=>?_,fun i b E F a=>?_,fun i b a=>?_⟩,fun φ M w o hR V ha hf=>?_⟩
  .rcases d a with q|q
   .exact .inl ⟨b,q⟩
   .exact ext.dom i b q
  .rcases d a with q|q
   .exact q
   .exact ext.old i b E F q
  .rcases d a with q|q
   .exact zAH (e q) ext.next
   .exact ext.wf i b q
  .refine(s φ M w o hR V ha hf).mono ?_;rintro e' w' ⟨v',rfl,T,Y,c,N⟩;refine⟨v',rfl,T,Y,⟨c.le,c.out,c.rel,fun i b a=>?_,c.frame,c.wg⟩,N⟩;rcases d a with q|q
   .have hi:=e q;rw[c.frame i (fun z=>by omega) (.inr (zAH hi D))]
    exact V i b q
   .exact c.sub i b q
 have f:∀{i},m.next<=i->m.b.get i=none:=fun {i} q=>by
  cases hh:m.b.get i with
  |none=>rfl
  |some x=>have:=e hh;omega
 refine⟨_,_,view A 5 r,L,D,fun i b a=>?_,r4,u _ (fun i b a=>?_) (fun B k z hk b a=>?_)⟩
 .show(yhy m.b j.b).get i=some b;rw[ydr,a]
 .unfold frsh;rcases l2 i b a with q|q
  .rw[if_neg (by have:=e (C i b q);omega)];exact q
  .rw[if_pos q];show(yhy m.b j.b).get i=some b;rw[ydr,f q];exact t2.sub i b a
 .unfold frsh;have:=(t2.apart B k z hk).2.1;rw[if_pos this];show(yhy m.b j.b).get k=some b;rw[ydr,f this];exact a
theorem Cm.weak {P:Program}{g:FuncId}{o:Own}{args:List SV}{Q R:SV->Own->Prop}(h:Cm P g [] o args Q)
 (I:∀r l,Q r l->∃j i,Weak [] ⟨[(0,r)],l⟩ ⟨[(0,j)],i⟩/\(cln (live i) 5 j=true/\allQ (fun p=>ycl (live i) p.2) i)/\R j i):Cm P g [] o args R:=by
 intro w G U f m T H d;obtain⟨v,y,r,l,B,n,S,t2,q,M,N,_,_,E⟩:=h w G U f m T H d;obtain⟨j,i,J,k,F⟩:=I r l E
 have t3:Conc w B n ⟨[(0,r)],l⟩ ⟨1,tOf [v]⟩ y:=⟨t2.wf,t2.low,t2.nxt,t2.sub,t2.own,t2.dom,t2.inj,t2.apart,fun t x a=>by
  unfold look at a;split at a
  .rename_i e
   cases a
   exact⟨v,by rw[ydh];simp[<-e],q⟩
  .cases a⟩
 obtain⟨A,D,K,L,c,_⟩:=J w B n _ y t3;obtain⟨u,C,O⟩:=c.fr 0 j rfl
 have e:u=v:=by
  rw[ydh]at C
  simpa using C.symm
 subst e
 exact⟨u,y,j,i,D,A,S,⟨c.wf,c.low,c.nxt,c.sub,c.own,c.dom,c.inj,c.apart,fun t x a=>(by cases a)⟩,O,fun x b a=>K x b (M x b a),fun x b a=>by
  rcases L x b a with z|z
  .exact N x b z
  .exact .inr z,fun V s=>absurd s zAE,⟨k.1,k.2,trivial⟩,F⟩
end Sh
end
section
def yod(g:Gr):Nat:=(g.ports.map zCJ).sum
def addL(back:Bool)(l:List (Int×Int))(x:Int×Int):List (Int×Int):=if back then x::l else l++[x]
theorem yfi{back:Bool}{l:List (Int×Int)}{x y:Int×Int}:y∈addL back l x↔y=x\/y∈l:=by
 unfold addL;cases back<;>simp[or_comm]
def ycy(back:Bool)(g:Gr)(a b:Nat)(w:Int):Gr:=⟨g.ids,(g.ports.set a (addL back (g.ports.getD a []) (b,w))).set b (addL back (g.ports.getD b []) (a,w))⟩
theorem yew(back:Bool)(g:Gr){a b:Nat}(w:Int)(e:a<g.ports.length)(f:b<g.ports.length)(v:Nat) :
 (ycy back g a b w).ports.getD v []=if v=b then addL back (g.ports.getD b []) (a,w)else if v=a then addL back (g.ports.getD a []) (b,w)else g.ports.getD v []:=by
 unfold ycy;simp only[zK]
 by_cases c:v=b
 .subst c;rw[if_pos rfl,zAS (by simpa using f)]
  rfl
 .rw[if_neg c,zAX (fun q=>c q.symm)]
  by_cases d:v=a
  .subst d;rw[if_pos rfl,zAS e];rfl
  .rw[if_neg d,zAX (fun q=>d q.symm)]
theorem ytk{back:Bool}{l:List (Int×Int)}{v n:Int}{x:Int×Int}(h:ydq l v n)(i:yqt v n x)(b:∀y∈l,y.1≠x.1):ydq (addL back l x) v n:=by
 refine⟨fun y a=>?_,?_⟩
 .rcases yfi.1 a with rfl|a
  .exact i
  .exact h.1 y a
 .have c:x.1∉l.map (·.1):=fun f=>by
   obtain⟨y,a,e⟩:=List.mem_map.1 f;exact b y a e
  unfold addL;cases back
  .simp only[Bool.false_eq_true,if_false,List.map_append,zAT,List.map_nil];rw[zBG];refine⟨h.2,by simp,fun p g q d=>?_⟩
   rw[List.mem_singleton]at d;subst d;intro e;exact c (e▸g)
  .simp only[if_true,zAT];exact List.nodup_cons.2 ⟨c,h.2⟩
theorem ybgf{back:Bool}{g:Gr}(H:ybi g){a b:Nat}{w:Int}(i:a<g.ports.length)(h:b<g.ports.length)(r:a≠b)(p:1<=w/\w<=15)(n:∀y∈g.ports.getD a [],y.1≠(b:Int)):ybi (ycy back g a b w):=by
 obtain⟨C,D,E,F,G,q,A⟩:=H;have c:(ycy back g a b w).ports.length=g.ports.length:=by simp[ycy]
 have m:∀(v:Nat) (d:v<g.ports.length),g.ports.getD v []=g.ports[v]:=fun v d=>by simp[zK,d]
 have o:∀y∈g.ports.getD b [],y.1≠(a:Int):=fun y B e=>by
  rw[m b h]at B;have:=A ⟨b,h⟩ y B;rw[e,zS]at this;exact n _ this rfl
 have at_:∀(v:Nat) (d:v<g.ports.length),(ycy back g a b w).ports[v]'(by rw[c];exact d)=if v=b then addL back (g.ports.getD b []) (a,w)else if v=a then addL back (g.ports.getD a []) (b,w)else g.ports.getD v []:=fun v d=>by
  rw[<-yew back g w i h v];simp[zK,c,d]
 refine⟨by rw[c];exact C,by rw[c];exact D,by rw[c];exact E,F,G,fun v=>?_,fun v l f=>?_⟩
 .have d:v.1<g.ports.length:=zBZ v.isLt c;have s:(((ycy back g a b w).ports.length:Nat):Int)=(g.ports.length:Int):=by rw[c]
  rw[s];show ydq ((ycy back g a b w).ports[v.1]) _ _;rw[at_ v.1 d];split
  .rename_i e
   rw[e];refine ytk ?_ ⟨by simp only[];omega,by simp only[];omega,by simp only[];omega,p.1,p.2⟩ o
   rw[m b h];exact q ⟨b,h⟩
  .split
   .rename_i e
    rw[e];refine ytk ?_ ⟨by simp only[];omega,by simp only[];omega,by simp only[];omega,p.1,p.2⟩ n
    rw[m a i];exact q ⟨a,i⟩
   .rw[m v.1 d];exact q ⟨v.1,d⟩
 .have d:v.1<g.ports.length:=zBZ v.isLt c
  change l∈(ycy back g a b w).ports[v.1]at f
  rw[at_ v.1 d]at f
  have z:∀u x,x∈g.ports.getD u []->x∈(ycy back g a b w).ports.getD u []:=fun u x k=>by
   rw[yew back g w i h u];split
   .rename_i e;subst e;exact yfi.2 (.inr k)
   .split
    .rename_i e;subst e;exact yfi.2 (.inr k)
    .exact k
  have j:∀(u:Nat) (t:u<g.ports.length),l∈g.ports.getD u []->((u:Int),l.2)∈(ycy back g a b w).ports.getD l.1.toNat []:=fun u t k=>by
   rw[m u t]at k;exact z _ _ (A ⟨u,t⟩ l k)
  split at f
  .rename_i e
   rcases yfi.1 f with rfl|f
   .rw[yew back g w i h,e];simp only[zS];simp only[if_neg r,if_true];exact yfi.2 (.inl rfl)
   .rw[e];exact j b h f
  .split at f
   .rename_i e
    rcases yfi.1 f with rfl|f
    .rw[yew back g w i h,e];simp only[zS];simp only[if_true];exact yfi.2 (.inl rfl)
    .rw[e];exact j a i f
   .exact j v.1 d f
end
section
def Tre(g:Gr)(m:Nat):Prop:=∀v,0<v->v<m->∃u,u<v/\adj g u v
theorem Tre.walk{g:Gr}{m:Nat}(h:Tre g m):∀v,v<m->∃k,Walk g 0 k v:=by
 intro v
 induction v using Nat.strongRecOn with
 | _ v e =>
   intro d
   by_cases a:v=0
   .subst a;exact⟨0,rfl⟩
   .obtain⟨u,c,b⟩:=h v (by omega) d
    obtain⟨k,hk⟩:=e u c (by omega)
    exact⟨k+1,u,hk,b⟩
theorem Tre.conn{g:Gr}(b:ybi g)(h:Tre g g.ports.length):yeo g=true:=by
 unfold yeo;rw[(yhw g).2 b,zZ,ybkt b (a:=0) (by have:=b.1;omega)]
 exact h.walk
theorem ypb{g:Gr}{u v:Nat}:adj g u v↔∃l,l∈g.ports.getD u []/\l.1=(v:Int):=by
 constructor
 .rintro⟨b,h,l,a,e⟩;exact⟨l,by simpa[zK,h]using a,e⟩
 .rintro⟨l,a,e⟩;cases h:g.ports[u]? with
  |none=>simp[zK,h]at a
  |some b=>exact⟨b,h,l,by simpa[zK,h]using a,e⟩
theorem ybjw{back:Bool}{g:Gr}{a b:Nat}{w:Int}(d:a<g.ports.length)(f:b<g.ports.length){u v:Nat}(h:adj g u v):adj (ycy back g a b w) u v:=by
 obtain⟨l,c,e⟩:=ypb.1 h;refine ypb.2 ⟨l,?_,e⟩;rw[yew back g w d f u];split
 .rename_i q;subst q;exact yfi.2 (.inr c)
 .split
  .rename_i q;subst q;exact yfi.2 (.inr c)
  .exact c
theorem ybmk{back:Bool}{g:Gr}{a b:Nat}{w:Int}(d:a<g.ports.length)(e:b<g.ports.length)(c:a≠b):adj (ycy back g a b w) a b:=by
 refine ypb.2 ⟨((b:Int),w),?_,rfl⟩;rw[yew back g w d e a,if_neg c,if_pos rfl];exact yfi.2 (.inl rfl)
theorem Tre.add{back:Bool}{g:Gr}{a b:Nat}{w:Int}(e:a<g.ports.length)(f:b<g.ports.length){m:Nat}(h:Tre g m):Tre (ycy back g a b w) m:=fun v d j=>by
 obtain⟨u,i,c⟩:=h v d j;exact⟨u,i,ybjw e f c⟩
def bare(ids:List Int):Gr:=⟨ids,zU ids.length []⟩
theorem ycig{ids:List Int}(b:1<=ids.length)(c:ids.length<=24)(d:∀x∈ids,0<=x/\x<=255)(f:ids.Nodup):ybi (bare ids):=by
 have e:∀v:Fin (bare ids).ports.length,(bare ids).ports[v]=[]:=fun v=>by
  have g:v.1<ids.length:=by have:=v.isLt;simpa[bare]using this
  show(zU ids.length ([]:List (Int×Int)))[v.1]'(by simpa using g)=[]
  exact List.getElem_replicate ..
 refine⟨by simpa[bare]using b,by simpa[bare]using c,by simp[bare],d,f,fun v=>?_,fun v l a=>?_⟩
 .rw[e v];exact⟨fun l a=>(nomatch a),zBB⟩
 .rw[e v]at a;cases a
end
section
structure NetR where
 n:Int
 links:List Int
 weights:List Int
 ids:List Int
 apart:Bool
 back:Bool
def NetR.ok(x:NetR):Prop:=Sh.inK .i64 x.n/\(∀k,Sh.inK .i64 (x.links.getD k 0))/\(∀k,Sh.inK .i64 (x.weights.getD k 0))/\(∀k,Sh.inK .i64 (x.ids.getD k 0))
def ybfz(x:NetR)(ids:List Int):Prop:=x.ids=[]->∀y∈ids,y<(ids.length:Int)
theorem ybkj(a r:Nat)(d:r<=256):((zDC r).map fun i=>(((a+i)%256:Nat):Int)).Nodup:=by
 unfold List.Nodup;rw[zAR];refine List.Pairwise.imp_of_mem (R:=(· < ·)) (fun {i j} b c h=>?_) List.pairwise_lt_range;have b:=List.mem_range.1 b;have c:=List.mem_range.1 c;intro e;omega
theorem ybrb{a r:Nat}{l:List Int}(c:r<=256)(h:∀i,i<r->(((a+i)%256:Nat):Int)∈l):r<=l.length:=by
 have:=List.Nodup.length_le_of_subset (ybkj a r c) (l₂:=l) fun x d=>by
  obtain⟨i,b,rfl⟩:=List.mem_map.1 d;exact h i (List.mem_range.1 b)
 simpa using this
namespace Sh
open Ev Go.RowKit
def netC(x:NetR):List SV:=[.i .i64 x.n,ybb x.links,ybb x.weights,ybb x.ids,.b x.apart,.b x.back]
theorem wrap64_in(z:Int):inK .i64 (IntKind.wrap .i64 z):=by
 unfold inK;have a:IntKind.i64.min = -9223372036854775808:=rfl;have b:IntKind.i64.max=9223372036854775807:=rfl;have c:=zAY z (show(18446744073709551616:Int)≠0 by decide)
 have d:=zAQ z (show(0:Int)<18446744073709551616 by decide)
 rw[a,b]
 have e:IntKind.wrap .i64 z=if z%18446744073709551616>=9223372036854775808 then z%18446744073709551616-18446744073709551616 else z%18446744073709551616:=by
  show(if (true&&decide (z%18446744073709551616>=9223372036854775808))=true then z%18446744073709551616-18446744073709551616 else z%18446744073709551616)=_
  simp only[zZ,decide_eq_true_eq]
 rw[e];split<;>omega
theorem ycaw{x:NetR}(hx:x.ok){most:Nat}(I:1<=most/\most<=24) :
 Cm zH 47 [] [] [.ag (netC x),.i .i64 most] fun r o=>∃ids:List Int,(1<=ids.length/\ids.length<=most/\(ids.length:Int)=1+yeb (IntKind.wrap .i64 (x.n-1)) most/\ybfz x ids)/\(∀y∈ids,0<=y/\y<=255)/\ids.Nodup/\r = .ag [.os (148,0) 0 ids.length true,.os (17,0) 0 ids.length true] /\
  o=[(17,.one (some ⟨135,false,1,ids.length,fun _=>[.a (.slice none 0 0)]⟩)),(148,.one (some ⟨3,false,1,ids.length,fun k=>[.i .i64 (ids.getD k 0)]⟩))]:=by
 refine ydie [] [] _ _ _ ?_;obtain⟨a2,a3,a4,N⟩:=hx;have w:=ynj (v:=IntKind.wrap .i64 (x.n-1)) (m:=(most:Int)) (by omega)
 obtain⟨k,hk⟩:∃k:Nat,yeb (IntKind.wrap .i64 (x.n-1)) most=k:=zM w.1;have O:=ynl (IntKind.wrap .i64 (x.n-1)) most (by omega) (wrap64_in _)
 rw[hk]at O w;obtain⟨n,Z⟩:∃n:Nat,(1:Int)+(k:Int)=(n:Int):=⟨1+k,by omega⟩
 have L:1<=n/\n<=most/\(n:Int)=1+yeb (IntKind.wrap .i64 (x.n-1)) most:=by omega
 simp only[c47,ydoq,ydpi,netC,go_sem,zA,zB,zI,zD];refine O.use ?_;simp only[ybj,ydup,ydnb,Z,clash,go_sem,zA,zB,zD];refine⟨ikw (by omega) (by omega),⟨by omega,by omega,by omega⟩,?_⟩
 refine ybd (σ:=List Int) (fun l=>⟨[(7,.i .i64 l.length),(5,.i .i64 n),(2,.pt (2,0) 0 0),(6,.pt (6,0) 0 0),(4,.pt (4,0) 0 0)],
  [(2,.one (some ⟨24,true,6,1,fun _=>netC x⟩)),(4,.one (some ⟨27,true,2,1,fun _=>[.a (.slice none 0 0),.a (.slice none 0 0)]⟩)),
   (6,.one (some ⟨27,true,2,1,fun _=>[.os (148,0) 0 l.length true,.os (17,0) 0 n true]⟩)),(17,.one (some ⟨135,false,1,n,fun _=>[.a (.slice none 0 0)]⟩)),
   (148,.one (some ⟨3,false,1,l.length,fun k=>[.i .i64 (l.getD k 0)]⟩))]⟩)
  (fun l=>l.length<=n/\(∀y∈l,0<=y/\y<=255)/\l.Nodup/\ybfz x l) (fun l=>n-l.length) [] ⟨zV _,fun y d=>(zAE d).elim,zBB,fun _ y d=>(zAE d).elim⟩ ?_ ?_
 .refine ybw [] [148] [] ?_;simp only[netC,wk,go_sem,zA,zD,zAA];exact fun i _=>⟨(148,0),rfl,rfl,rfl⟩
 .rintro l ⟨X,A,B,C⟩;obtain⟨v,h⟩:∃v,l.length=v:=⟨_,rfl⟩;rw[h]at X;have T:=at_ret x.ids v;have t:=ynj (v:=atP x.ids v) (m:=256) (by omega)
  obtain⟨a,U⟩:∃a:Nat,yeb (atP x.ids v) 256=a:=zM t.1;have p:=ynl (atP x.ids v) 256 (by omega) (N v)
  rw[U]at p t;simp only[ydsv,ydtz,ydtu,ycsx,netC,h,splice,clash,go_sem,zA,zB,zI];refine⟨fun Y=>?_,fun W=>?_⟩
  .refine T.use ?_;simp only[ybj,clash,go_sem,zA,zB];refine p.use ?_
   refine ybd (σ:=Nat×Nat) (fun q=>⟨[(9,.i .i64 q.2),(8,.i .i64 ((a+q.1)%256:Nat)),(7,.i .i64 v),(5,.i .i64 n),(2,.pt (2,0) 0 0),(6,.pt (6,0) 0 0),(4,.pt (4,0) 0 0)],
    [(2,.one (some ⟨24,true,6,1,fun _=>netC x⟩)),(4,.one (some ⟨27,true,2,1,fun _=>[.a (.slice none 0 0),.a (.slice none 0 0)]⟩)),
     (6,.one (some ⟨27,true,2,1,fun _=>[.os (148,0) 0 v true,.os (17,0) 0 n true]⟩)),(17,.one (some ⟨135,false,1,n,fun _=>[.a (.slice none 0 0)]⟩)),
     (148,.one (some ⟨3,false,1,v,fun k=>[.i .i64 (l.getD k 0)]⟩))]⟩)
    (fun q=>q.2<=v/\(∀i,i<q.1->(((a+i)%256:Nat):Int)∈l)/\q.1<=256/\∀j,j<q.2->l.getD j 0≠(((a+q.1)%256:Nat):Int)) (fun q=>(v-q.1)*(v+2)+(v-q.2)) (0,0) ⟨zV _,fun i K=>absurd K (zAI i),by omega,fun j f=>absurd f (zAI j)⟩ ?_ ?_
   .refine yu ?_;simp only[netC,wk,go_sem,zA,zD];rw[Nat.mod_eq_of_lt (by omega)]
   .rintro⟨r,u⟩ ⟨S,F,c,g⟩;obtain⟨b,s⟩:∃b,(a+r)%256=b:=⟨_,rfl⟩;have J:b<256:=by omega
    simp only[ydsa,ydxh,ycxu,ydeg,ydcs,ydru,netC,s,splice,clash,go_sem,zA,zB,zI,zD];have S:u<=v:=S;have F:∀i,i<r->(((a+i)%256:Nat):Int)∈l:=F;have c:r<=256:=c;have g:∀j,j<u->l.getD j 0≠(b:Int):=fun j f=>by rw[<-s];exact g j f
    have a1:r<=v:=by rw[<-h];exact ybrb c F
    refine⟨fun Q=>⟨⟨by omega,by omega⟩,by omega,fun V=>⟨ikw (by omega) (by omega),by decide,ikw (by omega) (by omega),?_⟩,fun M=>⟨ikw (by omega) (by omega),?_⟩⟩,fun P=>?_⟩
    .have D:(b:Int)∈l:=by
      rw[<-V,getD_at (show u<l.length by omega)]
      exact zL _
     have G:∀i,i<r+1->(((a+i)%256:Nat):Int)∈l:=fun i K=>by
      by_cases q:i=r
      .rw[q,s];exact D
      .exact F i (by omega)
     have R:r+1<=v:=by rw[<-h];exact ybrb (by omega) G
     refine yh (r+1,0) ⟨zV _,G,by show r+1<=256;omega,fun j f=>absurd f (zAI j)⟩ ?_ ?_
     .show(v-(r+1))*(v+2)+(v-0)<(v-r)*(v+2)+(v-u);obtain⟨m,I⟩:∃m,v-r=m+1:=⟨v-r-1,by omega⟩
      rw[show v-(r+1)=m by omega,I,Nat.succ_mul]
      generalize m*(v+2)=z
      omega
     .refine yu ?_;simp only[wk,go_sem,zA,zD];refine⟨by omega,?_⟩
      rw[Int.tmod_eq_emod_of_nonneg (by omega)]
      omega
    .refine yh (r,u+1) ⟨by show u+1<=v;omega,F,c,fun j f=>?_⟩ ?_ ?_
     .show l.getD j 0≠(((a+r)%256:Nat):Int);rw[s]
      by_cases q:j=u
      .rw[q];exact M
      .exact g j (by have:j<u+1:=f;omega)
     .show(v-r)*(v+2)+(v-(u+1))<(v-r)*(v+2)+(v-u)
      generalize (v-r)*(v+2)=z
      omega
     .refine yu ?_;simp only[s,wk,go_sem,zA,zD];omega
    .obtain rfl:u=v:=by omega
     refine⟨⟨by omega,by omega⟩,ikw (by omega) (by omega),?_⟩
     have E:(b:Int)∉l:=fun I=>by
      obtain⟨j,f,e⟩:=zAG I;exact g j (by omega) (by rw[getD_at f,e])
     refine yh (l++[(b:Int)]) ⟨by rw[zAJ,zAV];omega,fun y d=>?_,?_,?_⟩ (by rw[zAJ,zAV];omega) ?_
     .rcases List.mem_append.1 d with d|d
      .exact A y d
      .rw[List.mem_singleton.1 d];omega
     .rw[zBG];exact⟨B,by simp,fun y d z hz=>by rw[List.mem_singleton.1 hz];exact fun e=>E (e▸d)⟩
     .intro H y d;rw[zAJ,zAV];rcases List.mem_append.1 d with d|d
      .have:=C H y d;omega
      .have a0:a=0:=by
        have:yeb (atP x.ids u) 256=0:=by rw[H];rfl
        omega
       rw[List.mem_singleton.1 d];omega
     refine ybw [(148,fun i=>(48,i))] [] [] ?_;simp only[zAJ,h,wk,go_sem,zA,zD];refine⟨by omega,fun i K=>?_⟩
     rw[ydra,h]
     by_cases q:i<u
     .simp only[if_pos q];simp only[wk,go_sem]
     .obtain rfl:i=u:=by omega
      simp only[if_neg q,zCA];simp only[wk,go_sem]
  .obtain rfl:v=n:=by omega
   simp only[yhi,go_sem];refine⟨.ag [.os (148,0) 0 v true,.os (17,0) 0 v true],[(17,.one (some ⟨135,false,1,v,fun _=>[.a (.slice none 0 0)]⟩)),(148,.one (some ⟨3,false,1,v,fun k=>[.i .i64 (l.getD k 0)]⟩))],?_,?_,l,⟨by omega,by omega,by rw[h];exact L.2.2,C⟩,A,B,by rw[h],by rw[h]⟩
   .refine yu ?_;simp only[wk,go_sem,zA,zD]
   .simp only[ycl,yfm,wk,go_sem,zA]
theorem ycky{x:NetR}(j:x.ok){most:Nat}(g:1<=most/\most<=24) :
 Cm zH 47 [] [] [.ag (netC x),.i .i64 most] fun r o=>∃ids:List Int,(1<=ids.length/\ids.length<=most/\(ids.length:Int)=1+yeb (IntKind.wrap .i64 (x.n-1)) most/\ybfz x ids)/\(∀y∈ids,0<=y/\y<=255)/\ids.Nodup/\r = .ag [ybb ids,.os (17,0) 0 ids.length true] /\
  o=[(17,.one (some ⟨135,false,1,ids.length,fun _=>[.a (.slice none 0 0)]⟩))] :=
 (ycaw j g).weak fun r k ⟨ids,d,e,f,b,c⟩=>by
   subst b c;obtain⟨v,h⟩:∃v,ids.length=v:=⟨_,rfl⟩;refine⟨.ag [ybb ids,.os (17,0) 0 ids.length true],[(17,.one (some ⟨135,false,1,ids.length,fun _=>[.a (.slice none 0 0)]⟩))],?_,?_,ids,d,e,f,rfl,rfl⟩
   .refine ybw [] [] [(148,0)] ?_;simp only[ybb,h,wk,go_sem,zA,zD]
   .simp only[ycl,yfm,wk,go_sem]
end Sh
end
section
def yku(back:Bool)(g:Gr)(a b:Nat)(w:Int):Gr:=if a=b\/yot (g.ports.getD a []) b=true then g else ycy back g a b w
namespace Sh
open Ev Go.RowKit
def rowO(l:List (Int×Int)):OB:=⟨68,false,2,l.length,fun k=>[.i .i64 (l.getD k (0,0)).1,.i .i64 (l.getD k (0,0)).2]⟩
def yhn(ports:List (List (Int×Int))):Own:=[(211,.one (some ⟨135,false,1,ports.length,fun v=>[.os (212,v) 0 (ports.getD v []).length true]⟩)),
 (212,.many fun v=>if v<ports.length then some (rowO (ports.getD v []))else none)]
def yww(g:Gr):SV:=.ag [ybb g.ids,.os (211,0) 0 g.ports.length true]
theorem yko{i n:Nat}{x b:OB}(h:(if i<n then some x else none)=some b):i<n/\b=x:=by
 split at h
 .cases h;exact⟨by assumption,rfl⟩
 .cases h
theorem yci(back:Bool)(L:List (Int×Int))(x:Int×Int):(addL back L x).length=L.length+1:=by
 unfold addL;cases back<;>simp
theorem ybhw(L:List (Int×Int))(x:Int×Int){k:Nat}(hk:k<L.length+1):(if k<L.length then[SV.i .i64 (L.getD k (0,0)).1,SV.i .i64 (L.getD k (0,0)).2]else zCT 2 (zCU ((k-L.length)*2) [SV.i .i64 x.1,SV.i .i64 x.2]))=[SV.i .i64 ((addL false L x).getD k (0,0)).1,SV.i .i64 ((addL false L x).getD k (0,0)).2]:=by
 show _=[SV.i .i64 ((L++[x]).getD k (0,0)).1,SV.i .i64 ((L++[x]).getD k (0,0)).2];rw[ydra]
 by_cases h:k<L.length
 .rw[if_pos h,if_pos h]
 .obtain rfl:k=L.length:=by omega
  rw[if_neg h,if_neg h,if_pos rfl,zCA];rfl
theorem yqq(L:List (Int×Int))(x:Int×Int)(k:Nat):(if k<1 then zCT 2 (zCU (k*2) [SV.i .i64 x.1,SV.i .i64 x.2])else[SV.i .i64 (L.getD (k-1) (0,0)).1,SV.i .i64 (L.getD (k-1) (0,0)).2])=[SV.i .i64 ((addL true L x).getD k (0,0)).1,SV.i .i64 ((addL true L x).getD k (0,0)).2]:=by
 show _=[SV.i .i64 ((x::L).getD k (0,0)).1,SV.i .i64 ((x::L).getD k (0,0)).2];cases k with
 |zero=>rfl
 |succ k=>rw[if_neg (by omega)];rfl
theorem cells_one(L:List (Int×Int))(h:L.length=0)(x:Int×Int){k:Nat}(hk:k<1):zCT 2 (zCU (k*2) [SV.i .i64 x.1,SV.i .i64 x.2])=[SV.i .i64 ((addL true L x).getD k (0,0)).1,SV.i .i64 ((addL true L x).getD k (0,0)).2]:=by
 obtain rfl:k=0:=by omega
 rfl
theorem ykh {n:Nat}{o:Own}{P':List (List (Int×Int))}(D:P'.length=n) (A:Nat->Nm) {R:Nat->List SV}(m:lookO o (211,0)=some ⟨135,false,1,n,R⟩) (C:∀v,v<n->R v=[.os (A v) 0 (P'.getD v []).length true])
 (B:∀v,v<n->∃q,lookO o (A v)=some ⟨68,false,2,(P'.getD v []).length,q⟩/\∀k,k<(P'.getD v []).length->q k=[.i .i64 ((P'.getD v []).getD k (0,0)).1,.i .i64 ((P'.getD v []).getD k (0,0)).2])
 (t:∀u v,u<n->v<n->A u=A v->u=v) (z:∀v,v<n->A v≠(211,0)) :
 ∃r l,Weak [(211,0)] ⟨[(0,.tp [])],o⟩ ⟨[(0,r)],l⟩/\(cln (live l) 5 r=true/\allQ (fun p=>ycl (live l) p.2) l/\allQ (fun G=>live l G=true) [(211,0)])/\r = .tp []/\l=yhn P':=by
 subst D
 have d:∀i,(if i<P'.length then some (rowO (P'.getD i []))else none).isSome=true->i<P'.length:=fun i h=>by
  by_cases q:i<P'.length
  .exact q
  .rw[if_neg q]at h;cases h
 have f:∀i,i<P'.length->live (yhn P') (212,i)=true:=fun i t=>by
  show(if i<P'.length then some (rowO (P'.getD i []))else none).isSome=true
  rw[if_pos t];rfl
 refine⟨.tp [],yhn P',ybkg [(212,A)] [] [] trivial ⟨.inr ⟨.inr fun e=>⟨rfl,rfl⟩,.inr fun j y e=>?_,trivial⟩,.inr ⟨.inr fun i c e=>?_,.inr fun i c j y e=>⟨rfl,?_⟩,trivial⟩,trivial⟩ ⟨?_,trivial⟩ ⟨?_,fun i b s=>?_,trivial⟩ ⟨⟨rfl,rfl,rfl⟩,trivial⟩,⟨rfl,⟨?_,?_,trivial⟩,rfl,trivial⟩,rfl,rfl⟩
 .exact absurd e.symm (z j (d j y))
 .exact absurd e (z i (d i c))
 .exact t i j (d i c) (d j y) e
 .exact⟨_,rfl,.inl ⟨trivial,Sim.refl _,rfl⟩⟩
 .refine⟨_,m,⟨rfl,rfl,rfl,rfl,rfl⟩,fun e=>absurd (show false=true from e) zAK,fun i c=>?_⟩
  have c:i<P'.length:=c;show telL _ _ _ _ _ (R i) _;rw[C i c];refine⟨.inl ⟨by simp only[go_sem],Sim.refl _,?_⟩,rfl,trivial⟩
  show(live (yhn P') (212,i) && !(List.elem 212 []))=true;rw[f i c];rfl
 .obtain⟨c,rfl⟩:=yko s;obtain⟨q,E,F⟩:=B i c;refine⟨_,E,⟨rfl,rfl,rfl,rfl,rfl⟩,fun e=>absurd (show false=true from e) zAK,fun k hk=>?_⟩
  show telL _ _ _ _ _ (q k) _;rw[F k hk];exact⟨.inl ⟨trivial,Sim.refl _,rfl⟩,rfl,.inl ⟨trivial,Sim.refl _,rfl⟩,rfl,trivial⟩
 .intro k hk;have:live (yhn P') (212,k)=true:=f k hk;simp only[yhn,zCW,List.all_nil,Bool.and_true]at this ⊢;exact this
 .intro i b s k hk;obtain⟨c,rfl⟩:=yko s;rfl
section
variable {x:NetR}{g:Gr}{a b:Nat}{w:Int}
theorem ydgj (A:a<g.ports.length)(C:b<g.ports.length)(M:g.ports.length<=24)(E:∀v,(g.ports.getD v []).length<=1000) :
 Cm zH 48 [(211,0)] (yhn g.ports) [.ag (netC x),yww g,.i .i64 a,.i .i64 b,.i .i64 w] fun r o=>r = .tp []/\o=yhn (yku x.back g a b w).ports:=by
 refine ydks [(211,0)] [] _ _ _ ?_;obtain⟨L,p⟩:∃O,yhn (yku x.back g a b w).ports=O:=⟨_,rfl⟩;rw[p]
 by_cases d:a=b
 .subst d;have B:yku x.back g a a w=g:=if_pos (.inl rfl);rw[B]at p;simp only[c48,ydlo,ydfp,netC,yww,yhn,yhi,go_sem,zA,zB,zD,↓reduceIte,reduceCtorEq];subst p;exact ykh rfl (fun v=>(212,v)) rfl (fun v m=>rfl) (fun v m=>⟨_,if_pos m,fun k hk=>rfl⟩) (fun u v _ _ e=>congrArg Prod.snd e) (fun v _ e=>by cases e)
 .have F:((a:Int)==(b:Int))=false:=by rw[beq_eq_false_iff_ne];omega
  have I:=ybvv (ids:=g.ids) (ports:=g.ports) (b:=b) A (by have:=E a;omega)
  simp only[c48,ydlo,ydfp,netC,yww,yhn,F,clash,go_sem,zA,zB,zD,↓reduceIte,reduceCtorEq];refine .inl ⟨fun q H=>by rw[if_pos H];exact⟨zJ _,fun k hk=>by simp only[rowO,go_sem]⟩,I.useS ?_ ?_⟩
  .refine⟨ybps ⟨Sim.refl _,?_,trivial⟩,Sim.refl _,Sim.refl _,trivial⟩;refine ydu fun q H=>?_;rw[if_pos H];simp only[rowO,yx,go_sem];exact⟨Sim.refl _,trivial⟩
  cases D:yot (g.ports.getD a []) b with
  | true =>
    have B:yku x.back g a b w=g:=if_pos (.inr D);rw[B]at p;simp only[ybj,clash,yhi,go_sem,zA,zB,↓reduceIte];subst p;exact ykh rfl (fun v=>(212,v)) rfl (fun v m=>rfl) (fun v m=>⟨_,if_pos m,fun k hk=>rfl⟩) (fun u v _ _ e=>congrArg Prod.snd e) (fun v _ e=>by cases e)
  | false =>
    have B:yku x.back g a b w=ycy x.back g a b w:=if_neg (fun q=>by rcases q with q|q;exact d q;rw[D]at q;cases q)
    rw[B]at p;subst p;have s:¬b=a:=fun e=>d e.symm;have l:(ycy x.back g a b w).ports.length=g.ports.length:=by simp[ycy]
    have f:=yew x.back g w A C;obtain⟨G',z⟩:∃G,(ycy x.back g a b w).ports=G:=⟨_,rfl⟩;rw[z]at l ⊢;have f:∀v,G'.getD v []=if v=b then addL x.back (g.ports.getD b []) (a,w)else if v=a then addL x.back (g.ports.getD a []) (b,w)else g.ports.getD v []:=fun v=>by rw[<-z];exact f v
    clear z B
    obtain⟨N,P,Q,R,S,back⟩:=x;have J:=E a;have K:=E b;cases back with
    | false =>
      simp only[ybj,clash,ybvf,ybsx,ydwg,rowO,if_pos A,if_pos C,d,s,yhi,and_false,go_sem,zA,zB,zI,zD,↓reduceIte,reduceCtorEq];refine⟨⟨by omega,by omega⟩,by omega,⟨by omega,by omega⟩,by decide,⟨by omega,by omega⟩,by omega,⟨by omega,by omega⟩,by decide,⟨by omega,by omega⟩,by omega,by decide,⟨by omega,by omega⟩,by omega,by decide,?_⟩
      refine ykh l (fun v=>if v=b then(74,0)else if v=a then(66,0)else(212,v)) rfl (fun v m=>?_) (fun v m=>?_) (fun u v _ _ e=>?_) (fun v _ e=>?_)
      .rw[f v]
       by_cases q:v=b
       .simp only[if_pos q,yci]
       .by_cases c:v=a
        .simp only[if_neg q,if_pos c,yci]
        .simp only[if_neg q,if_neg c]
      .rw[f v]
       by_cases q:v=b
       .simp only[if_pos q,yci];exact⟨_,rfl,fun k hk=>ybhw _ (_,_) hk⟩
       .by_cases c:v=a
        .simp only[if_neg q,if_pos c,yci];exact⟨_,rfl,fun k hk=>ybhw _ (_,_) hk⟩
        .simp only[if_neg q,if_neg c];refine⟨fun k=>[.i .i64 ((g.ports.getD v []).getD k (0,0)).1,.i .i64 ((g.ports.getD v []).getD k (0,0)).2],?_,fun k hk=>rfl⟩;show(if v=b then none else if v=a then none else if v<g.ports.length then some _ else none)=some _
         rw[if_neg q,if_neg c,if_pos m]
      .by_cases q:u=b<;>by_cases c:u=a<;>by_cases t:v=b<;>by_cases y:v=a<;>simp[q,c,t,y,d]at e ⊢<;>omega
      .by_cases q:v=b<;>by_cases c:v=a<;>simp[q,c,d]at e
    | true =>
      by_cases j:(g.ports.getD a []).length=0
      .by_cases h:(g.ports.getD b []).length=0
       .simp only[ybj,clash,ybvf,ybsx,ycaf,ycbo,rowO,if_pos A,if_pos C,s,yhi,and_false,j,h,go_sem,zA,zB,zI,zD,zBW,↓reduceIte,reduceCtorEq]
        repeat' apply zCB
        all_goals first|omega|decide|skip
        refine ykh l (fun v=>if v=b then(45,0)else if v=a then(33,0)else(212,v)) rfl (fun v m=>?_) (fun v m=>?_) (fun u v _ _ e=>?_) (fun v _ e=>?_)
        .rw[f v]
         by_cases q:v=b
         .simp only[if_pos q,yci,h,zAF]
         .by_cases c:v=a
          .simp only[if_neg q,if_pos c,yci,j,zAF]
          .simp only[if_neg q,if_neg c]
        .rw[f v]
         by_cases q:v=b
         .simp only[if_pos q,yci,h,zAF];exact⟨_,rfl,fun k hk=>cells_one _ h (_,_) hk⟩
         .by_cases c:v=a
          .simp only[if_neg q,if_pos c,yci,j,zAF];exact⟨_,rfl,fun k hk=>cells_one _ j (_,_) hk⟩
          .simp only[if_neg q,if_neg c];refine⟨fun k=>[.i .i64 ((g.ports.getD v []).getD k (0,0)).1,.i .i64 ((g.ports.getD v []).getD k (0,0)).2],?_,fun k hk=>rfl⟩;show(if v<g.ports.length then some _ else none)=some _
           rw[if_pos m]
        .by_cases q:u=b<;>by_cases c:u=a<;>by_cases t:v=b<;>by_cases y:v=a<;>simp[q,c,t,y,d]at e ⊢<;>omega
        .by_cases q:v=b<;>by_cases c:v=a<;>simp[q,c,d]at e
       .simp only[ybj,clash,ybvf,ybsx,ycaf,ycbo,rowO,if_pos A,if_pos C,s,yhi,and_false,j,h,go_sem,zA,zB,zI,zD,zBW,↓reduceIte,reduceCtorEq]
        repeat' apply zCB
        all_goals first|omega|decide|skip
        refine ykh l (fun v=>if v=b then(51,0)else if v=a then(33,0)else(212,v)) rfl (fun v m=>?_) (fun v m=>?_) (fun u v _ _ e=>?_) (fun v _ e=>?_)
        .rw[f v]
         by_cases q:v=b
         .simp only[if_pos q,yci,zY]
         .by_cases c:v=a
          .simp only[if_neg q,if_pos c,yci,j,zAF,zY]
          .simp only[if_neg q,if_neg c]
        .rw[f v]
         by_cases q:v=b
         .simp only[if_pos q,yci];exact⟨_,congrArg some (congrArg (fun n=>OB.mk _ _ _ n _) (zY _ _)),fun k hk=>yqq _ (_,_) k⟩
         .by_cases c:v=a
          .simp only[if_neg q,if_pos c,yci,j,zAF];exact⟨_,rfl,fun k hk=>cells_one _ j (_,_) hk⟩
          .simp only[if_neg q,if_neg c];refine⟨fun k=>[.i .i64 ((g.ports.getD v []).getD k (0,0)).1,.i .i64 ((g.ports.getD v []).getD k (0,0)).2],?_,fun k hk=>rfl⟩;show(if v<g.ports.length then some _ else none)=some _
           rw[if_pos m]
        .by_cases q:u=b<;>by_cases c:u=a<;>by_cases t:v=b<;>by_cases y:v=a<;>simp[q,c,t,y,d]at e ⊢<;>omega
        .by_cases q:v=b<;>by_cases c:v=a<;>simp[q,c,d]at e
      .by_cases h:(g.ports.getD b []).length=0
       .simp only[ybj,clash,ybvf,ybsx,ycaf,ycbo,rowO,if_pos A,if_pos C,s,yhi,and_false,j,h,go_sem,zA,zB,zI,zD,zBW,↓reduceIte,reduceCtorEq]
        repeat' apply zCB
        all_goals first|omega|decide|skip
        refine ykh l (fun v=>if v=b then(45,0)else if v=a then(39,0)else(212,v)) rfl (fun v m=>?_) (fun v m=>?_) (fun u v _ _ e=>?_) (fun v _ e=>?_)
        .rw[f v]
         by_cases q:v=b
         .simp only[if_pos q,yci,h,zAF,zY]
         .by_cases c:v=a
          .simp only[if_neg q,if_pos c,yci,zY]
          .simp only[if_neg q,if_neg c]
        .rw[f v]
         by_cases q:v=b
         .simp only[if_pos q,yci,h,zAF];exact⟨_,rfl,fun k hk=>cells_one _ h (_,_) hk⟩
         .by_cases c:v=a
          .simp only[if_neg q,if_pos c,yci];exact⟨_,congrArg some (congrArg (fun n=>OB.mk _ _ _ n _) (zY _ _)),fun k hk=>yqq _ (_,_) k⟩
          .simp only[if_neg q,if_neg c];refine⟨fun k=>[.i .i64 ((g.ports.getD v []).getD k (0,0)).1,.i .i64 ((g.ports.getD v []).getD k (0,0)).2],?_,fun k hk=>rfl⟩;show(if v<g.ports.length then some _ else none)=some _
           rw[if_pos m]
        .by_cases q:u=b<;>by_cases c:u=a<;>by_cases t:v=b<;>by_cases y:v=a<;>simp[q,c,t,y,d]at e ⊢<;>omega
        .by_cases q:v=b<;>by_cases c:v=a<;>simp[q,c,d]at e
       .simp only[ybj,clash,ybvf,ybsx,ycaf,ycbo,rowO,if_pos A,if_pos C,s,yhi,and_false,j,h,go_sem,zA,zB,zI,zD,↓reduceIte,reduceCtorEq]
        repeat' apply zCB
        all_goals first|omega|decide|skip
        refine ykh l (fun v=>if v=b then(51,0)else if v=a then(39,0)else(212,v)) rfl (fun v m=>?_) (fun v m=>?_) (fun u v _ _ e=>?_) (fun v _ e=>?_)
        .rw[f v]
         by_cases q:v=b
         .simp only[if_pos q,yci,zY]
         .by_cases c:v=a
          .simp only[if_neg q,if_pos c,yci,zY]
          .simp only[if_neg q,if_neg c]
        .rw[f v]
         by_cases q:v=b
         .simp only[if_pos q,yci];exact⟨_,congrArg some (congrArg (fun n=>OB.mk _ _ _ n _) (zY _ _)),fun k hk=>yqq _ (_,_) k⟩
         .by_cases c:v=a
          .simp only[if_neg q,if_pos c,yci];exact⟨_,congrArg some (congrArg (fun n=>OB.mk _ _ _ n _) (zY _ _)),fun k hk=>yqq _ (_,_) k⟩
          .simp only[if_neg q,if_neg c];refine⟨fun k=>[.i .i64 ((g.ports.getD v []).getD k (0,0)).1,.i .i64 ((g.ports.getD v []).getD k (0,0)).2],?_,fun k hk=>rfl⟩;show(if v<g.ports.length then some _ else none)=some _
           rw[if_pos m]
        .by_cases q:u=b<;>by_cases c:u=a<;>by_cases t:v=b<;>by_cases y:v=a<;>simp[q,c,t,y,d]at e ⊢<;>omega
        .by_cases q:v=b<;>by_cases c:v=a<;>simp[q,c,d]at e
end
end Sh
end
section
theorem ybsp{back:Bool}{g:Gr}{a b:Nat}{w:Int}(c:ybi g)(d:a<g.ports.length)(f:b<g.ports.length)(j:1<=w/\w<=15):ybi (yku back g a b w)/\(yku back g a b w).ids=g.ids/\(yku back g a b w).ports.length=g.ports.length:=by
 unfold yku
 by_cases h:a=b\/yot (g.ports.getD a []) b=true
 .rw[if_pos h];exact⟨c,rfl,rfl⟩
 .rw[if_neg h];refine⟨ybgf c d f (fun e=>h (.inl e)) j fun l i e=>h (.inr (List.any_eq_true.2 ⟨l,i,decide_eq_true e⟩)),rfl,by simp[ycy]⟩
theorem ychd{back:Bool}{g:Gr}{a b:Nat}{w:Int}(c:a<g.ports.length)(d:b<g.ports.length){m:Nat}(h:Tre g m):Tre (yku back g a b w) m:=by
 unfold yku;split
 .exact h
 .exact h.add c d
theorem ybxy{back:Bool}{g:Gr}{a b:Nat}{w:Int}(d:a<g.ports.length)(f:b<g.ports.length)(c:a≠b):adj (yku back g a b w) a b:=by
 unfold yku;split
 .rename_i h
  rcases h with h|h
  .exact absurd h c
  .obtain⟨l,i,e⟩:=List.any_eq_true.1 h;exact ypb.2 ⟨l,i,of_decide_eq_true e⟩
 .exact ybmk d f c
theorem ybnl:∀(l:List Nat) (i x:Nat) (h:i<l.length),(l.set i x).sum+l[i]=l.sum+x
 |a::l,0,x,_=>by simp;omega
 | a::l,i+1,x,h=>by
   have:=ybnl l i x (by simpa using h)
   simp only[List.set_cons_succ,List.sum_cons,List.getElem_cons_succ];omega
theorem ybse{back:Bool}{g:Gr}{a b:Nat}{w:Int}(e:a<g.ports.length)(f:b<g.ports.length)(c:a≠b):yod (ycy back g a b w)=yod g+2:=by
 unfold yod ycy;simp only[List.map_set,Sh.yci];have h:=ybnl (g.ports.map zCJ) a ((g.ports.getD a []).length+1) (by simpa using e)
 have i:=ybnl ((g.ports.map zCJ).set a ((g.ports.getD a []).length+1)) b ((g.ports.getD b []).length+1) (by simpa using f)
 rw[List.getElem_set_ne c,zAU,<-Sh.getD_at f (d:=[])]at i;rw[zAU,<-Sh.getD_at e (d:=[])]at h;omega
def WtF(x:NetR)(g:Gr):Prop:=∀v l,l∈g.ports.getD v []->∃i,l.2=1+yeb (atP x.weights i) 15
theorem yclb{x:NetR}{back:Bool}{g:Gr}{a b:Nat}{w:Int}(e:a<g.ports.length)(f:b<g.ports.length)(d:∃i,w=1+yeb (atP x.weights i) 15)(h:WtF x g):WtF x (yku back g a b w):=by
 unfold yku;split
 .exact h
 .intro v l c;rw[yew back g w e f]at c;split at c
  .rcases yfi.1 c with rfl|c
   .exact d
   .exact h _ _ c
  .split at c
   .rcases yfi.1 c with rfl|c
    .exact d
    .exact h _ _ c
   .exact h _ _ c
structure TreeTo(x:NetR)(v:Nat)(g:Gr):Prop where
 tre:Tre g v
 wt:WtF x g
 none_:∀u,v<=u->g.ports.getD u []=[]
 count:yod g+2=2*v
theorem yrg(ids:List Int)(v:Nat):(bare ids).ports.getD v []=[]:=by
 unfold bare;rw[zN,zBP];split<;>rfl
theorem TreeTo.zero(x:NetR)(ids:List Int):TreeTo x 1 (bare ids):=by
 refine⟨fun v b c=>by omega,fun v l a=>?_,fun u _=>yrg ids u,?_⟩
 .rw[yrg]at a;exact absurd a zAE
 .have:yod (bare ids)=0:=by
   unfold yod bare;simp
  omega
theorem TreeTo.succ{x:NetR}{v:Nat}{g:Gr}(n:ybi g)(h:TreeTo x v g)(f:v<g.ports.length)(s:1<=v){a:Nat}(m:a<v){w:Int}(r:∃i,w=1+yeb (atP x.weights i) 15):TreeTo x (v+1) (yku x.back g a v w):=by
 have c:=ybxy (back:=x.back) (g:=g) (a:=a) (b:=v) (w:=w) (by omega) (by omega) (by omega)
 have j:¬(a=v\/yot (g.ports.getD a []) v=true):=by
  rintro(e|e)
  .omega
  .obtain⟨l,o,e⟩:=List.any_eq_true.1 e;have e:=of_decide_eq_true e;have:adj g v a:=n.adj_symm (ypb.2 ⟨l,o,e⟩);obtain⟨t,d,_⟩:=ypb.1 this;rw[h.none_ v (zJ _)]at d;exact absurd d zAE
 have e:yku x.back g a v w=ycy x.back g a v w:=by unfold yku;rw[if_neg j]
 refine⟨fun u k p=>?_,yclb (by omega) f r h.wt,fun u p=>?_,?_⟩
 .by_cases q:u=v
  .subst q;exact⟨a,m,c⟩
  .exact ychd (by omega) f h.tre u k (by omega)
 .rw[e,yew x.back g w (by omega) f,if_neg (by omega),if_neg (by omega)]
  exact h.none_ u (by omega)
 .rw[e,ybse (by omega) f (by omega)]
  have:=h.count;omega
namespace Sh
open Ev Go.RowKit
theorem yclw{n:Nat}{P:List (List (Int×Int))}{f:SV->SV}(a:∀k z,f (.i k z) = .i k z){i:Nat}(c:i<n):(match (if i<n then some (rowO (P.getD i []))else none)with|some b=>some (⟨b.e,b.bx,b.z,b.n,fun k=>(b.g k).map f⟩:OB)|none=>none)=some (rowO (P.getD i [])):=by
 rw[if_pos c];simp[rowO,a]
theorem ydhm{x:NetR}(T:x.ok){most:Nat}(hm:1<=most/\most<=24) :
 Cm zH 10 [] [] [.ag (netC x),.i .i64 most] fun r o=>∃g,ybi g/\TreeTo x g.ports.length g/\(g.ports.length<=most/\(g.ports.length:Int)=1+yeb (IntKind.wrap .i64 (x.n-1)) most/\ybfz x g.ids)/\r=yww g/\o=yhn g.ports:=by
 refine ydjh [] [47,48] _ _ _ ?_;have R:=ycky T hm;obtain⟨a1,O,P,a2⟩:=T;simp only[netC]at R;simp only[c10,ydrm,ydxb,netC,go_sem,zA,zB,zD,↓reduceIte,reduceCtorEq];refine yeu R [(17,117)] 0 [2,4] [2,4] ?_ ?_
 .simp only[to1,okN,ycl,yfm,yer,ydy,wk,go_sem,zA,zB,zAA,↓reduceIte,reduceCtorEq]
 rintro r o' ⟨c,Q,X,Y,rfl,rfl⟩;obtain⟨n,J⟩:∃n,c.length=n:=⟨_,rfl⟩;rw[J]at Q;simp only[J,yow,yln,nuF,nu,difN,yer,ydy,Fam.ren,OB.ren,dim,ydna,ycwm,yjx,go_sem,zA,zB,zD,zAA,↓reduceIte];simp only[ydto,go_sem]
 refine ybd (σ:=Nat×Gr) (fun q=>⟨[(6,.i .i64 q.1),(5,.pt (5,0) 0 0),(2,.pt (2,0) 0 0),(4,.pt (4,0) 0 0)],
  (5,.one (some ⟨27,true,2,1,fun _=>[ybb q.2.ids,.os (211,0) 0 n true]⟩))::(2,.one (some ⟨24,true,6,1,fun _=>netC x⟩))::(4,.one (some ⟨27,true,2,1,fun _=>[.a (.slice none 0 0),.a (.slice none 0 0)]⟩))::yhn q.2.ports⟩)
  (fun q=>ybi q.2/\q.2.ports.length=n/\TreeTo x q.1 q.2/\1<=q.1/\q.1<=n/\q.2.ids=c) (fun q=>n-q.1) (1,bare c) ⟨ycig (by omega) (by omega) X Y,by simp[bare,J],TreeTo.zero x c,by omega,by omega,rfl⟩ ?_ ?_
 .refine ybw [(211,fun i=>(117,i))] [212] [] ?_;have U:(bare c).ids=c:=rfl;have V:(bare c).ports.length=n:=by simp[bare,J]
  have W:∀v,(bare c).ports.getD v []=[]:=yrg c;simp only[netC,yhn,rowO,U,V,W,List.length_nil,wk,go_sem,zA,zD,zAA,↓reduceIte,reduceCtorEq];refine⟨rfl,fun i d=>⟨(212,i),rfl,rfl,by simp[d]⟩,fun i b p=>?_⟩
  obtain⟨_,rfl⟩:=yko p;exact⟨rfl,rfl⟩
 .rintro⟨v,g⟩ ⟨z,h,s,y,I,E⟩;have z:ybi g:=z;have h:g.ports.length=n:=h;have s:TreeTo x v g:=s;have y:1<=v:=y;have I:v<=n:=I
  by_cases a0:v<n
  .have N:decide ((v:Int)<(n:Int))=true:=decide_eq_true (by omega)
   have H:(v:Int)-1=((v-1:Nat):Int):=by omega
   have K:=at_ret x.links (v-1);have L:=at_ret x.weights (v-1);have F:=ynj (v:=atP x.links (v-1)) (m:=(v:Int)) (by omega)
   have M:=ynj (v:=atP x.weights (v-1)) (m:=15) (by omega)
   have C:=ynl (atP x.links (v-1)) v (by omega) (O _)
   have D:=ynl (atP x.weights (v-1)) 15 (by omega) (P _)
   obtain⟨a,ha⟩:∃a:Nat,yeb (atP x.links (v-1)) v=a:=zM F.1;obtain⟨w,S⟩:∃w:Int,yeb (atP x.weights (v-1)) 15=w:=⟨_,rfl⟩;rw[ha]at C F;rw[S]at D M;have hL:=ydgj (x:=x) (g:=g) (a:=a) (b:=v) (w:=1+w) (by omega) (by omega) (by omega) (fun u=>by have:=z.deg_lt (v:=u);omega)
   simp only[ydjn,ydvj,ydte,netC,yhn,N,H,clash,go_sem,zA,zB,zI,zAA,↓reduceIte,reduceCtorEq];refine⟨ikw (by omega) (by omega),K.use ?_⟩
   simp only[ybj,clash,go_sem,zA,zB,zI,zAA,↓reduceIte,reduceCtorEq];refine C.use ?_;simp only[H,go_sem];refine⟨ikw (by omega) (by omega),L.use ?_⟩
   simp only[go_sem,↓reduceIte];refine D.use ?_;simp only[go_sem,zA,zAA,↓reduceIte];refine⟨ikw (by omega) (by omega),yeu hL [(211,211),(212,212)] 0 [2,4,5,6] [2,4,5] ?_ ?_⟩
   .simp only[netC,yww,yhn,h,to1,okN,ycl,yfm,yer,ydy,wk,go_sem,zA,zB,zD,zAA,↓reduceIte,reduceCtorEq];refine⟨⟨fun i _ j _ e=>e,fun i d=>by rw[if_pos d],fun i b p=>?_⟩,by decide⟩
    obtain⟨d,rfl⟩:=yko p;exact⟨_,if_pos d,⟨rfl,rfl,rfl,rfl⟩,fun e=>absurd (show false=true from e) zAK,fun k hk=>by simp only[rowO,wk,go_sem,reduceCtorEq]⟩
   .rintro r o' ⟨rfl,rfl⟩;simp only[yhn,yow,yln,nuF,nu,difN,yer,ydy,Fam.ren,OB.ren,dim,yqh,yjx,go_sem,zA,zB,zAA,↓reduceIte,reduceCtorEq];obtain⟨A,t,l⟩:=ybsp (back:=x.back) (a:=a) (b:=v) (w:=1+w) z (by omega) (by omega) (by omega)
    have B:=s.succ z (by omega) y (a:=a) (by omega) (w:=1+w) ⟨v-1,by rw[S]⟩
    obtain⟨G,Z⟩:∃G,yku x.back g a v (1+w)=G:=⟨_,rfl⟩;rw[Z]at A t l B ⊢;rw[h]at l;refine⟨ikw (by omega) (by omega),yh (v+1,G) ⟨A,l,B,by omega,by omega,t.trans E⟩ (by show n-(v+1)<n-v;omega) ?_⟩
    .refine yu ?_;simp only[l,t,wk,go_sem,zA,zD,↓reduceIte,reduceCtorEq];refine⟨fun i _ j _ e=>e,by omega,fun i d=>by rw[if_pos d],fun i b p=>?_⟩
     obtain⟨d,rfl⟩:=yko p;refine⟨_,yclw (f:=ren (nu [(211,211),(212,212)] 0) 5) (fun _ _=>rfl) d,⟨rfl,rfl,rfl,rfl⟩,fun e=>absurd (show false=true from e) zAK,fun k hk=>?_⟩
     simp only[rowO,wk,go_sem,reduceCtorEq]
  .obtain rfl:v=n:=by omega
   have N:decide ((v:Int)<(v:Int))=false:=decide_eq_false (by omega)
   simp only[ydjn,ydza,netC,yhn,N,clash,splice,yhi,go_sem,zA,zB,↓reduceIte,reduceCtorEq];refine⟨yww g,yhn g.ports,?_,?_,g,z,by rw[h];exact s,⟨by omega,by omega,by rw[show g.ids=c from E];exact Q.2.2.2⟩,rfl,rfl⟩
   .refine yu ?_;simp only[yhn,yww,h,wk,go_sem,zA,zD,↓reduceIte,reduceCtorEq];refine⟨fun i _ j _ e=>e,fun i d=>by rw[if_pos d],fun i b p=>?_⟩
    obtain⟨d,rfl⟩:=yko p;exact⟨_,if_pos d,⟨rfl,rfl,rfl,rfl⟩,fun e=>absurd (show false=true from e) zAK,fun k hk=>by simp only[rowO,wk,go_sem,reduceCtorEq]⟩
   .simp only[yhn,yww,ycl,yfm,wk,go_sem,zA,↓reduceIte];refine⟨fun i d=>by rw[if_pos d],fun i b p k hk=>?_⟩
    obtain⟨d,rfl⟩:=yko p;simp only[rowO,go_sem]
end Sh
end
section
namespace Sh
open Ev Go.RowKit
end Sh
end
section
structure Tgt(S:Sys)(V:Conf->Prop)(T:Conf->Nat->List Int):Prop where
 valid:∀c s,V c->s≠0->subB s (S.en c)->V (S.mv c s)
 stay:∀c s v,V c->v<S.n->s.testBit v=false->(S.mv c s).getD v []=c.getD v []
 move:∀c s v,V c->v<S.n->s.testBit v=true->subB s (S.en c)->(S.mv c s).getD v []=T c v
 en:∀c v,V c->v<S.n->((S.en c).testBit v=false↔c.getD v []=T c v)
theorem Tgt.rounds{S:Sys}{V:Conf->Prop}{T:Conf->Nat->List Int}(h:Tgt S V T){P:Nat->Nat->List Int->Prop}(hT:∀c v r,V c->v<S.n->(∀u,u<S.n->P r u (c.getD u []))->P (r+1) v (T c v))(hl:∀r v s,P (r+1) v s->P r v s):ByRounds S V P where
 valid:=h.valid
 stay:=h.stay
 move:=fun c s v r hv hn hb hs hall=>by rw[h.move c s v hv hn hb hs];exact hT c v r hv hn hall
 rest:=fun c v r hv hn hb hall=>by rw[(h.en c v hv hn).1 hb];exact hT c v r hv hn hall
 less:=hl
theorem Tgt.silent{S:Sys}{V:Conf->Prop}{T:Conf->Nat->List Int}(h:Tgt S V T){P:Nat->Nat->List Int->Prop}(e:∀c v r,V c->v<S.n->(∀u,u<S.n->P r u (c.getD u []))->P (r+1) v (T c v)){c:Conf}(b:V c)(d:∀v,v<S.n->P 0 v (c.getD v []))(f:S.en c=0):∀r v,v<S.n->P r v (c.getD v [])
 |0,v,a=>d v a
 | r+1,v,a=>by
   rw[(h.en c v b a).1 (by rw[f];simp)]
   exact e c v r b a (Tgt.silent h e b d f r)
theorem Tgt.en_zero{S:Sys}{V:Conf->Prop}{T:Conf->Nat->List Int}(h:Tgt S V T){c:Conf}(e:V c)(a:S.en c<2^S.n)(d:∀v,v<S.n->c.getD v []=T c v):S.en c=0:=by
 rw[ylc];intro i
 by_cases b:i<S.n
 .exact(h.en c i e b).2 (d i b)
 .exact zBR (zAH a (zBU (by omega) (by omega)))
end
section
open Go.RowKit
theorem ybiq(f:Value)(D:List Int)(w:World)(d:yof w f D) :
 Calls zH 141 #[f] w fun e j=>e = .returned (.int .i64 (ycr D))/\w=j:=by
 obtain⟨A,c,rfl,g,h⟩:=ycc d;have Hd:=zC d
 clear d
 go_enter Tryz.func141,Tryz.ntmps141
 go_wp2
 go_loopg [3,8] D.length (fun q m t wr=>∃k:Nat,q+k=D.length/\t = .int .i64 k/\wr=w/\m = .int .i64 (ycr (D.take k)))
 case atStart=>exact⟨0,by omega,rfl,rfl,by simp[ycr]⟩
 case round =>
  obtain⟨k,o,rfl,rfl,rfl⟩:=hrel
  by_cases a:k<D.length
  .obtain⟨b,i,rfl,l,n,p⟩:=ymn Hd.out a;have Hs:=zC (yxy D k a)
   go_wp2
   all_goals
    go_roundg (gk-1)
    case measure=>omega
    case rel=>exact⟨k+1,by omega,by go_num,rfl,by rw[Hs.out];try (congr 1;omega)⟩
  .obtain rfl:k=D.length:=by omega
   go_wp2
   go_ret
   exact⟨ywg (by rw[zBM]),rfl⟩
theorem yfx(gv:Value)(g:Gr)(w:World)(z:GrAt w gv g) :
 Calls zH 121 #[gv] w fun e L=>e = .returned (.bool (yeo g))/\Below w.heap.size w L:=by
 have l:=zC z;obtain⟨i,p,rfl,F,I⟩:=z
 clear F I
 cases u:yjr g with
 | false =>
   have Hf:=zC (show yeo g=false by unfold yeo;rw[u];rfl)
   go_enter zCC,zCX
   go_wp2_with fail
   refine(yxp _ g _ (l.out.below ((Below.refl _ _).alloc (zJ _) _))).mono ?_;rintro e M ⟨rfl,f⟩
   go_wp2_with fail
   go_ret
   exact⟨ybv Hf.out.symm,ywi f⟩
 | true =>
   have d:=(yhw g).1 u;have H:=d.1;have B:=d.2.1;have Hgood:=zC d;have C:=zC (yhg d (a:=0) (by omega))
   have Hc:=zC (show yeo g=(ybs g 0).all (fun x=>decide (0<=x))by unfold yeo;rw[u];rfl)
   clear d
   go_enter zCC,zCX
   go_wp2_with fail
   refine(yxp _ g _ (l.out.below ((Below.refl _ _).alloc (zJ _) _))).mono ?_;rintro e M ⟨rfl,f⟩;obtain⟨S,T⟩:=ycpj f;have Hb1:=zC (ywi f)
   clear f
   go_wp2_with fail
   refine(yzv _ g 0 _ (l.out.below Hb1.out) Hgood.out (by omega)).mono ?_
   rintro e N ⟨v,rfl,n,o⟩;have Hb2:=zC (Hb1.out.trans (o.mono Hb1.out.size));obtain⟨A,c,rfl,s,E⟩:=ycc n;have Hv2:=zC n
   clear o n
   obtain⟨D,y⟩:∃D,ybs g 0=D:=⟨_,rfl⟩;rw[y]at Hv2 C s Hc ⊢
   clear y
   go_wp2
   go_loopg [11] D.length (fun q t wr=>∃k:Nat,q+k=D.length/\t = .int .i64 k/\wr=N/\Hid (∀j (m:j<D.length),j<k->0<=D[j]))
   case atStart=>exact⟨0,by omega,rfl,rfl,zC (fun j _ m=>absurd m (by omega))⟩
   case round =>
    obtain⟨k,Q,rfl,rfl,h⟩:=hrel
    by_cases r:k<D.length
    .obtain⟨b,K,rfl,O,P,R⟩:=ymn Hv2.out r
     by_cases c1:D[k]<0
     .have Hf:=zC (show yeo g=false by
       rw[Hc.out,zCI];exact⟨D[k],zL r,by simp;omega⟩)
      go_wp2
      go_ret
      exact⟨ybv Hf.out.symm,Hb2.out⟩
     .go_wp2
      go_roundg (gk-1)
      case measure=>omega
      case rel =>
       refine⟨k+1,by omega,by go_num,rfl,zC (fun j m G=>?_)⟩
       by_cases e:j=k
       .subst e;omega
       .exact h.out j m (by omega)
    .obtain rfl:k=D.length:=by omega
     have Ht:=zC (show yeo g=true by
      rw[Hc.out,zCM];intro x J;obtain⟨j,m,rfl⟩:=List.mem_iff_getElem.1 J;exact decide_eq_true (h.out j m m))
     go_wp2
     go_ret
     exact⟨ybv Ht.out.symm,Hb2.out⟩
theorem yuz{g:Gr}(h:yeo g=true):yjr g=true:=(zG _ _▸h).1
theorem yty(gv:Value)(g:Gr)(v:Int)(w:World)(j:GrAt w gv g) :
 Calls zH 87 #[gv,.int .i64 v] w fun e r=>e = .returned (.int .i64 (eccP g v))/\Below w.heap.size w r:=by
 have b:=zC j;obtain⟨i,p,rfl,n,k⟩:=j;obtain⟨s,c2,rfl,l,m⟩:=ycc k
 clear n k
 cases f:yeo g with
 | false =>
   have Hf:=zC (show eccP g v = -1 by unfold eccP;rw[f];simp)
   go_enter zBD,zBO
   go_wp2_with fail
   refine(yfx _ g _ (b.out.below ((Below.refl _ _).alloc (zJ _) _))).mono ?_;rintro e h ⟨rfl,a⟩
   go_wp2_with fail
   go_ret
   exact⟨ywg Hf.out.symm,ywi a⟩
 | true =>
   have Hgood:=zC ((yhw g).1 (yuz f))
   by_cases c1:v<0
   .have Hf:=zC (show eccP g v = -1 by unfold eccP;rw[if_neg];omega)
    go_enter zBD,zBO
    go_wp2_with fail
    refine(yfx _ g _ (b.out.below ((Below.refl _ _).alloc (zJ _) _))).mono ?_;rintro e h ⟨rfl,a⟩
    go_wp2_with fail
    go_ret
    exact⟨ywg Hf.out.symm,ywi a⟩
   .by_cases c2:v<g.ports.length
    .obtain⟨u,rfl⟩:=zM (show 0<=v by omega)
     have Hf:=zC (show eccP g u=ycr (ybs g u)by unfold eccP;rw[if_pos ⟨f,by omega,c2⟩];rfl)
     have c3:u<g.ports.length:=by omega
     have c4:decide ((g.ports.length:Int)<=(u:Int))=false:=by simp;omega
     have c5:decide (g.ports.length<=u)=false:=by simp;omega
     go_enter zBD,zBO
     go_wp2_with fail
     refine(yfx _ g _ (b.out.below ((Below.refl _ _).alloc (zJ _) _))).mono ?_;rintro e h ⟨rfl,a⟩;obtain⟨o,q⟩:=ycpj a;have Hb1:=zC (ywi a)
     clear a
     go_wp2_with fail
     refine(yzv _ g u _ (b.out.below Hb1.out) Hgood.out c3).mono ?_;rintro e t ⟨x,rfl,d,c⟩;have Hb2:=zC (Hb1.out.trans (c.mono Hb1.out.size));have Hv2:=zC d
     clear c d
     go_wp2_with fail
     refine(ybiq _ _ _ Hv2.out).mono ?_;rintro e y ⟨rfl,rfl⟩
     go_wp2_with fail
     go_ret
     exact⟨ywg Hf.out.symm,Hb2.out⟩
    .have Hf:=zC (show eccP g v = -1 by unfold eccP;rw[if_neg];omega)
     have c4:decide ((g.ports.length:Int)<=v)=true:=by simp;omega
     go_enter zBD,zBO
     go_wp2_with fail
     refine(yfx _ g _ (b.out.below ((Below.refl _ _).alloc (zJ _) _))).mono ?_;rintro e h ⟨rfl,a⟩;obtain⟨o,q⟩:=ycpj a
     go_wp2_with fail
     go_ret
     exact⟨ywg Hf.out.symm,ywi a⟩
end
section
open Go.RowKit
theorem ynx(g:Gr)(G:List Int)(v:Nat):(yfl g G v).length=G.length:=by simp[yfl]
set_option maxHeartbeats 2000000 in
theorem yrr(gv cv Gv:Value)(g:Gr)(c:Conf)(G:List Int)(w:World)(hg:GrAt w gv g)(J:yctj w cv c)(Y:yof w Gv G)(a:ybi g) :
 Calls zH 89 #[gv,cv,Gv] w fun e w'=>e = .returned (.bool (yyt g.ports.length (yfl g G) c))/\Below w.heap.size w w':=by
 have a7:=a.2.1;have hid:=a.2.2.1;have a5:=zC hid
 clear a
 obtain⟨i,p,rfl,hi,hp⟩:=hg;obtain⟨A,c0,rfl,b4,b8⟩:=ycc hi;obtain⟨A2,c2,rfl,b9,c6⟩:=ycc hp;obtain⟨A3,c3,rfl,c7,c9⟩:=ycc J;obtain⟨A4,c4,rfl,d0,d1⟩:=ycc Y;have Hp:=zC hp;have Hc:=zC J;have HG:=zC Y
 clear hi hp J Y
 by_cases Q:c.length=g.ids.length
 .have a4:((c.length:Int)!=(g.ids.length:Int))=false:=by simp[Q]
  have Hn:=zC (Q.trans hid);have d8:c.length<=24:=by omega
  clear Q hid
  go_enter zCK,zCZ
  go_wp2
  obtain⟨W1,k⟩:∃W,W=w.alloc (.cells #[.slice A g.ids.length c0,.slice A2 g.ports.length c2] 27):=⟨_,rfl⟩;have a6:W1.cell? ⟨w.heap.size,1,none⟩=some (.slice A2 g.ports.length c2):=by subst k;simp
  have HbW:=zC (show Below w.heap.size w W1 by subst k;exact(Below.refl _ _).alloc (zJ _) _)
  rw[<-k]
  clear k
  go_loopg [21] c.length (fun q t wr=>∃v n:Nat,q+v=c.length/\t = .int .i64 v/\wr=W1.drewN n/\Hid (∀(u:Nat) s,u<v->c[u]?=some s->yji (yfl g G u) s))
  case atStart=>exact⟨0,0,by omega,rfl,rfl,zC (fun u s hu=>absurd hu (by omega))⟩
  case round =>
   obtain⟨v,n,hq,rfl,rfl,L⟩:=hrel
   by_cases B:v<c.length
   .obtain⟨b3,b2,sv,rfl,d4,a2,C⟩:=ypv (Hc.out.below (Stable.sl Stable.int) HbW.out) (zF B);obtain⟨A5,c5,rfl,V,d2⟩:=ycc C;obtain⟨s,E⟩:∃s,c[v]=s:=⟨_,rfl⟩;have Hs?:=zC (show c[v]?=some s by rw[zF B,E])
    rw[E]at C a2 V;have Hbad:=zC (show ¬yji (yfl g G v) s->yyt g.ports.length (yfl g G) c=false from fun h=>yxn (fun J=>h (J.2 v s Hs?.out)))
    have Hs:=zC C
    clear C E
    by_cases c1:s.length=G.length
    .have R:((s.length:Int)!=(G.length:Int))=false:=by simp[c1]
     have Hsl:=zC c1
     clear c1
     have O:v<g.ports.length:=by rw[<-Hn.out];exact B
     go_wp2
     obtain⟨U,rfl⟩:∃U,U=gk:=⟨_,rfl⟩
     go_loopg [33] s.length (fun q t wr=>∃x n:Nat,q+x=s.length/\t = .int .i64 x/\wr=W1.drewN n/\Hid (∀(j:Nat) b z,j<x->(yfl g G v)[j]?=some b->s[j]?=some z->b.1<=z/\z<=b.2))
     case atStart=>exact⟨0,n,by omega,rfl,rfl,zC (fun j b z hj=>absurd hj (by omega))⟩
     case round =>
      obtain⟨x,n,d9,rfl,rfl,F⟩:=hrel
      by_cases H:x<s.length
      .have P:x<G.length:=by rw[<-Hsl.out];exact H
       obtain⟨b5,o5,rfl,d5,Z,M⟩:=ymn (Hs.out) H;obtain⟨b6,o6,rfl,d6,a0,N⟩:=ymn (HG.out.below Stable.int HbW.out) P;obtain⟨b7,o7,lv,rfl,d7,a1,K⟩:=ypv (Hp.out.below (Stable.sl Stable.link) HbW.out) (zF O);obtain⟨A8,c8,rfl,X,d3⟩:=ycc K;obtain⟨I,o⟩:∃I,g.ports[v]=I:=⟨_,rfl⟩;have m:ycmz g v=I.length:=by simp[ycmz,zK,zF O,o]
       rw[o]at a1 X;obtain⟨y,hy⟩:∃y,s[x]=y:=⟨_,rfl⟩;obtain⟨h,hh⟩:∃h,G[x]=h:=⟨_,rfl⟩;have Hy?:=zC (show s[x]?=some y by rw[zF H,hy])
       have d:(yfl g G v)[x]?=some (if h = -1 then(-1,(I.length:Int)-1)else(0,h)):=by
        simp[yfl,P,hh,m]
       rw[hy]at Z M;rw[hh]at a0 N;obtain⟨a8,a9⟩:=M;obtain⟨b0,b1⟩:=N
       clear K o m hy hh
       by_cases c2:h = -1
       .have S:(h == -1)=true:=by simp[c2]
        rw[if_pos c2]at d;have Hb?:=zC d
        clear d c2
        by_cases c3:y < -1
        .have Hf:=zC (Hbad.out (fun h=>by have:=h.2 x _ y Hb?.out Hy?.out;simp only at this;omega))
         go_wp2
         go_quiet (fail)
         go_wp2
         go_quiet (fail)
         go_wp2
         go_ret
         exact⟨ybv Hf.out.symm,below_drewN HbW.out _⟩
        .by_cases c4:(I.length:Int)-1<y
         .have Hf:=zC (Hbad.out (fun h=>by have:=h.2 x _ y Hb?.out Hy?.out;simp only at this;omega))
          go_wp2
          go_quiet (fail)
          go_wp2
          go_quiet (fail)
          go_wp2
          go_ret
          exact⟨ybv Hf.out.symm,below_drewN HbW.out _⟩
         .have T:decide ((I.length:Int)-1<y)=false:=by simp;omega
          go_wp2
          go_quiet (fail)
          go_wp2
          go_quiet (fail)
          go_wp2
          go_roundg (gk-1)
          case measure=>omega
          case rel =>
           refine⟨x+1,_,by omega,by go_num,rfl,zC (fun j b z hj l f=>?_)⟩
           by_cases r:j<x
           .exact F.out j b z r l f
           .obtain rfl:j=x:=by omega
            rw[Hb?.out]at l;rw[Hy?.out]at f;cases l
            cases f
            simp only;omega
       .have S:(h == -1)=false:=by simp[c2]
        rw[if_neg c2]at d;have Hb?:=zC d
        clear d c2
        by_cases c3:y<0
        .have Hf:=zC (Hbad.out (fun h=>by have:=h.2 x _ y Hb?.out Hy?.out;simp only at this;omega))
         go_wp2
         go_quiet (fail)
         go_wp2
         go_ret
         exact⟨ybv Hf.out.symm,below_drewN HbW.out _⟩
        .by_cases c4:h<y
         .have Hf:=zC (Hbad.out (fun h=>by have:=h.2 x _ y Hb?.out Hy?.out;simp only at this;omega))
          go_wp2
          go_quiet (fail)
          go_wp2
          go_ret
          exact⟨ybv Hf.out.symm,below_drewN HbW.out _⟩
         .have T:decide (h<y)=false:=by simp;omega
          go_wp2
          go_quiet (fail)
          go_wp2
          go_roundg (gk-1)
          case measure=>omega
          case rel =>
           refine⟨x+1,_,by omega,by go_num,rfl,zC (fun j b z hj l f=>?_)⟩
           by_cases r:j<x
           .exact F.out j b z r l f
           .obtain rfl:j=x:=by omega
            rw[Hb?.out]at l;rw[Hy?.out]at f;cases l
            cases f
            simp only;omega
      .obtain rfl:x=s.length:=by omega
       go_wp2
       go_roundg (U-1)
       case measure=>omega
       case rel =>
        refine⟨v+1,_,by omega,by go_num,rfl,zC (fun u s' hu D=>?_)⟩
        by_cases a3:u<v
        .exact L.out u s' a3 D
        .obtain rfl:u=v:=by omega
         rw[Hs?.out]at D;cases D
         refine⟨by rw[ynx,Hsl.out],fun j b z l f=>F.out j b z (List.getElem?_eq_some_iff.1 f).1 l f⟩
    .have R:((s.length:Int)!=(G.length:Int))=true:=by simp;omega
     have Hf:=zC (Hbad.out (fun h=>c1 (by rw[h.1,ynx])))
     clear c1
     go_wp2
     go_ret
     exact⟨ybv Hf.out.symm,below_drewN HbW.out _⟩
   .obtain rfl:v=c.length:=by omega
    have Ht:=zC (ybuh (n:=g.ports.length) (bs:=yfl g G) (c:=c) ⟨Hn.out,fun v s C=>L.out v s (List.getElem?_eq_some_iff.1 C).1 C⟩)
    go_wp2
    go_ret
    exact⟨ybv Ht.out.symm,below_drewN HbW.out _⟩
 .have a4:((c.length:Int)!=(g.ids.length:Int))=true:=by simp;omega
  have Hf:=zC (yxn (n:=g.ports.length) (bs:=yfl g G) (c:=c) (fun h=>Q (h.1.trans hid.symm)))
  clear Q hid
  go_enter zCK,zCZ
  go_wp2
  go_ret
  exact⟨ybv Hf.out.symm,(Below.refl _ _).alloc (zJ _) _⟩
end
section
open Go.RowKit
def ymt(g:Gr)(c:Conf):Bool:=yeo g&&yyt g.ports.length (yfl g [(g.ports.length:Int),-1]) c
def yen(g:Gr)(c:Conf):Bool:=ymt g c&&c.zipIdx.all (fun p=>ytn g (ybs g 0) p.2 p.1)
theorem ybfj{c:Conf}{f:List Int->Nat->Bool}{v:Nat}{s:List Int}(a:c[v]?=some s)(h:f s v=false):c.zipIdx.all (fun p=>f p.1 p.2)=false:=by
 rw[zCI];exact⟨(s,v),List.mem_zipIdx_iff_getElem?.2 a,by simp[h]⟩
theorem ybod{c:Conf}{f:List Int->Nat->Bool}(h:∀(v:Nat) s,c[v]?=some s->f s v=true):c.zipIdx.all (fun p=>f p.1 p.2)=true:=by
 rw[zCM];rintro⟨s,v⟩ a;exact h v s (List.mem_zipIdx_iff_getElem?.1 a)
theorem yqg(g:Gr)(v:Int):-1<=eccP g v/\eccP g v<=1000:=by
 unfold eccP;split
 .rename_i h
  have b:=(yhw g).1 (yuz h.1);refine⟨ybem _,ybey _ _ (by omega) (fun x c=>?_)⟩
  have:=(yek b (a:=v.toNat) (by omega)).bound b (by omega) x c
  omega
 .omega
end
section
abbrev eNum(k:Int):Ex:=.leaf 1 k
abbrev ycbn:Ex:=.leaf 4 0
abbrev eVar(k:Int):Ex:=.leaf 5 k
abbrev eN:Ex:=.leaf 6 0
abbrev ycae:Ex:=.leaf 10 0
abbrev eQ(k:Int):Ex:=.leaf 12 k
def yvu:Ex:=.agg 24 (eQ 0)
def ybbi:Ex:=.ite (.bin 37 yvu eN) (.bin 33 yvu (eNum 1)) eN
def ybab:Ex:=.agg 23 (.bin 35 (eQ 0) yvu)
def ycrh:Ex:=.bin 41 ycae (.bin 42 (.bin 36 (eVar 0) (eNum 0)) (.bin 36 (eVar 1) ycbn))
def ycyk:Ex:=.bin 41 (.un 19 ycae) (.bin 42 (.bin 36 (eVar 0) ybbi) (.bin 36 (eVar 1) ybab))
def ycg(nm d p t l:ByteArray):ProgT:=⟨nm,[⟨d,1,0,0,1,0⟩,⟨p,3,0,0,0,0⟩],[⟨t,ycrh,[(0,eNum 0),(1,ycbn)]⟩,⟨l,ycyk,[(0,ybbi),(1,ybab)]⟩]⟩
theorem ytq(l:List Int):∀a:Int,l.foldl min a<=a/\(∀x∈l,l.foldl min a<=x)/\∀b:Int,b<=a->(∀x∈l,b<=x)->b<=l.foldl min a:=by
 induction l with
 |nil=>intro a;exact⟨Int.le_refl _,fun x d=>(zAE d).elim,fun b f _=>f⟩
 | cons y l j =>
   intro a;obtain⟨k,h,i⟩:=j (min a y);refine⟨by simp only[zCQ];omega,fun x d=>?_,fun b f d=>?_⟩
   .rcases List.mem_cons.1 d with rfl|d
    .simp only[zCQ];omega
    .exact h x d
   .have:=d y zAC;exact i b (by omega) fun x e=>d x (zW _ e)
theorem ylj{l:List Int}{x:Int}(h:x∈l):ydz l<=x:=(ytq l 1073741824).2.1 x h
theorem ykg{l:List Int}{b:Int}(a:b<=1073741824)(h:∀x∈l,b<=x):b<=ydz l:=(ytq l 1073741824).2.2 b a h
theorem ybfo{b:Type}(g:Gr)(v:Nat)(f:Int×Int->b)(h:Nat->b)(e:∀q,q<(g.ports.getD v []).length->h q=f ((g.ports.getD v []).getD q (0,0))):(zDC (g.ports.getD v []).length).map h=(g.ports.getD v []).map f:=by
 refine zCL (by simp) fun i d j=>?_
 have a:i<(g.ports.getD v []).length:=by simpa using d
 rw[zAU,List.getElem_range,zAU,e i a];congr 1;rw[zN,zF a];rfl
theorem ybdb(f:Int×Int->Bool)(ls:List (Int×Int)):yfe (ls.map fun l=>ydc (f l))=yjk f ls:=by
 unfold yfe yjk
 have:((fun x:Int=>x != 0) ∘ fun l=>ydc (f l))=f:=by
  funext l
  show(ydc (f l)!=0)=f l;unfold ydc;cases f l<;>rfl
 rw[List.findIdx?_map,this]
 all_goals (cases List.findIdx? f ls<;>rfl)
def endP(c:Conf)(k:Nat)(l:Int×Int):Int:=(c.getD l.1.toNat []).getD k 0
def bfsM(g:Gr)(c:Conf)(v:Nat):Int:=ydz ((g.ports.getD v []).map (endP c 0))
def bfsD(g:Gr)(c:Conf)(v:Nat):Int:=if bfsM g c v<(g.ids.length:Int)then bfsM g c v+1 else(g.ids.length:Int)
def bfsF(g:Gr)(c:Conf)(v:Nat):Int:=yjk (fun l=>endP c 0 l==bfsM g c v) (g.ports.getD v [])
def bfsT(g:Gr)(c:Conf)(v:Nat):List Int:=if v=0 then[0,-1]else[bfsD g c v,bfsF g c v]
theorem ybjs(g:Gr)(c:Conf)(v:Nat)(p:Int):ycp g c v yvu p=bfsM g c v:=by
 show yjj 24 _=_;unfold bfsM yjj;rw[if_neg (by decide),if_neg (by decide),if_neg (by decide),if_neg (by decide),if_pos rfl]
 congr 1;exact ybfo g v _ _ fun q a=>rfl
theorem ybgh{g:Gr}{c:Conf}{v:Nat}(f:0<=bfsM g c v)(i:(g.ids.length:Int)<=24)(p:Int):ycp g c v ybbi p=bfsD g c v:=by
 show(if binP 37 (ycp g c v yvu p) (ycp g c v eN p)≠0 then binP 33 (ycp g c v yvu p) (ycp g c v (eNum 1) p)else ycp g c v eN p)=_
 rw[ybjs];have a:ycp g c v eN p=(g.ids.length:Int):=rfl;have b:ycp g c v (eNum 1) p=1:=rfl;rw[a,b];have d:binP 37 (bfsM g c v) (g.ids.length:Int)=ydc (decide (bfsM g c v<(g.ids.length:Int))):=rfl;have e:binP 33 (bfsM g c v) 1=satP (bfsM g c v+1):=rfl;rw[d,e];unfold bfsD
 by_cases h:bfsM g c v<(g.ids.length:Int)
 .rw[if_pos h,if_pos (by simp[ydc,h])]
  unfold satP;omega
 .rw[if_neg h,if_neg (by simp[ydc,h])]
theorem ybib(g:Gr)(c:Conf)(v:Nat)(p:Int):ycp g c v ybab p=bfsF g c v:=by
 show yjj 23 _=_;unfold bfsF yjj;rw[if_neg (by decide),if_neg (by decide),if_neg (by decide),if_pos rfl,<-ybdb]
 congr 1;refine ybfo g v _ _ fun q a=>?_;show binP 35 (ycp g c v (eQ 0) q) (ycp g c v yvu q)=_;rw[ybjs];rfl
theorem ybff(b:Bool):(ydc b != 0)=b:=by cases b<;>rfl
theorem ydrn{s:List Int}(h:s.length=2)(x y:Int):s=[x,y]↔s.getD 0 0=x/\s.getD 1 0=y:=by
 match s,h with
 |[a,b],_=>simp
section
variable {nm nd np nt nl:ByteArray}{g:Gr}{c:Conf}{v:Nat}
theorem bT1{x:ByteArray}:ybh g v ⟨x,1,0,0,1,0⟩=(0,0+1*(g.ids.length:Int)+0*maxI g.ids):=by
 show(if (1:Int)=1 then _ else _)=_
 rw[if_pos rfl]
theorem bT3{x:ByteArray}:ybh g v ⟨x,3,0,0,0,0⟩=(-1,((g.ports.getD v []).length:Int)-1):=by
 show(if (3:Int)=1 then _ else if (3:Int)=2 then _ else if (3:Int)=3 then _ else _)=_
 rw[if_neg (by decide),if_neg (by decide),if_pos rfl]
theorem yiv(n:ybi g)(l:ydd (ycg nm nd np nt nl) g c=true):c.length=g.ids.length/\∀v,v<g.ids.length->(c.getD v []).length=2/\(0<=(c.getD v []).getD 0 0/\(c.getD v []).getD 0 0<=g.ids.length)/\(-1<=(c.getD v []).getD 1 0/\(c.getD v []).getD 1 0<(g.ports.getD v []).length):=by
 have h:=(ygx _ _ _).1 l;refine⟨h.1,fun v m=>?_⟩;have a:v<c.length:=by rw[h.1];exact m
 have e:c.getD v []=c[v]:=by simp[zK,a]
 have b:=h.2 v _ (zF a);rw[e];have d:c[v].length=2:=b.1;have f:(ybh g v ⟨nd,1,0,0,1,0⟩).1<=c[v][0]/\c[v][0]<=(ybh g v ⟨nd,1,0,0,1,0⟩).2:=b.2 0 _ _ rfl (zF (by omega))
 have i:(ybh g v ⟨np,3,0,0,0,0⟩).1<=c[v][1]/\c[v][1]<=(ybh g v ⟨np,3,0,0,0,0⟩).2:=b.2 1 _ _ rfl (zF (by omega))
 have j:c[v].getD 0 0=c[v][0]:=by simp[zK,d]
 have k:c[v].getD 1 0=c[v][1]:=by simp[zK,d]
 rw[j,k];rw[bT1]at f;rw[bT3]at i;simp only at f i;exact⟨d,⟨by omega,by omega⟩,⟨by omega,by omega⟩⟩
theorem yon(b:ybi g)(d:ydd (ycg nm nd np nt nl) g c=true)(h:v<g.ids.length):0<=bfsM g c v:=by
 refine ykg (by omega) fun x i=>?_
 obtain⟨l,e,rfl⟩:=List.mem_map.1 i;have a:v<g.ports.length:=by rw[<-b.2.2.1];exact h
 have f:=b.link (v:=v) (zF a) (l:=l) (by simpa[zK,a]using e)
 have:=(yiv b d).2 l.1.toNat (by have:=b.2.2.1;omega)
 exact this.2.1.1
theorem ydmo:-1<=bfsF g c v/\(bfsF g c v<(g.ports.getD v []).length):=by
 unfold bfsF yjk;split
 .rename_i i a
  obtain⟨h,_⟩:=List.findIdx?_eq_some_iff_getElem.1 a;omega
 .omega
theorem ydkn(b:ybi g)(a:ydd (ycg nm nd np nt nl) g c=true)(d:v<g.ids.length):0<=bfsD g c v/\bfsD g c v<=g.ids.length:=by
 have:=yon b a d;unfold bfsD;split<;>omega
theorem ybti(i:ybi g)(r:ydd (ycg nm nd np nt nl) g c=true)(s:v<g.ids.length) :
 yoa g c v ⟨nt,ycrh,[(0,eNum 0),(1,ycbn)]⟩=(decide (v=0) && !decide (c.getD v []=[0,-1])) /\
 yoa g c v ⟨nl,ycyk,[(0,ybbi),(1,ybab)]⟩=(!decide (v=0) && !decide (c.getD v []=[bfsD g c v,bfsF g c v])):=by
 have u:=((yiv i r).2 v s).1;have z:(g.ids.length:Int)<=24:=by have:=i.2.1;have:=i.2.2.1;omega
 have w:=yon i r s;have o:∀p,ycp g c v ycae p=ydc ((v:Int)==0):=fun p=>rfl
 have q:((v:Int)==0)=decide (v=0):=by
  cases v with
  |zero=>rfl
  |succ k=>simp;omega
 have m:∀p,ycp g c v (eVar 0) p=(c.getD v []).getD 0 0:=fun p=>rfl;have n:∀p,ycp g c v (eVar 1) p=(c.getD v []).getD 1 0:=fun p=>rfl
 have l:∀x y:Int,(decide (c.getD v []=[x,y]))=(((c.getD v []).getD 0 0==x)&&((c.getD v []).getD 1 0==y)):=fun x y=>by
  rw[zCR];simp only[decide_eq_true_eq,zG,beq_iff_eq];exact ydrn u x y
 have e:∀a b:Bool,binP 41 (ydc a) (ydc b)=ydc (a&&b):=fun a b=>by cases a<;>cases b<;>rfl
 have f:∀a b:Bool,binP 42 (ydc a) (ydc b)=ydc (a||b):=fun a b=>by cases a<;>cases b<;>rfl
 have d:∀a b:Int,binP 36 a b=ydc (a != b):=fun a b=>rfl;have j:∀a:Bool,unP 19 (ydc a)=ydc (!a):=fun a=>by cases a<;>rfl
 have h:∀t a b:Bool,(t&&(!a || !b))=(t && !(a&&b)):=by decide
 constructor
 .show(binP 41 (ycp g c v ycae (-1)) (binP 42 (binP 36 (ycp g c v (eVar 0) (-1)) 0) (binP 36 (ycp g c v (eVar 1) (-1)) (-1)))!=0)=_;rw[o,m,n,d,d,f,e,ybff,q,l];exact h _ _ _
 .show(binP 41 (unP 19 (ycp g c v ycae (-1))) (binP 42 (binP 36 (ycp g c v (eVar 0) (-1)) (ycp g c v ybbi (-1))) (binP 36 (ycp g c v (eVar 1) (-1)) (ycp g c v ybab (-1))))!=0)=_;rw[o,m,n,ybgh w z,ybib,d,d,f,j,e,ybff,q,l];exact h _ _ _
theorem ybbu(h:ybi g)(f:ydd (ycg nm nd np nt nl) g c=true)(i:v<g.ids.length):yeq (ycg nm nd np nt nl) g c v=if c.getD v []=bfsT g c v then -1 else if v=0 then 0 else 1:=by
 obtain⟨d,e⟩:=ybti (nt:=nt) (nl:=nl) h f i;unfold yeq ycg;simp only[zBE,d,e,List.findIdx?_nil];unfold bfsT
 generalize c.getD v []=s
 by_cases b:v=0
 .by_cases a:s=[0,-1]<;>simp[b,a]
 .by_cases a:s=[bfsD g c v,bfsF g c v]<;>simp[b,a]
theorem ycku(d:ybi g)(i:ydd (ycg nm nd np nt nl) g c=true)(j:v<g.ids.length)(m:c.getD v []≠bfsT g c v):yjs (ycg nm nd np nt nl) g c v (yeq (ycg nm nd np nt nl) g c v).toNat=bfsT g c v:=by
 rw[ybbu d i j,if_neg m];have k:=((yiv d i).2 v j).1;have p:(g.ids.length:Int)<=24:=by have:=d.2.1;have:=d.2.2.1;omega
 have o:=yon d i j;obtain⟨d1,d2⟩:=ydkn d i j;obtain⟨f1,f2⟩:=ydmo (g:=g) (c:=c) (v:=v)
 obtain⟨a,b,l⟩:∃a b,c.getD v []=[a,b]:=by
  match hq:c.getD v [],k with
  |[a,b],_=>exact⟨a,b,rfl⟩
 have e:∀x:Int,0<=x->x<=g.ids.length->yhm 1 (ybh g v ⟨nd,1,0,0,1,0⟩) x=x:=fun x n k=>by
  unfold yhm;rw[bT1];simp only;rw[if_pos ⟨by omega,by omega⟩]
 have f:∀x:Int,-1<=x->x<(g.ports.getD v []).length->yhm 3 (ybh g v ⟨np,3,0,0,0,0⟩) x=x:=fun x n k=>by
  unfold yhm;rw[bT3];simp only;rw[if_pos ⟨by omega,by omega⟩]
 unfold yjs ytt bfsT;rw[l]
 by_cases h:v=0
 .rw[if_pos h,if_pos h];show[yhm 1 (ybh g v ⟨nd,1,0,0,1,0⟩) (ycp g c v (eNum 0) (-1)),yhm 3 (ybh g v ⟨np,3,0,0,0,0⟩) (ycp g c v ycbn (-1))]=_;rw[show ycp g c v (eNum 0) (-1)=0 from rfl,show ycp g c v ycbn (-1) = -1 from rfl,e 0 (by omega) (by omega),f (-1) (by omega) (by omega)]
 .rw[if_neg h,if_neg h];show[yhm 1 (ybh g v ⟨nd,1,0,0,1,0⟩) (ycp g c v ybbi (-1)),yhm 3 (ybh g v ⟨np,3,0,0,0,0⟩) (ycp g c v ybab (-1))]=_;rw[ybgh o p,ybib,e _ d1 d2,f _ f1 f2]
theorem ybdi(a:ybi g):Sh.ybjm (ycg nm nd np nt nl) g=true:=by
 have:=a.1;have:=a.2.1;have:=a.2.2.1;simp[Sh.ybjm,ycg,ybh];omega
theorem ycyj:(ycg nm nd np nt nl).ok=true:=by kernel_rfl
end
end
section
section
variable {g:Gr}{a v:Nat}
theorem yii(f:ybi g)(p:yeo g=true)(d:a<g.ports.length)(r:v<g.ports.length):∃k:Nat,(ybs g a).getD v 0=k/\Walk g a k v/\(∀j,j<k->¬Walk g a j v)/\k<g.ports.length:=by
 have n:0<g.ports.length:=by omega
 have c:(ybs g a).all (fun x=>decide (0<=x))=true:=yciy f n d ((zG _ _▸p).2);have q:=yhg f d;have b:v<(ybs g a).length:=by rw[q];exact r
 have e:(ybs g a).getD v 0=(ybs g a)[v]:=by simp[zK,b]
 have m:0<=(ybs g a)[v]:=by simpa using List.all_eq_true.1 c _ (zL b)
 rcases(yek f d).2 v _ (zF b)with⟨h,_⟩|⟨k,o,i,l⟩
 .omega
 .exact⟨k,by rw[e,o],i,l,ywh f d i l⟩
theorem ydkm{k:Nat}(m:ybi g)(l:yeo g=true)(i:a<g.ports.length)(n:v<g.ports.length)(b:Walk g a k v)(c:∀j,j<k->¬Walk g a j v):(ybs g a).getD v 0=k:=by
 obtain⟨j,e,d,f,_⟩:=yii m l i n;rcases Nat.lt_trichotomy j k with h|h|h
 .exact absurd d (c j h)
 .rw[e,h]
 .exact absurd b (f k h)
theorem yxf(d:ybi g)(c:yeo g=true)(b:a<g.ports.length):(ybs g a).getD a 0=0:=ydkm d c b b (k:=0) rfl fun j e=>by omega
theorem ywl(d:ybi g)(c:yeo g=true)(b:a<g.ports.length)(f:v<g.ports.length):0<=(ybs g a).getD v 0/\(ybs g a).getD v 0<g.ports.length:=by
 obtain⟨k,e,_,_,h⟩:=yii d c b f;omega
theorem ycpe(h:ybi g)(f:yeo g=true)(d:a<g.ports.length)(i:v<g.ports.length)(b:v≠a):1<=(ybs g a).getD v 0:=by
 obtain⟨k,e,c,_,_⟩:=yii h f d i;cases k with
 |zero=>exact absurd c b
 |succ k=>omega
theorem ybqn(b:ybi g)(d:yeo g=true)(c:a<g.ports.length){u:Nat}(h:adj g u v):(ybs g a).getD v 0<=(ybs g a).getD u 0+1:=by
 obtain⟨m,n⟩:=b.adj_lt h;obtain⟨k,e,i,_,_⟩:=yii b d c m;obtain⟨j,f,_,l,_⟩:=yii b d c n;rw[e,f];rcases zCD (k+1) j with q|q
 .exact absurd ⟨u,i,h⟩ (l (k+1) q)
 .omega
theorem ybhx(b:ybi g)(f:yeo g=true)(d:a<g.ports.length)(r:v<g.ports.length)(h:v≠a):∃u,adj g v u/\(ybs g a).getD u 0=(ybs g a).getD v 0-1:=by
 obtain⟨k,e,l,s,_⟩:=yii b f d r;cases k with
 |zero=>exact absurd l h
 | succ k =>
   obtain⟨u,m,c⟩:=l;refine⟨u,b.adj_symm c,?_⟩;have n:=ybqn b f d c;obtain⟨p,_⟩:=b.adj_lt c;obtain⟨j,i,_,o,_⟩:=yii b f d p;rw[e,i]at n;rcases zCD k j with q|q
   .exact absurd m (o k q)
   .rw[e,i];omega
theorem ybei{l:Int×Int}(c:ybi g)(d:v<g.ports.length)(b:l∈g.ports.getD v []):0<=l.1/\l.1.toNat<g.ports.length/\adj g v l.1.toNat/\1<=l.2/\l.2<=15:=by
 have e:g.ports[v]?=some (g.ports.getD v []):=by simp[zK,d]
 have h:=c.link e b;exact⟨h.1,by omega,⟨_,e,l,b,by omega⟩,h.2.2.2.1,h.2.2.2.2⟩
theorem ycdz{u:Nat}(h:adj g v u):∃l∈g.ports.getD v [],l.1.toNat=u:=by
 obtain⟨l,b,e⟩:=ypb.1 h;exact⟨l,b,by rw[e];simp⟩
theorem ysv{f h:Int×Int->Bool}{ls:List (Int×Int)}(e:∀l∈ls,f l=h l):yjk f ls=yjk h ls:=by
 have:ls.findIdx? f=ls.findIdx? h:=by
  induction ls with
  |nil=>rfl
  | cons x l c =>
    rw[zBE,zBE,e x zAC,c fun y b=>e y (zW _ b)]
 unfold yjk;rw[this]
theorem ycej{f:Int×Int->Bool}{ls:List (Int×Int)}(h:∀l∈ls,f l=false):yjk f ls = -1:=by
 unfold yjk;rw[List.findIdx?_eq_none_iff.2 (fun x b=>by simp[h x b])]
theorem ycof(c:ybi g)(d:yeo g=true)(b:a<g.ports.length):wayP g (ybs g a) a = -1:=by
 refine ycej fun l h=>?_;obtain⟨_,e,i,_⟩:=ybei c b h;have j:=ywl c d b e;have f:=yxf c d b;unfold yxo;rw[f,beq_eq_false_iff_ne];omega
end
section
variable {nm nd np nt nl:ByteArray}{g:Gr}
def bfsR(g:Gr)(r v:Nat)(s:List Int):Prop:=if (ybs g 0).getD v 0<(r:Int)then s=[(ybs g 0).getD v 0,wayP g (ybs g 0) v]else(r:Int)<=s.getD 0 0
theorem ybeu(hg:ybi g):Tgt (yml (ycg nm nd np nt nl) g) (fun c=>ydd (ycg nm nd np nt nl) g c=true) (bfsT g) where
 valid:=fun c s hc _ _=>Sh.yjm hg ycyj (ybdi hg) hc s
 stay:=fun c s v hc hv hb=>by
  have hl:=(yiv hg hc).1;show(ygl _ g c s).getD v []=_;rw[Sh.ypq _ g c s (by rw[hl];exact hv),hb]
  rfl
 move:=fun c s v hc hv hb hs=>by
  have hl:=(yiv hg hc).1;have hv:v<g.ids.length:=hv;show(ygl _ g c s).getD v []=_;rw[Sh.ypq _ g c s (by rw[hl];exact hv),hb,if_pos rfl]
  refine ycku hg hc hv fun he=>?_;have h1:=hs v hb;have h1:(ylp _ g.ids.length).testBit v=true:=h1;rw[ymb]at h1;simp only[zG,decide_eq_true_eq]at h1;rw[ybbu hg hc hv,if_pos he]at h1;omega
 en:=fun c v hc hv=>by
  have hv:v<g.ids.length:=hv;show(ylp _ g.ids.length).testBit v=false↔_;rw[ymb,ybbu hg hc hv,decide_eq_true hv,zZ,decide_eq_false_iff_not]
  by_cases he:c.getD v []=bfsT g c v
  .rw[if_pos he];exact⟨fun _=>he,fun _=>by omega⟩
  .rw[if_neg he];exact⟨fun h=>(h (by split<;>omega)).elim,fun h=>absurd h he⟩
theorem ybec(d:ybi g)(k:yeo g=true)(c:Conf)(v r:Nat)(N:v<g.ids.length)(o:∀u,u<g.ids.length->bfsR g r u (c.getD u [])):bfsR g (r+1) v (bfsT g c v):=by
 have I:=d.2.2.1;have D:=d.2.1;have j:0<g.ports.length:=by omega
 have f:v<g.ports.length:=by omega
 have M:=ywl d k j f;unfold bfsR bfsT
 by_cases e:v=0
 .subst e;rw[if_pos rfl,yxf d k j,ycof d k j,if_pos (by omega)]
 .rw[if_neg e];have z:=ycpe d k j f e
  have b:∀l∈g.ports.getD v [],(ybs g 0).getD v 0-1<=(ybs g 0).getD l.1.toNat 0/\(((ybs g 0).getD l.1.toNat 0<(r:Int)/\endP c 0 l=(ybs g 0).getD l.1.toNat 0)\/((r:Int)<=(ybs g 0).getD l.1.toNat 0/\(r:Int)<=endP c 0 l)):=fun l m=>by
   obtain⟨_,K,C,_⟩:=ybei d f m;have L:=ybqn d k j (d.adj_symm C);refine⟨by omega,?_⟩
   have p:=o l.1.toNat (by omega)
   unfold bfsR at p;split at p
   .rename_i s
    refine .inl ⟨s,?_⟩;unfold endP;rw[p];rfl
   .exact .inr ⟨by omega,p⟩
  by_cases hk:(ybs g 0).getD v 0<((r+1:Nat):Int)
  .rw[if_pos hk]
   have q:bfsM g c v=(ybs g 0).getD v 0-1:=by
    obtain⟨u,J,H⟩:=ybhx d k j f e;obtain⟨l,m,t⟩:=ycdz J;subst t;have E:=b l m
    have F:endP c 0 l=(ybs g 0).getD v 0-1:=by
     rcases E.2 with⟨_,h⟩|⟨h,_⟩
     .rw[h,H]
     .omega
    refine Int.le_antisymm ?_ (ykg (by omega) fun x w=>?_)
    .rw[<-F];exact ylj (List.mem_map.2 ⟨l,m,rfl⟩)
    .obtain⟨y,i,rfl⟩:=List.mem_map.1 w;have n:=b y i;rcases n.2 with⟨_,h⟩|⟨_,h⟩<;>omega
   have A:bfsD g c v=(ybs g 0).getD v 0:=by
    unfold bfsD;rw[q,if_pos (by omega)]
    omega
   have B:bfsF g c v=wayP g (ybs g 0) v:=by
    unfold bfsF wayP;refine ysv fun l m=>?_;have n:=b l m;unfold yxo;rw[q,zCR];simp only[beq_iff_eq];rcases n.2 with⟨G,h⟩|⟨G,h⟩<;>omega
   rw[A,B]
  .rw[if_neg hk]
   have q:(r:Int)<=bfsM g c v:=ykg (by omega) fun x w=>by
    obtain⟨y,i,rfl⟩:=List.mem_map.1 w;have n:=b y i;rcases n.2 with⟨_,h⟩|⟨_,h⟩<;>omega
   show((r+1:Nat):Int)<=bfsD g c v;unfold bfsD;split<;>omega
theorem ycbc(r v:Nat)(s:List Int)(h:bfsR g (r+1) v s):bfsR g r v s:=by
 unfold bfsR at *;split at h
 .rename_i b
  split
  .exact h
  .rw[h];show(r:Int)<=(ybs g 0).getD v 0;omega
 .rw[if_neg (by omega)];omega
theorem ybgj(b:ybi g)(d:yeo g=true){c:Conf}(e:ydd (ycg nm nd np nt nl) g c=true)(v:Nat)(h:v<g.ids.length):bfsR g 0 v (c.getD v []):=by
 have:=ywl b d (a:=0) (v:=v) (by have:=b.1;omega) (by have:=b.2.2.1;omega)
 unfold bfsR;rw[if_neg (by omega)]
 have:=((yiv b e).2 v h).2.1.1;omega
def ybot(g:Gr)(c:Conf):Prop:=∀v,v<g.ids.length->c.getD v []=[(ybs g 0).getD v 0,wayP g (ybs g 0) v]
theorem ybex(e:ybi g)(d:yeo g=true){c:Conf}(f:ydd (ycg nm nd np nt nl) g c=true):ymt g c=true:=by
 have b:=e.2.2.1;unfold ymt;rw[d,zZ,<-f];unfold ydd;rw[b];congr 1
 funext v
 simp[yfl,ycg,ybh,ycmz,b]
theorem ybfh(e:ybi g)(k:yeo g=true){c:Conf}(i:ydd (ycg nm nd np nt nl) g c=true):yen g c=true↔ybot g c:=by
 have l:=e.2.2.1;have m:=(yiv e i).1;have j:=ybex e k i;unfold yen;rw[j,zZ];constructor
 .intro h v f;have b:v<c.length:=by omega
  have:=List.all_eq_true.1 h (c[v],v) (List.mem_zipIdx_iff_getElem?.2 (by simp[b]))
  have:=of_decide_eq_true this;rw[zN,zF b];exact this
 .intro h;refine List.all_eq_true.2 fun p d=>?_;have d:=List.mem_zipIdx_iff_getElem?.1 d;have f:=(List.getElem?_eq_some_iff.1 d).1;have:=h p.2 (by omega)
  rw[zN,d]at this;exact decide_eq_true this
theorem yzh(f:ybi g)(k:yeo g=true){c:Conf}{r:Nat}(n:eccP g 0<(r:Int))(h:∀v,v<g.ids.length->bfsR g r v (c.getD v [])):ybot g c:=fun v m=>by
 have d:=h v m;have j:0<g.ports.length:=by have:=f.1;omega
 have i:v<g.ports.length:=by have:=f.2.2.1;omega
 have e:eccP g 0=ycr (ybs g 0):=by
  unfold eccP;rw[if_pos ⟨k,by omega,by omega⟩]
  rfl
 have l:(ybs g 0).getD v 0<=ycr (ybs g 0):=by
  have b:v<(ybs g 0).length:=by rw[yhg f j];exact i
  refine yta _ _ ?_;rw[zN,zF b];exact zL b
 unfold bfsR at d;rw[if_pos (by omega)]at d
 exact d
theorem ycar(b:ybi g)(f:yeo g=true){c:Conf}(i:ydd (ycg nm nd np nt nl) g c=true):ybt (ycg nm nd np nt nl) g c=0↔yen g c=true:=by
 rw[ybfh b f i];constructor
 .intro k;have:=(ybeu (nm:=nm) (nd:=nd) (np:=np) (nt:=nt) (nl:=nl) b).silent (P:=bfsR g) (fun c v r _ e d=>ybec b f c v r e d) i (fun v h=>ybgj b f i v h) k;refine yzh b f (r:=1001) (by have:=(yqg g 0).2;omega) fun v e=>this 1001 v e
 .intro h;refine(ybeu (nm:=nm) (nd:=nd) (np:=np) (nt:=nt) (nl:=nl) b).en_zero i (Sh.yyj _ g c) fun v e=>?_;have e:v<g.ids.length:=e
  have d:∀u,u<g.ids.length->bfsR g 1001 u (c.getD u []):=fun u l=>by
   have:=ywl b f (a:=0) (v:=u) (by have:=b.1;omega) (by have:=b.2.2.1;omega)
   have:=b.2.1;unfold bfsR;rw[if_pos (by omega)]
   exact h u l
  have j:=ybec b f c v 1001 e d;have:=ywl b f (a:=0) (v:=v) (by have:=b.1;omega) (by have:=b.2.2.1;omega)
  have:=b.2.1;unfold bfsR at j;rw[if_pos (by omega)]at j
  rw[j];exact h v e
end
end
section
namespace Sh
section
variable {nm nd np nt nl:ByteArray}{g:Gr}
end
end Sh
end
section
namespace Sh
open Ev Go.RowKit
theorem ycpn(l:List Nat):one1 (usV l)=true:=rfl
theorem ycid{n:Nat}(l:List Nat):owned (n+1) (usV l)=false:=rfl
theorem ybub{n:Nat}(l:List Nat):scalar (n+1) (usV l)=false:=rfl
theorem ycjb{n:Nat}(o:Own)(l:List Nat):view o (n+1) (usV l)=usV l:=rfl
theorem ydli{n:Nat}(o:Own)(l:List Nat):vok o (n+1) (usV l)=True:=rfl
theorem ydmk{n:Nat}(h:Nm->Nm)(l:List Nat):ren h (n+1) (usV l)=usV l:=rfl
theorem ydgn{n:Nat}(D:Nm->Bool)(l:List Nat):cln D (n+1) (usV l)=true:=rfl
theorem ybzj{n:Nat}(a:List Nm)(o:Own)(l:List Nat):ydt a o (n+1) (usV l)=usV l:=rfl
theorem ydjk{n:Nat}(a:List Nm)(o:Own)(l:List Nat):pok a o (n+1) (usV l)=True:=rfl
theorem ybwz(l:List Nat):SV.cells (usV l)=[usV l]:=rfl
theorem ybnk(l:List Conf):one1 (yje l)=true:=rfl
theorem ybgt{n:Nat}(l:List Conf):owned (n+1) (yje l)=false:=rfl
theorem ybdf{n:Nat}(l:List Conf):scalar (n+1) (yje l)=false:=rfl
theorem ybmt{n:Nat}(o:Own)(l:List Conf):view o (n+1) (yje l)=yje l:=rfl
theorem ybvl{n:Nat}(o:Own)(l:List Conf):vok o (n+1) (yje l)=True:=rfl
theorem ybuk{n:Nat}(h:Nm->Nm)(l:List Conf):ren h (n+1) (yje l)=yje l:=rfl
theorem ybrs{n:Nat}(D:Nm->Bool)(l:List Conf):cln D (n+1) (yje l)=true:=rfl
theorem ybgm{n:Nat}(a:List Nm)(o:Own)(l:List Conf):ydt a o (n+1) (yje l)=yje l:=rfl
theorem ybuf{n:Nat}(a:List Nm)(o:Own)(l:List Conf):pok a o (n+1) (yje l)=True:=rfl
theorem ybgo(l:List Conf):SV.cells (yje l)=[yje l]:=rfl
theorem ybtc(l:List Cnt):one1 (ypg l)=true:=rfl
theorem ybno{n:Nat}(l:List Cnt):owned (n+1) (ypg l)=false:=rfl
theorem ybhr{n:Nat}(l:List Cnt):scalar (n+1) (ypg l)=false:=rfl
theorem ybvi{n:Nat}(o:Own)(l:List Cnt):view o (n+1) (ypg l)=ypg l:=rfl
theorem yccc{n:Nat}(o:Own)(l:List Cnt):vok o (n+1) (ypg l)=True:=rfl
theorem ycaj{n:Nat}(h:Nm->Nm)(l:List Cnt):ren h (n+1) (ypg l)=ypg l:=rfl
theorem ybzf{n:Nat}(D:Nm->Bool)(l:List Cnt):cln D (n+1) (ypg l)=true:=rfl
theorem ybjz{n:Nat}(a:List Nm)(o:Own)(l:List Cnt):ydt a o (n+1) (ypg l)=ypg l:=rfl
theorem ycat{n:Nat}(a:List Nm)(o:Own)(l:List Cnt):pok a o (n+1) (ypg l)=True:=rfl
theorem yblg(l:List Cnt):SV.cells (ypg l)=[ypg l]:=rfl
theorem ycnf(l:List Bool):one1 (blV l)=true:=rfl
theorem ycco{n:Nat}(l:List Bool):owned (n+1) (blV l)=false:=rfl
theorem ybve{n:Nat}(l:List Bool):scalar (n+1) (blV l)=false:=rfl
theorem ycjj{n:Nat}(o:Own)(l:List Bool):view o (n+1) (blV l)=blV l:=rfl
theorem ydgo{n:Nat}(o:Own)(l:List Bool):vok o (n+1) (blV l)=True:=rfl
theorem ydes{n:Nat}(h:Nm->Nm)(l:List Bool):ren h (n+1) (blV l)=blV l:=rfl
theorem ydmf{n:Nat}(D:Nm->Bool)(l:List Bool):cln D (n+1) (blV l)=true:=rfl
theorem ycgf{n:Nat}(a:List Nm)(o:Own)(l:List Bool):ydt a o (n+1) (blV l)=blV l:=rfl
theorem ydey{n:Nat}(a:List Nm)(o:Own)(l:List Bool):pok a o (n+1) (blV l)=True:=rfl
theorem ycca(l:List Bool):SV.cells (blV l)=[blV l]:=rfl
attribute [go_sem] ycpn ycid ybub ycjb ydli ydmk ydgn ybzj ydjk ybwz ybnk ybgt ybdf ybmt ybvl ybuk ybrs ybgm ybuf ybgo ybtc ybno ybhr ybvi yccc ycaj ybzf ybjz ycat yblg ycnf ycco ybve ycjj ydgo ydes ydmf ycgf ydey ycca
theorem Ct.found{P:Program}{g:FuncId}{args:List SV}{f:Type}{R:SV->f->Prop}{V:f->SV}{Q:SV->Prop}(h:Ct P g args fun r=>∃x,R r x)(n:∀r x,R r x->Sim r (V x))(l:∀r x,R r x->Q (V x)):Ct P g args Q:=fun G m p i j k=>by
 obtain⟨v,o,r,a,b,c,⟨x,d⟩,e⟩:=h G m p i j k;exact⟨v,o,V x,a,b,c,l r x d,n r x d _ _ _ e⟩
structure RunD(S:Sys)(res:Nat->Nat->Nat)(ws:List Nat)(c:Conf)(n:Nat)(Cs:List Conf)(Ks:List Cnt):Prop where
 cs:(S.runs res ws c).map (·.1)=Cs
 ks:(S.runs res ws c).map (·.2)=Ks
 len:(S.runs res ws c).length=n
 pos:0<n
 le:n<=ws.length+1
end Sh
end
section
namespace Sh
open Go Ev
def ydpv:LO:=[o3 (.mv (.const (.string (ByteArray.mk #[])))) 0 0]
def ydom:LO:=[o3 (.mv (.const (.string (ByteArray.mk #[112,114,111,103,114,97,109,32,98,102,115,59,10,118,97,114,32,100,32,58,32,48,32,46,46,32,110,59,10,118,97,114,32,112,32,58,32,112,111,114,116,59,10,114,117,108,101,32,116,111,112,58,32,114,111,111,116,32,38,38,32,40,100,32,33,61,32,48,32,124,124,32,112,32,33,61,32,110,111,110,101,41,32,45,62,32,100,32,58,61,32,48,44,32,112,32,58,61,32,110,111,110,101,59,10,114,117,108,101,32,108,111,119,58,32,33,114,111,111,116,32,38,38,32,40,100,32,33,61,32,40,109,105,110,40,113,46,100,41,32,60,32,110,32,63,32,109,105,110,40,113,46,100,41,32,43,32,49,32,58,32,110,41,32,124,124,32,112,32,33,61,32,102,105,114,115,116,40,113,46,100,32,61,61,32,109,105,110,40,113,46,100,41,41,41,10,32,32,45,62,32,100,32,58,61,32,40,109,105,110,40,113,46,100,41,32,60,32,110,32,63,32,109,105,110,40,113,46,100,41,32,43,32,49,32,58,32,110,41,44,32,112,32,58,61,32,102,105,114,115,116,40,113,46,100,32,61,61,32,109,105,110,40,113,46,100,41,41,59,10])))) 0 0]
def c31:SC:=(sr ydpv <| sr ydom <| .ret)
theorem yduj:Fn 31 c31 [.t 0]:=fn_0 Tryz.func31
def ydsl:LO:=[bx' 27 0 1 0,mb false 2 0]
def yebr:LO:=[la' 2 1 3 0,cl' 121 [3] 4 1,mv' 4 2 3]
def c94:SC:=(sr ydsl <| sr yebr <| .ret)
theorem ydqr:Fn 94 c94 [.t 2]:=fn_0 Tryz.func94
def ydxk:LO:=[bx' 27 0 2 0,mb false 4 0]
def ydzn:LO:=[la' 2 2 5 0,cl' 94 [5] 6 1,mv' 6 7 3,gt (.load true 2 (.tmp 2)) 8 7 7,gt (.mv (.tmp 1)) 9 7 7,gt (.faddr 0 1 (.tmp 2)) 10 7 7,gt (.load false 1 (.tmp 10)) 11 7 39,gt (.len (.tmp 11)) 12 7 103,gt (.bslice 3 1 2 [.i .i64 0,.i .i64 0] [(0,1,(.tmp 12)),(1,1,(.const (.int .i64 (-1))))]) 13 7 231,gt (.call (.func 89) [(.tmp 8),(.tmp 9),(.tmp 13)]) 14 7 511,o3 (.pick (.tmp 7) (.tmp 14) (.const (.bool false))) 15 1023,mv' 15 4 2047]
def c95:SC:=(sr ydxk <| sr ydzn <| .ret)
theorem yeba:Fn 95 c95 [.t 4]:=fn_0 Tryz.func95
def ydtk:LO:=[bx' 27 0 4 0,bx' 3 1 5 0,bx' 22 2 6 0,mb false 8 0]
def ydrz:LO:=[la' 2 4 10 0,ld' 1 5 11 0,o3 (.mkfn 145 [] [(.tmp 6),(.tmp 5)]) 12 0,cl' 70 [10,11,12] 13 7,mv' 13 9 15]
def ydun:LO:=[mv' 3 14 0,ld' 1 6 15 0,ld' 1 5 16 0,ix' 1 15 16 17 6,ld' 1 17 18 14,mv' 9 19 0,o3 (.bslice 3 1 2 [.i .i64 0,.i .i64 0] [(0,1,(.tmp 18)),(1,1,(.tmp 19))]) 20 62,cl' 92 [14,20] 21 127,mv' 21 8 255]
def c96:SC:=(sr ydtk <| sr ydrz <| sr ydun <| .ret)
theorem ydyh:Fn 96 c96 [.t 8]:=fn_0 Tryz.func96
def yddb:LO:=[bx' 68 0 3 0,mb false 4 0]
def ycts:LO:=[ld' 1 1 5 0,fa' 0 1 3 6 0,ld' 1 6 7 2,ix' 1 5 7 8 7,ld' 1 8 9 15,ld' 1 1 10 0,ld' 1 2 11 0,ix' 1 10 11 12 96,ld' 1 12 13 224,bc .sub 13 1 14 480,bn' .eql 9 14 15 1023,mv' 15 4 2047]
def c145:SC:=(sr yddb <| .seq (.reg true ycts) .ret)
theorem ydgm:Fn 145 c145 [.t 4]:=fn_0 Tryz.func145
def ydpa:LO:=[bx' 27 0 2 0,mb false 4 0]
def ydtb:LO:=[la' 2 2 8 0,mv' 1 9 0,cl' 95 [8,9] 10 3,o3 (.un .not (.tmp 10)) 11 7]
def yedu:LO:=[mb false 4 0]
def ydrb:LO:=[la' 2 2 12 0,o3 (.call (.func 90) [(.tmp 12),(ci' 0)]) 13 1,mv' 13 5 3]
def ydse:LO:=[mv' 1 14 0,ln' 14 15 1,mc 0 16 0]
def ycln:LO:=[bn' .lss 16 15 17 0]
def ydlw:LO:=[mv' 16 18 0,ix' 1 14 16 19 0,ld' 1 19 20 2,mv' 18 6 7,mv' 20 7 15]
def ydlj:LO:=[la' 2 2 21 0,mv' 6 22 0,mv' 5 23 0,mv' 7 24 0,cl' 96 [21,22,23,24] 25 15,o3 (.un .not (.tmp 25)) 26 31]
def ydol:LO:=[mb false 4 0]
def ydzh:LO:=[bc .add 16 1 27 0,mv' 27 16 1]
def yctq:LO:=[mb true 4 0]
def c33:SC:=(sr ydpa <| .seq (sr ydtb <| cn 11 (sr yedu <| .ret) .skip) (sr ydrb <| .seq (sr ydse <| .block 0 (.loop (sr ycln <| .seq (cn 17 .skip (.exit 0)) (.seq (.block 1 (sr ydlw <| sr ydlj <| cn 26 (sr ydol <| .ret) .skip)) (.reg false ydzh))))) (sr yctq <| .ret)))
theorem ydxp:Fn 33 c33 [.t 4]:=fn_0 Tryz.func33
def ydze:LO:=[bx' 27 0 1 0,o3 (.alloc 36 1 [.i .i64 0,.b false,.b false,.i .i64 0,.i .i64 0]) 2 0]
def ydul:LO:=[la' 2 1 3 0,cl' 94 [3] 4 1,o3 (.un .not (.tmp 4)) 5 3]
def yedj:LO:=[o3 (.build [.i .i64 0,.b false,.b false,.i .i64 0,.i .i64 0] []) 6 0,sto 5 2 6 1]
def ydrk:LO:=[la' 2 1 7 0,o3 (.call (.func 87) [(.tmp 7),(ci' 0)]) 8 1,bc .add 8 1 9 3,o3 (.build [.i .i64 0,.b false,.b false,.i .i64 0,.i .i64 0] [(0,1,(ci' 3)),(2,1,(.const (.bool true))),(3,1,(.tmp 9)),(4,1,(.const (.int .i64 (-1))))]) 10 7,sto 5 2 10 15]
def c32:SC:=(sr ydze <| .seq (sr ydul <| cn 5 (sr yedj <| .ret) .skip) (sr ydrk <| .ret))
theorem ydnk:Fn 32 c32 [.c 2 true 5]:=fn_0 Tryz.func32
end Sh
end
section
namespace Sh
open Go Ev
end Sh
end
section
namespace Sh
open Ev Go.RowKit
theorem yedc{a:Type}(l:List a)(x d:a)(i:Nat):(l++[x]).getD i d=if i<l.length then l.getD i d else if i=l.length then x else d:=by
 by_cases h:i<l.length
 .simp[zK,zBK h,h]
 .by_cases e:i=l.length
  .subst e;simp[zK]
  .rw[if_neg h,if_neg e,zK,zAL (by simp;omega)]
   rfl
theorem yedv(k i:Nat)(a:i≠k):(if i<k+1 then(-1:Int)else 0)=if i<k then -1 else 0:=by
 by_cases h:i<k
 .rw[if_pos h,if_pos (by omega)]
 .rw[if_neg h,if_neg (by omega)]
theorem ybvg(g:Gr)(a i:Nat)(b:a<g.ports.length)(c:i<g.ports.length):(start g a).getD i 0=if i=a then 0 else -1:=by
 unfold start;rw[ybdz (by simpa using b)]
 split
 .rfl
 .rw[zN,zBP,if_pos c];rfl
theorem ybrx{g:Gr}(N:ybi g){a:Nat}(ha:a<g.ports.length):Returns zH 142 [grV g,.i .i64 a] (ybb (ybs g a)):=by
 refine Returns.of (yden _ _ ?_);obtain⟨n,z⟩:∃n,g.ports.length=n:=⟨_,rfl⟩;have Y:=N.2.1;have X:=N.1;rw[z]at Y X ha;obtain⟨PV,a8⟩:∃P,yj g.ports=P:=⟨_,rfl⟩;simp only[c142,yctd,ycqf,ycyq,grV,yj,z,go_sem,zA,zB,zD];refine⟨by omega,?_⟩
 refine ybd (σ:=Nat) (fun k=>⟨[(17,.i .i64 k),(16,.i .i64 n),(5,.os (14,0) 0 n true),(2,.pt (2,0) 0 0),(1,.i .i64 a)],
  [(2,.one (some ⟨27,true,2,1,fun _=>[ybb g.ids,yj g.ports]⟩)),(14,.one (some ⟨3,false,1,n,fun i=>[.i .i64 (if i<k then -1 else 0)]⟩))]⟩) (fun k=>k<=n) (fun k=>n-k) 0 (zV _) ?_ ?_
 .refine yu ?_;simp only[yj,z,wk,go_sem,zA,zD];exact fun i _=>by rw[if_neg (by omega)]
 .intro k hk
  by_cases a9:k<n
  .have ht:decide ((k:Int)<(n:Int))=true:=decide_eq_true (by omega)
   simp only[ybxt,ycwc,yczq,ycyr,ht,splice,and_false,go_sem,zA,zB];refine⟨by omega,by omega,ikw (by omega) (by omega),?_⟩
   refine ycb (k+1) ?_;refine yu ?_;simp only[go_sem,wk,go_sem,zA,zD];refine⟨by omega,fun i S=>?_⟩
   by_cases q:i=k
   .subst q;simp only[if_pos (zCN i)];simp only[wk,go_sem]
   .simp only[if_neg q,yedv k i q];simp only[wk,go_sem]
  .obtain rfl:k=n:=by omega
   have ht:decide ((k:Int)<(k:Int))=false:=decide_eq_false (by omega)
   simp only[ybxt,ycqj,ycyl,ht,splice,and_false,go_sem,zA,zB,zD];refine⟨⟨by omega,by omega⟩,by omega,?_⟩
   refine ybd (σ:=List Int×List Nat×Nat) (fun q=>⟨[(7,.os (128,0) q.2.2 (q.2.1.length-q.2.2) true),(5,.os (14,0) 0 k true),(2,.pt (2,0) 0 0)],
    [(2,.one (some ⟨27,true,2,1,fun _=>[ybb g.ids,yj g.ports]⟩)),(14,.one (some ⟨3,false,1,k,fun i=>[.i .i64 (q.1.getD i 0)]⟩)),(128,.one (some ⟨3,false,1,q.2.1.length,fun i=>[.i .i64 (q.2.1.getD i 0:Nat)]⟩))]⟩)
    (fun q=>q.2.2<=q.2.1.length/\BfsInv g a q.1 (q.2.1.drop q.2.2)/\q.2.1.length-q.2.2+ydf q.1<=30/\q.2.1.length<=31) (fun q=>q.2.1.length-q.2.2+ydf q.1) (start g a,[a],0) ⟨zV _,BfsInv.start (by omega),ypc g a (by omega),by simp⟩ ?_ ?_
   .refine ybw [(128,fun i=>(28,i))] [] [] ?_;simp only[go_sem,wk,go_sem,zA,zD];refine⟨fun i S=>?_,fun i S=>?_⟩
    .rw[ybvg g a i (by omega) (by omega),if_pos S]
     by_cases q:i=a
     .simp only[if_pos q];simp only[wk,go_sem]
     .simp only[if_neg q];simp only[wk,go_sem]
    .obtain rfl:i=0:=by omega
     simp only[zBA,wk,go_sem]
   .rintro⟨R,W,o⟩ ⟨ho,c,s,w⟩;have ho:o<=W.length:=ho;have c:BfsInv g a R (W.drop o):=c;have s:W.length-o+ydf R<=30:=s;have w:W.length<=31:=w;obtain⟨m,U⟩:∃m,W.length=m:=⟨_,rfl⟩;rw[U]at ho s w
    by_cases T:o<m
    .have hQ : W.drop o=W[o]::W.drop (o+1):=(zBL (by omega))
     obtain⟨v,hv⟩:∃v,W.getD o 0=v:=⟨_,rfl⟩;have a4:W[o]=v:=by rw[<-hv,getD_at (show o<W.length by omega)]
     rw[a4]at hQ;rw[hQ]at c;obtain⟨d,hd⟩:=c.qin v (by simp)
     have a5:v<g.ports.length:=by rw[<-c.len];exact(List.getElem?_eq_some_iff.1 hd).1
     obtain⟨f,H⟩:∃f,g.ports.getD v []=f:=⟨_,rfl⟩;have r:g.ports[v]?=some f:=by rw[<-H];simp[zK,a5]
     have a0:=c.pop hd f;have a2:f.length<24:=by rw[<-H];exact N.deg_lt
     have J:decide (((m-o:Nat):Int)>0)=true:=decide_eq_true (by omega)
     simp only[ycax,ybxg,ycfq,yciq,J,U,hv,yj,yx,H,z,go_sem,zCP,zA,zB];refine⟨⟨by omega,by omega⟩,T,⟨by omega,by omega,by omega⟩,⟨by omega,by omega⟩,?_⟩
     refine ybd (σ:=Nat×List Int×List Nat×Nat) (fun q=>⟨[(43,.i .i64 q.1),(42,.i .i64 f.length),(41,yx f),(8,.i .i64 v),(7,.os (128,0) q.2.2.2 (q.2.2.1.length-q.2.2.2) true),(5,.os (14,0) 0 k true),(2,.pt (2,0) 0 0)],
      [(2,.one (some ⟨27,true,2,1,fun _=>[ybb g.ids,yj g.ports]⟩)),(14,.one (some ⟨3,false,1,k,fun i=>[.i .i64 (q.2.1.getD i 0)]⟩)),(128,.one (some ⟨3,false,1,q.2.2.1.length,fun i=>[.i .i64 (q.2.2.1.getD i 0:Nat)]⟩))]⟩)
      (fun q=>q.1<=f.length/\q.2.2.2<=q.2.2.1.length/\BfsIn g a v d f q.1 q.2.1 (q.2.2.1.drop q.2.2.2)/\q.2.2.1.length-q.2.2.2+1+ydf q.2.1=m-o+ydf R/\q.2.2.1.length<=31) (fun q=>f.length-q.1) (0,R,W,o+1) ⟨zV _,by show o+1<=W.length;omega,a0,by show W.length-(o+1)+1+ydf R=_;omega,by show W.length<=31;omega⟩ ?_ ?_
     .refine yu ?_;simp only[yj,yx,z,U,Nat.sub_sub,wk,go_sem,zA,zD]
     .rintro⟨j,R',W',h⟩ ⟨hj,I,b,t,M⟩;have hj:j<=f.length:=hj;have I:h<=W'.length:=I;have b:BfsIn g a v d f j R' (W'.drop h):=b;have t:W'.length-h+1+ydf R'=m-o+ydf R:=t;have M:W'.length<=31:=M;obtain⟨m',p⟩:∃m,W'.length=m:=⟨_,rfl⟩;rw[p]at I t M
      by_cases F:j<f.length
      .have A:decide ((j:Int)<(f.length:Int))=true:=decide_eq_true (by omega)
       obtain⟨l,hl⟩:∃l,f.getD j (0,0)=l:=⟨_,rfl⟩;have G:f[j]=l:=by rw[<-hl,getD_at F]
       have a1:l∈f:=by rw[<-G];exact zL _
       obtain⟨k1,k2,k3,k4,k5⟩:=N.link r a1;obtain⟨u,V⟩:=zM k1;have L:u<R'.length:=by rw[b.len];omega
       have Z:R'.getD v 0=(d:Int):=by have:=b.rv;simp[zK,this]
       have a6:d<g.ports.length:=by
        rcases b.val v _ b.rv with e|⟨k',e,X,h2⟩
        .omega
        .obtain rfl:d=k':=by omega
         exact ywh N (by omega) X h2
       have D:R'[u]?=some (R'.getD u 0):=by rw[getD_at L];exact zF L
       by_cases C:R'.getD u 0<0
       .have K:decide (R'.getD u 0<0)=true:=decide_eq_true C;simp only[ybct,ybdd,ybbx,ybce,ybdy,ybeo,yx,hl,V,A,K,p,Z,splice,and_false,go_sem,zA,zB,zI,zD];refine⟨⟨by omega,by omega⟩,⟨by omega,by omega⟩,by omega,⟨by omega,by omega⟩,by omega,ikw (by omega) (by omega),⟨by omega,by omega⟩,by omega,by decide,⟨by omega,by omega,by omega⟩,ikw (by omega) (by omega),?_⟩
        have O:R'[u]?=some (-1):=by
         rcases b.val u _ D with e|⟨k',e,_⟩
         .rw[D,e]
         .omega
        have Q:=b.discover r F (u:=u) (by rw[G];exact V) O
        have a7:=yxv (R:=R') (u:=u) (x:=(d:Int)+1) O (by omega)
        have B:(W'.drop h++[u]).length=m'-h+1:=by rw[zAJ,zCO,p];rfl
        refine yh (j+1,R'.set u ((d:Int)+1),W'.drop h++[u],0) ⟨by show j+1<=_;omega,zV _,Q,by show(W'.drop h++[u]).length-0+1+ydf (R'.set u ((d:Int)+1))=_;omega,by show(W'.drop h++[u]).length<=31;omega⟩ (by show f.length-(j+1)<f.length-j;omega) ?_
        refine ybw [(128,fun i=>(66,i))] [] [] ?_;simp only[yj,yx,z,B,wk,go_sem,zA,zD];refine⟨⟨by omega,Sim.refl _⟩,fun i S=>?_,fun i S=>?_⟩
        .rw[ybdz L]
         by_cases q:i=u
         .simp only[if_pos q];simp only[wk,go_sem]
         .simp only[if_neg q];simp only[wk,go_sem]
        .rw[yedc,zCO,p]
         by_cases q:i<m'-h
         .have e:(W'.drop h).getD i 0=W'.getD (h+i) 0:=by simp[zK,zCE]
          simp only[if_pos q,e];simp only[wk,go_sem]
         .obtain rfl:i=m'-h:=by omega
          simp only[if_neg q,zCA,Nat.zero_mul];simp only[wk,go_sem]
       .have K:decide (R'.getD u 0<0)=false:=decide_eq_false C;simp only[ybct,ybdd,ybbx,ybce,ybdy,ybeo,yx,hl,V,A,K,p,splice,go_sem,zA,zB,zI,zD];refine⟨⟨by omega,by omega⟩,⟨by omega,by omega⟩,by omega,ikw (by omega) (by omega),?_⟩
        obtain⟨y,hy⟩:=zM (show 0<=R'.getD u 0 by omega)
        have a3:=b.skip F (j:=y) (by rw[G,V,zS,D,hy])
        refine yh (j+1,R',W',h) ⟨by show j+1<=_;omega,by show h<=W'.length;omega,a3,by show W'.length-h+1+ydf R'=_;omega,by show W'.length<=31;omega⟩ (by show f.length-(j+1)<f.length-j;omega) ?_
        refine yu ?_;simp only[yj,yx,z,p,wk,go_sem,zA,zD];omega
      .obtain rfl:j=f.length:=by omega
       have A:decide ((f.length:Int)<(f.length:Int))=false:=decide_eq_false (by omega)
       simp only[ybct,ybdd,ybbx,ybce,ybdy,ybeo,A,go_sem,zA];refine yh (R',W',h) ⟨by show h<=W'.length;omega,b.finish r,by show W'.length-h+ydf R'<=30;omega,by show W'.length<=31;omega⟩ (by show W'.length-h+ydf R'<m-o+ydf R;omega) ?_
       refine yu ?_;simp only[yj,yx,z,p,wk,go_sem,zA,zD]
    .obtain rfl:o=m:=by omega
     have J:decide (((o-o:Nat):Int)>0)=false:=decide_eq_false (by omega)
     rw[zBS (by omega)]at c
     have E:=c.isDist.unique (yek N (by omega))
     subst E;have B:=c.len;simp only[ycax,ycfg,J,U,yj,yx,z,go_sem,zA,zB];have e:(ybs g a).length=k:=by omega
     unfold ybb;rw[e];exact Sim.refl _
theorem ycge{g:Gr}(c:ybi g){a:Nat}(e:a<g.ports.length):Returns zH 90 [grV g,.i .i64 a] (ybb (ybs g a)):=by
 refine Returns.of (ydow _ _ ?_);have b:=yzu (ycfd c);rw[(yhw g).2 c]at b;have d:=ybrx c e;have t1:decide ((a:Int)<0)=false:=decide_eq_false (by omega)
 have t2:decide ((a:Int)>=(g.ports.length:Int))=false:=decide_eq_false (by omega)
 simp only[grV,yj]at b d;simp only[c90,yebe,yduo,ydvd,ydop,grV,yj,clash,go_sem,zA,zB,zD];refine b.use ?_;simp only[ybj,t1,t2,clash,go_sem,zA,zB];refine d.use ?_;simp only[go_sem];exact Sim.refl _
theorem ycdh{g:Gr}(f:GrI g):Returns zH 121 [grV g] (.b (yeo g)):=by
 refine ybii ⟨_,_,zCC,rfl⟩ (fun _=>.b) (fun _=>.simple rfl) fun G m n e h o M w l a i j=>?_;obtain⟨u,rfl,c⟩:=rvl1 h;obtain⟨k,rfl,d⟩:=ygo j;exact yfx k g w (ycmj e c d a i f)
theorem ycou{g:Gr}(j:GrI g)(v:Int):Returns zH 87 [grV g,.i .i64 v] (.i .i64 (eccP g v)):=by
 refine ybii ⟨_,_,zBD,rfl⟩ (fun _=>.i) (fun _=>.simple rfl) fun G m r h k t M w p a l n=>?_;obtain⟨u,s,rfl,b,c⟩:=rvl2 k;obtain⟨o,q,rfl,d,f⟩:=yxr n;cases c.int_inv
 have e:=f.eq_simple rfl;subst e;exact yty o g v w (ycmj h b d a l j)
end Sh
end
section
namespace Sh
open Ev Go.RowKit
theorem ycko{g:Gr}(n:ybi g){c:Conf}(C:ycfp c){G:List Int}(B:∀x∈G,I64 x):Returns zH 89 [grV g,yct c,ybb G] (.b (yyt g.ports.length (yfl g G) c)):=by
 refine ybii ⟨_,_,zCK,rfl⟩ (fun _=>.b) (fun _=>.simple rfl) fun H m J h D o M w l a i E=>?_
 obtain⟨u,d,rfl,p,q⟩:∃u d,J=u::d/\RV H om0 (grV g) u/\RVL H om0 [yct c,ybb G] d:=by
  cases D with|cons x y=>exact⟨_,_,rfl,x,y⟩
 obtain⟨F,I,rfl,r,s⟩:=rvl2 q
 obtain⟨f,e,rfl,t,v⟩:∃f e,l=f::e/\VR o u f/\VRL o [F,I] e:=by
  cases E with|cons x y=>exact⟨_,_,rfl,x,y⟩
 obtain⟨j,k,rfl,z,A⟩:=yxr v;exact yrr f j k g c G w (ycmj h p t a i (ycfd n)) (ydfk h r z a i C) (ints_at h s A a i B) n
end Sh
end
section
namespace Sh
open Ev Go.RowKit
theorem ybqf{g:Gr}(c:GrI g):Returns zH 94 [grV g] (.b (yeo g)):=by
 refine Returns.of (ydqr _ _ ?_);have a:=ycdh c;simp only[grV]at a;simp only[c94,ydsl,yebr,grV,go_sem,zA,zB,zD];refine a.use ?_;simp only[ybj,yts,go_sem,zA,zB]
theorem ycls{g:Gr}(i:ybi g){c:Conf}(p:ycfp c)(f:ymt g c=true):Returns zH 95 [grV g,yct c] (.b true):=by
 refine Returns.of (yeba _ _ ?_);have j:=ybqf (ycfd i);have o:=i.2.1;have a:=i.2.2.1
 have e:=ycko i p (G:=[(g.ids.length:Int),-1]) (fun x m=>by
  simp at m;rcases m with rfl|rfl<;>exact ykd (by omega))
 unfold ymt at f;rw[zG,<-a]at f;rw[<-a,f.2]at e;rw[f.1]at j;obtain⟨n,k⟩:∃n,g.ids.length=n:=⟨_,rfl⟩;rw[k]at e;simp only[grV,ybb,k]at j e;have d:∀{q:Nat},q<2->q=0\/q=1:=fun {q} h=>by omega
 simp only[c95,ydxk,ydzn,grV,ybb,k,clash,go_sem,zA,zB,zD];refine j.use ?_;simp only[ybj,clash,go_sem,zA,zB,zI,zD];refine .inl ⟨fun q l=>by rcases d l with rfl|rfl<;>simp only[go_sem],e.useS ?_ ?_⟩
 .refine⟨Sim.refl _,Sim.refl _,?_,trivial⟩;refine ydu fun q l=>?_;rcases d l with rfl|rfl<;>(simp only[zBA,zBX,go_sem];exact⟨Sim.refl _,trivial⟩)
 simp only[go_sem];exact Sim.refl _
theorem ydly{g:Gr}{D:List Int}(d:D.length=g.ports.length)(a:∀x∈D,-1<=x/\x<=24){v:Nat}(h:v<g.ports.length)(f:g.ports.length<=24){l:Int×Int}(e:0<=l.1/\l.1<g.ports.length) :
 Returns zH 145 [.ag [.i .i64 l.1,.i .i64 l.2],.rf [ybb D],.rf [.i .i64 v]] (.b (yxo D v l)):=by
 refine Returns.of (ydgm _ _ ?_);have c:-1<=D.getD v 0/\D.getD v 0<=24:=by rw[getD_at (show v<D.length by omega)];exact a _ (zL _)
 simp only[c145,yddb,ycts,ybb,clash,go_sem,zA,zB,zI,zD];refine⟨⟨by omega,by omega⟩,⟨by omega,by omega⟩,ikw (by omega) (by omega),?_⟩
 exact Sim.refl _
theorem ybsh{g:Gr}(j:ybi g){D:List Int}(o:D.length=g.ports.length)(e:∀x∈D,-1<=x/\x<=24){v:Nat}(n:v<g.ports.length){s:List Int}(u:s.length<=1000) :
 Returns zH 96 [grV g,.i .i64 v,ybb D,ybb s] (.b (ytn g D v s)):=by
 refine Returns.of (ydyh _ _ ?_);have d:=j.2.1
 have a:=ybcf g v n 145 [.rf [ybb D],.rf [.i .i64 v]] (yxo D v) (by rfl) (by have:=j.deg_lt (v:=v);omega) (fun l p=>by
  have k:g.ports[v]?=some (g.ports.getD v []):=by simp[zK,n]
  obtain⟨r,t,_⟩:=j.link k p;exact ydly o e n d ⟨r,t⟩)
 have f:=ybwu s [D.getD v 0,wayP g D v] (by omega)
 have c:∀{q:Nat},q<2->q=0\/q=1:=fun {q} h=>by omega
 simp only[grV,ybb]at a;simp only[c96,ydtk,ydrz,ydun,grV,ybb,clash,go_sem,zA,zB,zI,zD];refine .inl (a.use ?_);simp only[ybj,clash,go_sem,zA,zB,zI,zD];refine⟨⟨by omega,by omega⟩,.inl ⟨fun q m=>by rcases c m with rfl|rfl<;>simp only[go_sem],f.useS ?_ ?_⟩⟩
 .refine⟨Sim.refl (ybb s),?_,trivial⟩;refine ydu fun q m=>?_;rcases c m with rfl|rfl<;>(simp only[zBA,zBX,go_sem];exact⟨Sim.refl _,trivial⟩)
 simp only[go_sem];exact Sim.refl _
set_option maxHeartbeats 1000000 in
theorem ybva{g:Gr}(l:ybi g){c:Conf}(L:ycfp c)(C:ymt g c=true):Returns zH 33 [grV g,yct c] (.b (yen g c)):=by
 refine Returns.of (ydxp _ _ ?_);have O:=l.1;have K:=l.2.1;have H:=ycls l L C;have z:0<g.ports.length:=by omega
 have n:=ycge l z;have w:=yhg l z;have u:=(yek l z).bound l z;have G:yen g c=c.zipIdx.all (fun p=>ytn g (ybs g 0) p.2 p.1):=by unfold yen;rw[C,zZ]
 have x:=(ygx _ _ _).1 ((zG _ _).mp C).2;obtain⟨D,B⟩:∃D,ybs g 0=D:=⟨_,rfl⟩;rw[B]at n w u G;obtain⟨m,y⟩:∃m,c.length=m:=⟨_,rfl⟩;have N:m=g.ports.length:=by rw[<-y];exact x.1
 simp only[grV,ybb,zBN]at H n;rw[G];simp only[c33,ydpa,ydtb,grV,clash,go_sem,zA,zB,zD];refine H.use ?_;simp only[ybj,ydrb,clash,go_sem,zA,zB];refine n.use ?_;simp only[ydse,yct,y,clash,go_sem,zA,zB]
 refine ybd (σ:=Nat) (fun k=>⟨[(16,.i .i64 k),(15,.i .i64 m),(14,yct c),(5,ybb D),(2,.pt (2,0) 0 0)],
  [(2,.one (some ⟨27,true,2,1,fun _=>[ybb g.ids,yj g.ports]⟩))]⟩)
  (fun k=>k<=m/\∀j s,j<k->c[j]?=some s->ytn g D j s=true) (fun k=>m-k) 0 ⟨zV _,fun j s I=>absurd I (zAI j)⟩ ?_ ?_
 .refine yu ?_;simp only[yct,ybb,y,wk,go_sem,zA,zD]
 rintro k ⟨hk,h⟩
 by_cases M:k<m
 .have A:decide ((k:Int)<(m:Int))=true:=decide_eq_true (by omega)
  obtain⟨s,E⟩:∃s,c.getD k []=s:=⟨_,rfl⟩;have r:c[k]?=some s:=by rw[<-E,getD_at (show k<c.length by omega)];exact zF _
  have F:s.length<=1000:=by
   have:=(x.2 k s r).1;simp[yfl]at this;omega
  have a:=ybsh l w u (v:=k) (by omega) F
  simp only[grV,ybb]at a;cases d:ytn g D k s with
  | true =>
    rw[d]at a;simp only[ycln,ydlw,ydlj,yct,ybb,y,E,A,clash,go_sem,zA,zB];refine⟨⟨by omega,by omega⟩,a.use ?_⟩
    simp only[ybj,ydzh,clash,go_sem,zA,zB];refine⟨ikw (by omega) (by omega),yh (k+1) ⟨by omega,fun j t I o=>?_⟩ (by omega) ?_⟩
    .by_cases q:j=k
     .subst q;rw[r]at o;cases o
      exact d
     .exact h j t (by omega) o
    .refine yu ?_;simp only[wk,go_sem,zA,zD];omega
  | false =>
    rw[d]at a;rw[ybfj (f:=fun s v=>ytn g D v s) r d];simp only[ycln,ydlw,ydlj,yct,ybb,y,E,A,clash,go_sem,zA,zB];refine⟨⟨by omega,by omega⟩,a.use ?_⟩
    simp only[ybj,ydol,clash,go_sem,zB];exact Sim.refl _
 .obtain rfl:k=m:=by omega
  have A:decide ((k:Int)<(k:Int))=false:=decide_eq_false (by omega)
  have e:c.zipIdx.all (fun p=>ytn g D p.2 p.1)=true:=ybod (f:=fun s v=>ytn g D v s) fun v s J=>h v s (by have:=(List.getElem?_eq_some_iff.1 J).1;omega) J
  rw[e];simp only[ycln,yctq,A,go_sem,zA];exact Sim.refl _
theorem ybtd{g:Gr}(c:GrI g)(d:yeo g=true):Returns zH 32 [grV g] (.ag (ycfu 3 false true (eccP g 0+1) (-1))):=by
 refine Returns.of (ydnk _ _ ?_);have a:=ybqf c;have b:=ycou c 0;have e:=yqg g 0;rw[d]at a;simp only[grV]at a b;simp only[c32,ydze,ydul,grV,clash,go_sem,zA,zB,zD];refine a.use ?_;simp only[ybj,ydrk,splice,clash,go_sem,zA,zB,zI];refine b.use ?_;simp only[ycfu,go_sem,zA,zB];exact⟨ikw (by omega) (by omega),Sim.refl _⟩
end Sh
end
section
namespace Ev
theorem ytp:∀l:List UInt8,ymf l l=true
 |[]=>rfl
 | x::l=>by
   show(zQ x.toNat x.toNat&&ymf l l)=true;rw[zO,ytp l];rfl
theorem yzw{ρ:Nat->Nat}{a:Addr}(h:a.spot.isNone=true):yvj (renA ρ a) (renA ρ a)=true:=by
 rw[ylu];unfold yvj;simp only[zO,h,Bool.and_self]
theorem ybyx{ρ:Nat->Nat}{v:Value}(b:ytz v=true)(h:eq1 v v=true):eq1 (ren1 ρ v) (ren1 ρ v)=true:=by
 unfold ytz at b;split at b
 .exact yzw b
 .rename_i a n c
  show(yvj (renA ρ a) (renA ρ a)&&zQ n n&&zQ c c)=true;rw[yzw b,zO,zO];rfl
 .rename_i d e
  have:ren1 ρ v=v:=by
   unfold ren1;split
   .rename_i a;exact absurd rfl (d a)
   .rename_i a n c;exact absurd rfl (e a n c)
   .rfl
  rw[this];exact h
theorem yuu{ρ:Nat->Nat}:∀{l:List Value},l.all ytz=true->eqL1 l l=true->eqL1 (l.map (ren1 ρ)) (l.map (ren1 ρ))=true
 |[],_,_=>rfl
 | x::l,a,h=>by
   simp only[zCW,zG]at a;have h:(eq1 x x&&eqL1 l l)=true:=h;rw[zG]at h;show(eq1 (ren1 ρ x) (ren1 ρ x)&&eqL1 (l.map (ren1 ρ)) (l.map (ren1 ρ)))=true;rw[ybyx a.1 h.1,yuu a.2 h.2];rfl
theorem ycdn{v:Value}(b:∀a,v = .agg a->False)(d:∀g a c,v = .func (.func g) a c->False):eq2 v v=eq1 v v:=by
 cases v with
 |agg a=>exact(b a rfl).elim
 | func f a c=>cases f with
   |func g=>exact(d g a c rfl).elim
   |_=>rfl
 |_=>rfl
theorem ychp{ρ:Nat->Nat}{v:Value}(b:∀a,v = .agg a->False)(d:∀g a c,v = .func (.func g) a c->False)(e:ytz v=true):ren2 ρ v=ren1 ρ v:=by
 cases v with
 |agg a=>exact(b a rfl).elim
 | func f a c=>cases f with
   |func g=>exact(d g a c rfl).elim
   |_=>cases e
 |_=>rfl
theorem yyw{ρ:Nat->Nat}{v:Value}(b:ytz v=true):(∀a,ren1 ρ v = .agg a->False)/\∀g a c,ren1 ρ v = .func (.func g) a c->False:=by
 cases v with
 |agg a=>cases b
 |func f a c=>cases b
 |pointer p=>cases p<;>exact⟨fun _ h=>(by cases h),fun _ _ _ h=>(by cases h)⟩
 |slice p n c=>cases p<;>exact⟨fun _ h=>(by cases h),fun _ _ _ h=>(by cases h)⟩
 |_=>exact⟨fun _ h=>(by cases h),fun _ _ _ h=>(by cases h)⟩
theorem ychw{ρ:Nat->Nat}{v:Value}(b:ynu v=true)(h:eq2 v v=true):eq2 (ren2 ρ v) (ren2 ρ v)=true:=by
 unfold ynu at b;split at b
 .rename_i a
  have h:eqL1 a.toList a.toList=true:=h;show eqL1 (a.toList.map (ren1 ρ)).toArray.toList (a.toList.map (ren1 ρ)).toArray.toList=true;exact yuu b h
 .rename_i g a c
  rw[zG]at b;have h:(zQ g g&&eqL1 a.toList a.toList&&eqL1 c.toList c.toList)=true:=h;simp only[zG]at h;show(zQ g g&&eqL1 (a.toList.map (ren1 ρ)).toArray.toList (a.toList.map (ren1 ρ)).toArray.toList&&eqL1 (c.toList.map (ren1 ρ)).toArray.toList (c.toList.map (ren1 ρ)).toArray.toList)=true;rw[zO,yuu b.1 h.1.2,yuu b.2 h.2];rfl
 .rename_i d e
  rw[ycdn d e]at h;rw[ychp d e b,ycdn (yyw b).1 (yyw b).2];exact ybyx b h
def reflB(b:BlkL):Bool:=b.l.all (fun v=>eq2 v v&&ynu v)&&zAO b.l.length 1000000
theorem yxe{ρ:Nat->Nat}{b:BlkL}(h:reflB b=true):∀v∈(b.ren ρ).l,eq2 v v=true:=by
 unfold reflB at h;rw[zG]at h;intro v a;obtain⟨x,c,rfl⟩:=List.mem_map.1 a;have:=List.all_eq_true.1 h.1 x c;rw[zG]at this;exact ychw this.2 this.1
theorem yqm{l:List Value}(h:∀v∈l,eq2 v v=true):∀(k:List Value) (n:Nat),l.drop n=k->ykk (tOf l) n k=true
 |[],_,_=>rfl
 | v :: k,n,e=>by
   have a:n<l.length:=by
    rcases zCD n l.length with q|q
    .exact q
    .rw[zBS q]at e;cases e
   rw[zBL a]at e
   injection e with e1 e2
   unfold ykk;rw[ydh,zF a,e1];simp only;rw[h v (by rw[<-e1];exact zL _),yqm h k (n+1) e2]
   rfl
theorem yrc{m:Mem}{b:BlkL}(a:m.b.get b.i=some b.blk)(h:∀v∈b.l,eq2 v v=true)(c:zAO b.l.length 1000000=true):yvr m b=true:=by
 unfold yvr;rw[a];show(zQ b.l.length b.l.length&&zQ b.e b.e&&zQ b.z b.z&&zAO b.l.length 1000000&&ykk (tOf b.l) 0 b.l)=true;rw[zO,zO,zO,c,yqm h b.l 0 (zCS ..)];rfl
theorem yva:∀{l:List BlkL}{t:T ABlk}{i:Nat},(∀b∈l,b.i≠i)->(yil t l).get i=t.get i
 |[],_,_,_=>rfl
 | b::l,t,i,h=>by
   unfold yil;rw[T.strict_eq,yva fun c a=>h c (zW _ a),T.set_at,if_neg (fun e=>h b zAC e.symm)]
theorem yui:∀{l:List BlkL}{t:T ABlk},yhx (l.map (·.i))=true->∀b∈l,(yil t l).get b.i=some b.blk
 |[],_,_,b,a=>by cases a
 | c :: l,t,h,b,a=>by
   have h:(!(l.map (·.i)).elem c.i&&yhx (l.map (·.i)))=true:=h;rw[zG,zBH]at h;unfold yil;rw[T.strict_eq];rcases List.mem_cons.1 a with e|a
   .subst e;rw[yva fun d f e=>?_,T.set_at,if_pos rfl];have:(l.map (·.i)).elem b.i=true:=List.elem_eq_true_of_mem (List.mem_map.2 ⟨d,f,e⟩);rw[this]at h;cases h.1
   .exact yui h.2 b a
theorem ype:∀{l:List Nat},l.Nodup->yhx l=true
 |[],_=>rfl
 | x :: l,h=>by
   rw[zBQ]at h;show(!(l.elem x)&&yhx l)=true
   have:l.elem x=false:=by
    cases a:l.elem x with
    |false=>rfl
    |true=>exact absurd (by simpa using a) h.1
   rw[this,ype h.2];rfl
theorem ybcl:∀{l:List Nat},yhx l=true->l.Nodup
 |[],_=>zBB
 | x::l,h=>by
   have h:(!(l.elem x)&&yhx l)=true:=h;rw[zG,zBH]at h;rw[zBQ];refine⟨fun a=>?_,ybcl h.2⟩;have:l.elem x=true:=by simpa using a
   rw[this]at h;cases h.1
theorem ybqh{d:Nat}:∀{l:List BlkL}{k:List Nat},(l.map (·.i)).Nodup->l.length=k.length->l.map (fun b=>ybck l k d b.i)=k
 |[],[],_,_=>rfl
 | b :: l,t::k,a,g=>by
   rw[zAT,zBQ]at a;have m:=ybqh (d:=d) a.2 (by simpa using g)
   rw[zAT];have e:ybck (b::l) (t::k) d b.i=t:=by unfold ybck;rw[zO];rfl
   rw[e];congr 1;refine zDA (zAB fun c f=>?_) m;show(bif zQ b.i c.i then t else ybck l k d c.i)=_
   have:zQ b.i c.i=false:=by
    cases j:zQ b.i c.i with
    |false=>rfl
    |true=>exact absurd (List.mem_map.2 ⟨c,f,(zAD j).symm⟩) a.1
   rw[this];rfl
 |[],_::_,_,h=>by cases h
 |_::_,[],_,h=>by cases h
def Fact.still(f:Fact):Bool:=zBC f.next0 f.low&&f.args.all ynu&&ybxk f.v&&f.pre.all (fun b=>zAO b.i f.next0&&reflB b)&&yhx (f.pre.map (·.i))&&f.post.all (fun b=>zBC f.next0 b.i&&zAO b.i f.next1&&reflB b)&&yhx (f.post.map (·.i))&&zBC f.next0 f.next1
theorem ycss{a b:Nat}(h:zAO a b=true):a<b:=zAH (zCN _) (zT h)
theorem ybog{a b:Nat}(h:a<b):zAO a b=true:=zAM h
theorem yox{f:Fact}(h:f.still=true):f.next0<=f.low/\(f.args.all ynu=true/\ybxk f.v=true)/\(∀b∈f.pre,b.i<f.next0/\reflB b=true)/\(f.pre.map (·.i)).Nodup/\(∀b∈f.post,f.next0<=b.i/\b.i<f.next1/\reflB b=true)/\(f.post.map (·.i)).Nodup/\f.next0<=f.next1:=by
 unfold Fact.still at h;simp only[zG]at h;obtain⟨⟨⟨⟨⟨⟨⟨c,d⟩,e⟩,g⟩,j⟩,k⟩,l⟩,m⟩:=h;refine⟨zT c,⟨d,e⟩,fun b a=>?_,ybcl j,fun b a=>?_,ybcl l,zT m⟩
 .have:=List.all_eq_true.1 g b a;rw[zG]at this;exact⟨ycss this.1,this.2⟩
 .have:=List.all_eq_true.1 k b a;simp only[zG]at this;exact⟨zT this.1.1,ycss this.1.2,this.2⟩
theorem ychu{f:Fact}{tgt:List Nat}{n0:Nat}(g:∀b∈f.pre,b.i<f.next0/\reflB b=true)(e:(f.pre.map (·.i)).Nodup)(c:f.pre.length=tgt.length):f.pre.map (fun b=>f.rho tgt n0 b.i)=tgt:=by
 refine zDA (zAB fun b a=>?_) (ybqh (d:=Nat.add n0 (Nat.sub f.next1 f.next0)) e c);unfold Fact.rho;have j:=(g b a).1
 have:(zBC f.next0 b.i&&zAO b.i f.next1)=false:=by
  rw[Bool.and_eq_false_iff];left
  cases h:zBC f.next0 b.i with
  |false=>rfl
  |true=>have:=zT h;omega
 rw[this];rfl
theorem ybpk{f:Fact}{tgt:List Nat}{n0 i:Nat}(a:f.next0<=i)(b:i<f.next1):f.rho tgt n0 i=i-f.next0+n0:=by
 unfold Fact.rho;rw[Bool.cond_eq_ite,if_pos (by rw[zAM a,ybog b];rfl)]
 rfl
theorem ybbb{P:Program}{f:Fact}{tgt:List Nat}{n0:Nat}(r:yha P f)(E:f.still=true)(C:f.pre.length=tgt.length)(D:tgt.Nodup)(q:∀t∈tgt,t<n0):yha P (f.move tgt n0):=by
 refine yxx r ?_;obtain⟨H,⟨I,J⟩,m,K,j,z,L⟩:=yox E
 have k:(f.move tgt n0).pre.map (·.i)=tgt:=by
  show(f.pre.map (BlkL.ren (f.rho tgt n0))).map (·.i)=tgt;rw[zAZ];exact zDA (zAB fun b a=>b.yid) (ychu (n0:=n0) m K C)
 have s:yhx ((f.move tgt n0).post.map (·.i))=true:=by
  refine ype ?_;show((f.post.map (BlkL.ren (f.rho tgt n0))).map (·.i)).Nodup
  have e:(f.post.map (BlkL.ren (f.rho tgt n0))).map (·.i)=(f.post.map (·.i)).map (fun i=>i-f.next0+n0):=by
   rw[zAZ,zAZ];refine zAB fun b a=>?_;show(b.ren (f.rho tgt n0)).i=b.i-f.next0+n0;rw[b.yid,ybpk (j b a).1 (j b a).2.1]
  rw[e];unfold List.Nodup at z ⊢;rw[zAR];refine List.Pairwise.imp_of_mem (fun {x y} F G h=>?_) z;obtain⟨B,o,rfl⟩:=List.mem_map.1 F;obtain⟨n,p,rfl⟩:=List.mem_map.1 G;have:=(j B o).1;have:=(j n p).1;omega
 have g:yhx ((f.move tgt n0).pre.map (·.i))=true:=by rw[k];exact ype D
 unfold Fact.moves;simp only[zG];refine⟨⟨⟨⟨⟨⟨⟨⟨zAM H,I⟩,J⟩,?_⟩,?_⟩,g⟩,?_⟩,?_⟩,zAM L⟩
 .refine List.all_eq_true.2 fun b a=>?_;have:=(m b a).2;unfold reflB at this;rw[zG]at this;rw[ybog (m b a).1,zZ];exact List.all_eq_true.2 fun v u=>by have:=List.all_eq_true.1 this.1 v u;rw[zG]at this;exact this.2
 .refine List.all_eq_true.2 fun b a=>?_;have:=(j b a).2.2;unfold reflB at this;rw[zG]at this;rw[ybog (j b a).2.1,zZ];exact List.all_eq_true.2 fun v u=>by have:=List.all_eq_true.1 this.1 v u;rw[zG]at this;exact this.2
 .refine List.all_eq_true.2 fun A c=>?_;obtain⟨b,a,rfl⟩:=List.mem_map.1 c;have d:=(m b a).2;have w:(b.ren (f.rho tgt n0)).i∈(f.move tgt n0).pre.map (·.i):=List.mem_map.2 ⟨_,c,rfl⟩;rw[k]at w;rw[ybog (q _ w),zZ];refine yrc (yui g _ c) (yxe d) ?_;show zAO (b.l.map _).length 1000000=true;rw[zX];unfold reflB at d;rw[zG]at d;exact d.2
 .refine List.all_eq_true.2 fun A c=>?_;obtain⟨b,a,rfl⟩:=List.mem_map.1 c;have d:=(j b a).2.2;refine yrc (yui s _ c) (yxe d) ?_;show zAO (b.l.map _).length 1000000=true;rw[zX];unfold reflB at d;rw[zG]at d;exact d.2
end Ev
end
section
namespace Sh
open Go Ev
def Lies(B:List BlkL)(v:Value)(F:AM)(u:Value):Prop :=
 ∃ρ:Nat->Nat,(∀b∈B,∀c∈B,ρ b.i=ρ c.i->b.i=c.i)/\(∀b∈B,F (ρ b.i)=some (b.ren ρ).blk)/\u=ren1 ρ v
theorem Lies.mono{B:List BlkL}{v:Value}(F G:AM)(u:Value)(h:Le F G)(k:Lies B v F u):Lies B v G u:=by
 obtain⟨ρ,a,c,d⟩:=k;exact⟨ρ,a,fun b e=>h _ _ (c b e),d⟩
def yeeb(B:List BlkL)(j:Nat):Option BlkL:=B.find? fun b=>zQ b.i j
def ycmy(p:Nat->Bool):Nat->Bool
 |0=>true
 |n+1=>p n&&ycmy p n
theorem ybrl{p:Nat->Bool}:∀{n:Nat},ycmy p n=true->∀k,k<n->p k=true
 |0,_,k,h=>absurd h (zAI k)
 | n+1,h,k,hk=>by
   have h:(p n&&ycmy p n)=true:=h;rw[zG]at h
   by_cases q:k=n
   .rw[q];exact h.1
   .exact ybrl h.2 k (by omega)
def ybkq(B:List BlkL)(z n:Nat)(row:Nat->List Value->Bool):Value->Bool
 | .slice (some a) m _=>a.spot.isNone&&zQ m n&&(match yeeb B a.block with
   |some b=>zQ b.z z&&zBC (a.off+n*z) b.l.length&&ycmy (fun k=>row k ((b.l.drop (a.off+k*z)).take z)) n
   |none=>false)
 |.slice none 0 0=>zQ n 0
 |_=>false
theorem yug {B:List BlkL}{F:AM}{ρ:Nat->Nat}{z n:Nat}{row:Nat->List Value->Bool}{v:Value}{g:Nat->List SV}(D:∀b∈B,F (ρ b.i)=some (b.ren ρ).blk) (h:ybkq B z n row v=true)
 (I:∀k L,k<n->row k L=true->L.length=z/\RVL F om0 (g k) (L.map (ren2 ρ))/\(g k).all one1=true):RV F om0 (.sl z n g) (ren1 ρ v):=by
 unfold ybkq at h;split at h
 .rename_i a m c
  simp only[zG]at h;obtain⟨⟨x,y⟩,f⟩:=h;split at f
  .rename_i b u
   simp only[zG]at f;obtain⟨⟨f,s⟩,C⟩:=f;have H:m=n:=zAD y;have J:=zAD f;have s:=zT s;have q:=List.mem_of_find?_eq_some u;have E:b.i=a.block:=zAD (List.find?_some (p:=fun b:BlkL=>zQ b.i a.block) u);have r:=D b q;rw[E]at r;show RV F om0 _ (.slice (some (renA ρ a)) m c);rw[ylu];subst H;obtain⟨A,o,K⟩:=a;have t:K=none:=by simpa using x
   subst t;have r:F (ρ A)=some (.cells (tOf (b.l.map (ren2 ρ))) (b.l.map (ren2 ρ)).length b.e b.z):=r;have d:∀k,k<m->_:=fun k hk=>I k _ hk (ybrl C k hk);refine .sl (L:=fun k=>((b.l.drop (o+k*z)).take z).map (ren2 ρ)) r (.inl J) (by rw[zX];exact s) ?_ ?_ (fun k hk=>(d k hk).2.1) (fun k hk=>(d k hk).2.2)
   .intro k hk;rw[zX];exact(d k hk).1
   .intro k hk j G;rw[ydh];simp only[zCH,List.getElem?_take,zCE,G,if_true]
  .cases f
 .have h:zQ n 0=true:=h;have w:=zAD h;subst w;exact .sl0 (.inl rfl)
 .cases h
def isI(v:Value)(n:Int):Bool:=match v with
 |.int .i64 m=>ybip m n
 |_=>false
def isS(v:Value)(s:ByteArray):Bool:=match v with
 |.string t=>ymf t.data.toList s.data.toList
 |_=>false
theorem ysy{F:AM}{ρ:Nat->Nat}{v:Value}{n:Int}(h:isI v n=true):RV F om0 (.i .i64 n) (ren2 ρ v):=by
 unfold isI at h;split at h
 .rw[yuk h];exact .i
 .cases h
theorem ycwk{F:AM}{ρ:Nat->Nat}{v:Value}{s:ByteArray}(h:isS v s=true):RV F om0 (.a (.string s)) (ren2 ρ v):=by
 unfold isS at h;split at h
 .rename_i t
  have e:=yrw h
  have:t=s:=by
   cases t;cases s
   congr 1;exact Array.toList_inj.1 e
  rw[this];exact .a rfl
 .cases h
def ydnr(ls:List (Int×Int))(k:Nat):List Value->Bool
 |[x,y]=>isI x (ls.getD k (0,0)).1&&isI y (ls.getD k (0,0)).2
 |_=>false
def ycsw(l:List VarR)(k:Nat):List Value->Bool
 |[s,a,b,c,d,e]=>isS s (l.getD k default).name&&isI a (l.getD k default).kind&&isI b (l.getD k default).lo&&isI c (l.getD k default).hi&&isI d (l.getD k default).perNode&&isI e (l.getD k default).perID
 |_=>false
def ybcn(B:List BlkL)(ls:List (Int×Int))(v:Value):Bool:=ybkq B 2 ls.length (ydnr ls) v
def isSl:Value->Bool
 |.slice _ _ _=>true
 |_=>false
def ybwq(B:List BlkL)(l:List SetR)(k:Nat):List Value->Bool
 |[a,v]=>isI a (l.getD k default).var&&isSl v&&ybcn B (l.getD k default).val v
 |_=>false
def yceb(B:List BlkL)(l:List RuleR)(k:Nat):List Value->Bool
 |[s,v,w]=>isS s (l.getD k default).name&&isSl v&&ybcn B (l.getD k default).guard v&&isSl w&&ybkq B 2 (l.getD k default).sets.length (ybwq B (l.getD k default).sets) w
 |_=>false
def ycii(B:List BlkL)(v:Value)(l:List VarR):Bool:=ybkq B 6 l.length (ycsw l) v
def ybqd(B:List BlkL)(v:Value)(l:List RuleR):Bool:=ybkq B 3 l.length (yceb B l) v
section
variable {B:List BlkL}{F:AM}{ρ:Nat->Nat}
theorem ybln{v:Value}(h:isSl v=true):ren2 ρ v=ren1 ρ v:=by
 unfold isSl at h;split at h
 .rfl
 .cases h
theorem ywp(c:∀b∈B,F (ρ b.i)=some (b.ren ρ).blk){ls:List (Int×Int)}{v:Value}(h:ybcn B ls v=true):RV F om0 (yx ls) (ren1 ρ v):=by
 refine yug c h fun k L hk a=>?_;unfold ydnr at a;split at a
 .simp only[zG]at a;exact⟨rfl,.cons (ysy a.1) (.cons (ysy a.2) .nil),rfl⟩
 .cases a
theorem ybtg(m:∀b∈B,F (ρ b.i)=some (b.ren ρ).blk){l:List VarR}{v:Value}(h:ycii B v l=true):RV F om0 (yfk l) (ren1 ρ v):=by
 refine yug m h fun k L hk a=>?_;unfold ycsw at a;split at a
 .simp only[zG]at a;obtain⟨⟨⟨⟨⟨c,d⟩,e⟩,f⟩,g⟩,j⟩:=a;exact⟨rfl,.cons (ycwk c) (.cons (ysy d) (.cons (ysy e) (.cons (ysy f) (.cons (ysy g) (.cons (ysy j) .nil))))),rfl⟩
 .cases a
theorem ybrv(c:∀b∈B,F (ρ b.i)=some (b.ren ρ).blk){l:List SetR}{v:Value}(h:ybkq B 2 l.length (ybwq B l) v=true):RV F om0 (yju l) (ren1 ρ v):=by
 refine yug c h fun k L hk a=>?_;unfold ybwq at a;split at a
 .simp only[zG]at a;obtain⟨⟨d,e⟩,f⟩:=a;refine⟨rfl,.cons (ysy d) (.cons ?_ .nil),rfl⟩;rw[ybln e];exact ywp c f
 .cases a
theorem ybkv(c:∀b∈B,F (ρ b.i)=some (b.ren ρ).blk){l:List RuleR}{v:Value}(h:ybqd B v l=true):RV F om0 (ydn l) (ren1 ρ v):=by
 refine yug c h fun k L hk a=>?_;unfold yceb at a;split at a
 .simp only[zG]at a;obtain⟨⟨⟨⟨d,e⟩,f⟩,g⟩,j⟩:=a;refine⟨rfl,.cons (ycwk d) (.cons ?_ (.cons ?_ .nil)),rfl⟩
  .rw[ybln e];exact ywp c f
  .rw[ybln g];exact ybrv c j
 .cases a
end
structure LaidP(fp:Fact)(t:ByteArray)(p:ProgR)(vv vr:Value)(Bv Br:List BlkL):Prop where
 args:fp.args=[.string t]
 pre:fp.pre=[]
 v:fp.v = .agg #[.string p.name,vv,vr]
 still:fp.still=true
 bv:∀b∈Bv,b∈fp.post
 br:∀b∈Br,b∈fp.post
 vars:ycii Bv vv p.vars=true
 rules:ybqd Br vr p.rules=true
theorem ycka{P:Program}{fp:Fact}{t:ByteArray}{p:ProgR}{N M:Value}{Q O:List BlkL}(I:yha P fp)(h:LaidP fp t p N M Q O):Returns P fp.g [.a (.string t)] (.ag (yfu (Lies Q N) (Lies O M) p)):=by
 intro G m Z L T K
 have V:Z=[.string t]:=by
  cases K with
  |cons a b=>cases a with|a _=>cases b with|nil=>rfl
 subst V;obtain⟨s1,⟨s2,s3⟩,s4,s5,q,R,s8⟩:=yox h.still;have E:=ybbb (tgt:=[]) (n0:=m.next) I h.still (by rw[h.pre];rfl) zBB (fun t U=>by cases U)
 obtain⟨ρ,o⟩:∃ρ,fp.rho [] m.next=ρ:=⟨_,rfl⟩
 have n:(fp.move [] m.next).post=fp.post.map (BlkL.ren ρ):=by rw[<-o];rfl
 have W:(fp.move [] m.next).v = .agg #[.string p.name,ren1 ρ N,ren1 ρ M]:=by
  show renV (fp.rho [] m.next) fp.v=_
  rw[o,h.v];rfl
 have l:(fp.move [] m.next).pre=[]:=by
  show fp.pre.map _=[];rw[h.pre];rfl
 have r:(fp.move [] m.next).fits fp.g [.string t] m=true:=by
  unfold Fact.fits;rw[l];show(zQ fp.g fp.g&&zQ m.next m.next&&eqL2 (fp.args.map (ren2 _)) [.string t]&&true)=true
  rw[zO,zO,h.args];show(true&&true&&(ymf t.data.toList t.data.toList&&true)&&true)=true;rw[ytp];rfl
 have f:∀b∈fp.post,ρ b.i=b.i-fp.next0+m.next:=fun b d=>by rw[<-o];exact ybpk (q b d).1 (q b d).2.1
 have H:yhx ((fp.post.map (BlkL.ren ρ)).map (·.i))=true:=by
  refine ype ?_
  have e:(fp.post.map (BlkL.ren ρ)).map (·.i)=(fp.post.map (·.i)).map (fun i=>i-fp.next0+m.next):=by
   rw[zAZ,zAZ];refine zAB fun b d=>?_;show(b.ren ρ).i=_;rw[b.yid,f b d];rfl
  rw[e];unfold List.Nodup at R ⊢;rw[zAR];refine List.Pairwise.imp_of_mem (fun {x y} X Y h=>?_) R;obtain⟨S,z,rfl⟩:=List.mem_map.1 X;obtain⟨u,C,rfl⟩:=List.mem_map.1 Y;have:=(q S z).1;have:=(q u C).1;omega
 have J:=ybbt E r;unfold Fact.out at J;rw[W,l,n]at J;refine⟨_,_,_,J,zJ _,?_,rfl,?_⟩
 .intro i b d;show(yil m.b (fp.post.map (BlkL.ren ρ))).get i=some b;rw[yva fun c j=>?_]
  .exact d
  .obtain⟨c,D,rfl⟩:=List.mem_map.1 j;have:=L i b d;rw[c.yid,f c D];omega
 .have s:∀b∈fp.post,frsh m.next ⟨(fp.move [] m.next).next1,yil m.b (fp.post.map (BlkL.ren ρ)),(fp.move [] m.next).low⟩ G (ρ b.i)=some (b.ren ρ).blk:=fun b d=>by
   unfold frsh;rw[if_pos (by rw[f b d];omega)]
   have:=yui (t:=m.b) H _ (List.mem_map.2 ⟨b,d,rfl⟩);rw[b.yid]at this;exact this
  have k:∀b∈fp.post,∀c∈fp.post,ρ b.i=ρ c.i->b.i=c.i:=fun b d c j e=>by
   rw[f b d,f c j]at e;have:=(q b d).1;have:=(q c j).1;omega
  refine .ag (.cons (.a rfl) (.cons (.ex ?_ (fun A B w=>Lies.mono A B w) ?_) (.cons (.ex ?_ (fun A B w=>Lies.mono A B w) ?_) .nil)))
  .exact⟨ρ,fun b d c j=>k b (h.bv b d) c (h.bv c j),fun b d=>s b (h.bv b d),rfl⟩
  .exact ybtg (fun b d=>s b (h.bv b d)) h.vars
  .exact⟨ρ,fun b d c j=>k b (h.br b d) c (h.br c j),fun b d=>s b (h.br b d),rfl⟩
  .exact ybkv (fun b d=>s b (h.br b d)) h.rules
def inB(B:List BlkL):Value->Bool
 |.slice (some a) _ _=>(B.map (·.i)).elem a.block
 |.pointer (some a)=>(B.map (·.i)).elem a.block
 |.agg _=>false
 |.func _ _ _=>false
 |_=>true
theorem yjy{B:List BlkL}{ρ σ:Nat->Nat}(h:∀b∈B,ρ b.i=σ b.i){v:Value}(d:inB B v=true):ren1 ρ v=ren1 σ v:=by
 have hk:∀j,(B.map (·.i)).elem j=true->ρ j=σ j:=fun j g=>by
  have:j∈B.map (·.i):=by simpa using g
  obtain⟨b,e,rfl⟩:=List.mem_map.1 this;exact h b e
 cases v with
 | slice p n c=>cases p with
   |none=>rfl
   | some a =>
     show Value.slice (some (renA ρ a)) n c = .slice (some (renA σ a)) n c;rw[ylu,ylu,hk _ d]
 | pointer p=>cases p with
   |none=>rfl
   | some a =>
     show Value.pointer (some (renA ρ a)) = .pointer (some (renA σ a));rw[ylu,ylu,hk _ d]
 |agg a=>cases d
 |func f a c=>cases d
 |_=>rfl
theorem ybpp{B:List BlkL}{d:Nat->Nat}{v:Value}(b:inB B v=true):ren2 d v=ren1 d v:=by
 cases v with
 |agg a=>cases b
 |func f a c=>cases b
 |_=>rfl
theorem ybtr{B:List BlkL}{ρ σ:Nat->Nat}(h:∀b∈B,ρ b.i=σ b.i){v:Value}(a:inB B v=true):ren2 ρ v=ren2 σ v:=by
 rw[ybpp a,ybpp a];exact yjy h a
def ybke(B:List BlkL):Bool:=B.all fun b=>b.l.all (inB B)
theorem ybhl{B:List BlkL}{ρ σ:Nat->Nat}(f:ybke B=true)(h:∀b∈B,ρ b.i=σ b.i){b:BlkL}(c:b∈B):b.ren ρ=b.ren σ:=by
 have d:=List.all_eq_true.1 (List.all_eq_true.1 f b c)
 have e:∀a:Nat->Nat,b.ren a=⟨a b.i,b.e,b.z,b.l.map (ren2 a)⟩:=fun a=>by
  unfold BlkL.ren;rw[ybp]
 rw[e,e,h b c];congr 1;exact zAB fun v g=>ybtr h (d v g)
theorem ybat{low:Nat}:∀{l:List BlkL}{t:T ABlk},(∀b∈l,b.i<low)->ylo t low l=t
 |[],_,_=>rfl
 | b :: l,t,h=>by
   have d:=h b zAC;unfold ylo
   have e:zBC low b.i=false:=by
    cases q:zBC low b.i with
    |false=>rfl
    |true=>have:=zT q;omega
   rw[e,ybf,if_neg (by simp)]
   exact ybat fun c a=>h c (zW _ a)
structure GoodV(fv:Fact)(p:ProgR)(vv vr:Value)(Bv Br:List BlkL):Prop where
 args:fv.args=[.agg #[.string p.name,vv,vr]]
 pre:∀b∈fv.pre,b∈Bv\/b∈Br
 bv:∀b∈Bv,b∈fv.pre
 br:∀b∈Br,b∈fv.pre
 v:fv.v = .bool true
 post:fv.post=[]
 still:fv.still=true
 apart:(Bv.all fun b=>Br.all fun c=>!(zQ b.e c.e) && !(zQ b.i c.i))=true
 cv:ybke Bv=true
 cr:ybke Br=true
 iv:inB Bv vv=true
 ir:inB Br vr=true
 refl:eq2 (.agg #[.string p.name,vv,vr]) (.agg #[.string p.name,vv,vr])=true
theorem ycmr{P:Program}{fv:Fact}{p:ProgR}{w u:Value}{Bv z:List BlkL}(a7:yha P fv)(h:GoodV fv p w u Bv z):Returns P fv.g [.ag (yfu (Lies Bv w) (Lies z u) p)] (.b true):=by
 intro G m us a9 L a8
 obtain⟨f,j,hu,a1,a2,a3,a4⟩:∃f j:Nat->Nat,us=[.agg #[.string p.name,ren1 f w,ren1 j u]]/\(∀b∈Bv,∀c∈Bv,f b.i=f c.i->b.i=c.i)/\(∀b∈Bv,G (f b.i)=some (b.ren f).blk) /\
  (∀b∈z,∀c∈z,j b.i=j c.i->b.i=c.i)/\∀b∈z,G (j b.i)=some (b.ren j).blk:=by
  cases a8 with
  | cons a b =>
    cases b
    cases a with
    | ag K =>
      cases K with
      | cons x1 K =>
        cases x1
        cases K with
        | cons x2 K =>
          cases x2 with
          | ex q2 _ _ =>
            cases K with
            | cons x3 K =>
              cases x3 with
              | ex q3 _ _ =>
                cases K
                obtain⟨f,b1,b2,rfl⟩:=q2;obtain⟨j,b3,b4,rfl⟩:=q3;exact⟨f,j,rfl,b1,b2,b3,b4⟩
 subst hu;obtain⟨s1,⟨s2,s3⟩,s4,S,s6,s7,s8⟩:=yox h.still
 have V:∀b∈Bv,∀c∈z,b.e≠c.e/\b.i≠c.i:=fun b k c A=>by
  have:=List.all_eq_true.1 (List.all_eq_true.1 h.apart b k) c A;simp only[zG,zBH]at this;exact⟨fun e=>(by rw[e,zO]at this;exact absurd this.1 (by decide)),fun e=>(by rw[e,zO]at this;exact absurd this.2 (by decide))⟩
 let R:Nat->Nat:=fun i=>if (Bv.map (·.i)).elem i then f i else j i
 have o:∀b∈Bv,∀c∈z,f b.i≠j c.i:=fun b k c A e=>by
  have U:=a2 b k;have e2:=a4 c A;rw[e,e2]at U
  injection U with U
  unfold BlkL.blk at U
  injection U with _ _ e3 _
  exact(V b k c A).1 e3.symm
 have hG:∀i b,G i=some b->i<m.next:=fun i b k=>a9 i b (L i b k)
 have T:∀b∈Bv,R b.i=f b.i:=fun b k=>if_pos (by simpa using⟨b,k,rfl⟩)
 have sr:∀b∈z,R b.i=j b.i:=fun b k=>by
  refine if_neg fun q=>?_;have:b.i∈Bv.map (·.i):=by simpa using q
  obtain⟨d,hd,a5⟩:=List.mem_map.1 this;exact(V d hd b k).2 a5
 have s:∀b∈fv.pre,R b.i<m.next:=fun b k=>by
  rcases h.pre b k with q|q
  .rw[T b q];exact hG _ _ (a2 b q)
  .rw[sr b q];exact hG _ _ (a4 b q)
 have Z:∀b∈fv.pre,∀c∈fv.pre,R b.i=R c.i->b.i=c.i:=fun b k c A e=>by
  rcases h.pre b k with q|q<;>rcases h.pre c A with E|E
  .rw[T b q,T c E]at e;exact a1 b q c E e
  .rw[T b q,sr c E]at e;exact absurd e (o b q c E)
  .rw[sr b q,T c E]at e;exact absurd e.symm (o c E b q)
  .rw[sr b q,sr c E]at e;exact a3 b q c E e
 obtain⟨n,r⟩:∃t,fv.pre.map (fun b=>R b.i)=t:=⟨_,rfl⟩
 have b0:∀t∈n,t<m.next:=fun t ht=>by
  rw[<-r]at ht;obtain⟨b,k,rfl⟩:=List.mem_map.1 ht;exact s b k
 have b5:n.Nodup:=by
  rw[<-r];have S:=S;unfold List.Nodup at S ⊢;rw[zAR]at S ⊢;exact List.Pairwise.imp_of_mem (fun {x y} hx hy h e=>h (Z x hx y hy e)) S
 have I:fv.pre.length=n.length:=by rw[<-r,zX]
 have a6:=ybbb (n0:=m.next) a7 h.still I b5 b0
 have H:=ychu (n0:=m.next) s4 S I
 obtain⟨ρ,Q⟩:∃ρ,fv.rho n m.next=ρ:=⟨_,rfl⟩
 rw[Q,<-r]at H;have N:∀b∈fv.pre,ρ b.i=R b.i:=List.map_inj_left.1 H;have D:∀b∈Bv,ρ b.i=f b.i:=fun b k=>by rw[N b (h.bv b k),T b k]
 have C:∀b∈z,ρ b.i=j b.i:=fun b k=>by rw[N b (h.br b k),sr b k]
 have J:(fv.move n m.next).args=[.agg #[.string p.name,ren1 f w,ren1 j u]]:=by
  show fv.args.map (ren2 (fv.rho n m.next))=_
  rw[Q,h.args,<-yjy D h.iv,<-yjy C h.ir];rfl
 have O:eqL2 [.agg #[.string p.name,ren1 f w,ren1 j u]] [.agg #[.string p.name,ren1 f w,ren1 j u]]=true:=by
  have hf:ynu (.agg #[.string p.name,w,u])=true:=by
   have:=s2;rw[h.args]at this
   simpa using this
  have e:=ychw (ρ:=ρ) hf h.refl;rw[show ren2 ρ (.agg #[.string p.name,w,u]) = .agg #[.string p.name,ren1 ρ w,ren1 ρ u]from rfl,yjy D h.iv,yjy C h.ir]at e
  show(eq2 _ _&&true)=true;rw[e];rfl
 have Y:∀b∈fv.pre,m.b.get (ρ b.i)=some (b.ren ρ).blk:=fun b k=>by
  rcases h.pre b k with q|q
  .rw[ybhl h.cv D q,D b q];exact L _ _ (a2 b q)
  .rw[ybhl h.cr C q,C b q];exact L _ _ (a4 b q)
 have hp:(fv.move n m.next).pre=fv.pre.map (BlkL.ren ρ):=by rw[<-Q];rfl
 have X:(fv.move n m.next).fits fv.g [.agg #[.string p.name,ren1 f w,ren1 j u]] m=true:=by
  unfold Fact.fits;rw[J,O];show(zQ fv.g fv.g&&zQ m.next m.next&&true&&(fv.move n m.next).pre.all (yvr m))=true
  rw[zO,zO,hp];show List.all _ _=true;refine List.all_eq_true.2 fun b' a0=>?_;obtain⟨b,k,rfl⟩:=List.mem_map.1 a0;have h2:=(s4 b k).2;refine yrc ?_ (yxe h2) ?_
  .rw[b.yid];exact Y b k
  .show zAO (b.l.map _).length 1000000=true;rw[zX];unfold reflB at h2;rw[zG]at h2;exact h2.2
 have hs:=ybbt a6 X;unfold Fact.out at hs
 have hv:(fv.move n m.next).v = .bool true:=by
  show renV (fv.rho n m.next) fv.v=_
  rw[h.v];rfl
 have M:(fv.move n m.next).post=[]:=by
  show fv.post.map _=[];rw[h.post];rfl
 rw[hv,M]at hs;refine⟨_,_,_,hs,zJ _,?_,rfl,.b⟩;intro i b k;show(ylo m.b m.next (fv.move n m.next).pre).get i=some b
 rw[ybat fun c A=>?_]
 .exact k
 .rw[hp]at A;obtain⟨c,W,rfl⟩:=List.mem_map.1 A;rw[c.yid,N c W];exact s c W
end Sh
end
section
namespace Sh
open Go Ev
def BqP:ProgT:=ycg (by8 [98,102,115]) (by8 [100]) (by8 [112]) (by8 [116,111,112]) (by8 [108,111,119])
def Bqt:ByteArray:=ybg
def Bqv:Value:=.slice (some ⟨867,0,none⟩) 2 CU
def Bqr:Value:=.slice (some ⟨1416,0,none⟩) 2 CU
def BqB:List BlkL:=yre.post.take 1
def BqC:List BlkL:=yre.post.drop 1
theorem ybtu:Returns zH 11 [.a (.string Bqt)] (.ag (yfu (Lies BqB Bqv) (Lies BqC Bqr) BqP.raw)) :=
 ycka (fp:=yre) (ybr.at_ yccx 0 rfl) ⟨rfl,rfl,rfl,by kernel_rfl,fun _ h=>zAN h,fun _ h=>zBV h,by kernel_rfl,by kernel_rfl⟩
theorem ydxi:ybma.pre=yre.post:=rfl
theorem ycma:Returns zH 130 [.ag (yfu (Lies BqB Bqv) (Lies BqC Bqr) BqP.raw)] (.b true) :=
 ycmr (fv:=ybma) (ybr.at_ ycaa 0 rfl) ⟨rfl,fun b h=>by
  rw[ydxi,<-List.take_append_drop 1 yre.post]at h;exact List.mem_append.1 h,fun _ h=>zAN h,fun _ h=>zBV h,rfl,rfl,by kernel_rfl,by kernel_rfl,by kernel_rfl,by kernel_rfl,by kernel_rfl,by kernel_rfl,by kernel_rfl⟩
theorem ydsi:BqP.ok=true:=by kernel_rfl
end Sh
end
section
namespace Ev
open Go Go.RowKit
def hkL:Hooks:=⟨none,none,some 175,symB,[],none⟩
theorem yeag:HooksOk zH hkL:=⟨fun g h=>(by cases h),fun g h=>(by cases h),fun g h=>(by cases h;exact ycbi),fun c a=>(by cases a),fun g h=>(by cases h)⟩
set_option maxRecDepth 1000000 in
theorem ybmb:outV (ev zH hkL 3000 (.call 34 [] mem0))=some (.bool true):=by kernel_rfl
theorem ydjv(w:World)(a:GlW w):Calls zH 34 #[] w fun e b=>e = .returned (.bool true)/\Below w.heap.size w b :=
 ybdm mix yua yeag ybmb rfl rfl ⟨_,_,zDB,rfl⟩ w a
end Ev
end
section
namespace Sh
open Ev Go.RowKit
theorem ydfo{g:Gr}(c:ybi g)(d:yeo g=true):0<=eccP g 0/\eccP g 0<=1000:=by
 refine⟨?_,(yqg g 0).2⟩;have b:0<g.ports.length:=by have:=c.1;omega
 have e:eccP g 0=ycr (ybs g 0):=by
  unfold eccP;rw[if_pos ⟨d,by omega,by omega⟩]
  rfl
 have f:0<(ybs g 0).length:=by rw[yhg c b];exact b
 have a:=yxf c d b;rw[zN,zF f]at a;have a:(ybs g 0)[0]=0:=a;rw[e,<-a];exact yta _ _ (zL f)
theorem ybll:Returns zH 34 [] (.b true):=by
 refine ybii ⟨_,_,zDB,rfl⟩ (fun _=>.b) (fun _=>.simple rfl) fun G m i g c j M w f a h d=>?_;cases c
 cases d
 exact ydjv w fun x e=>(a.gl x e).1
theorem ycgi:Returns zH 31 [] (.a (.string Bqt)):=by
 refine Returns.of (yduj _ _ ?_);simp only[c31,ydpv,ydom,go_sem];exact Sim.refl _
end Sh
end
end Go.Proofs.YthclbjjgfcgbgaaGreatDoor
