/- Joined. -/
import Derived.Test.YthclbjjgfcgbgaaGreatDoorPkCl7
import Derived.Test.YthclbjjgfcgbgaaGreatDoorPkCl6
set_option linter.unusedSimpArgs false
set_option linter.unusedVariables false
set_option maxRecDepth 8000
open Nat renaming reduceEqDiff->zA,reduceAdd->zB,reduceLT->zD,reduceLeDiff->zI,le_refl->zJ,beq_refl->zN,beq->zQ,le_of_ble_eq_true->zS,zero_le->zU,add_comm->zX,reduceBEq->zY,eq_of_beq_eq_true->zAB,zero_add->zAE,lt_of_lt_of_le->zAH,not_lt_zero->zAI,ble_eq_true_of_le->zAM,blt->zAO,ble->zBD,shiftRight_eq_div_pow->zBJ,testBit_lt_two_pow->zBQ,pow_lt_pow_right->zBU,pow_le_pow_right->zBV,reduceMul->zBW,lt_of_le_of_lt->zBY,lt_of_lt_of_eq->zBZ,sub_self->zCA,lt_or_ge->zCD,lt_succ_self->zCP,lt_irrefl->zCW
open Go.Lib renaming hid->zC
open Bool renaming and_eq_true->zF,true_and->zAG,false_ne_true->zAK,not_eq_true'->zBH,and_eq_false_iff->zBS
open List renaming getElem?_eq_getElem->zG,getD->zK,getElem_mem->zO,replicate->zT,mem_cons_of_mem->zV,length_map->zW,map_congr_left->zZ,mem_cons_self->zAA,mem_of_getElem?->zAC,not_mem_nil->zAD,getElem_of_mem->zAF,length_append->zAJ,getElem?_eq_none->zAL,getD_eq_getElem?_getD->zAN,getElem_append_left->zAP,pairwise_map->zAR,getElem?_set_self->zAS,map_cons->zAT,take_length->zAU,getElem_map->zAV,length_singleton->zAW,getElem?_set_ne->zAY,map_map->zBA,getD_cons_zero->zBB,nodup_nil->zBC,nodup_append->zBG,getElem_append_right->zBI,getElem?_append_left->zBK,drop_eq_getElem_cons->zBL,getElem?_replicate->zBN,nodup_cons->zBP,drop_eq_nil_of_le->zBR,mem_of_mem_take->zBT,getD_cons_succ->zBX,findIdx?_cons->zCE,getElem?_drop->zCF,getElem?_map->zCI,all_eq_false->zCJ,length->zCK,ext_getElem->zCM,all_eq_true->zCO,length_drop->zCQ,range->zCR,foldl_cons->zCS,drop_zero->zCT,take->zCU,drop->zCV,all_cons->zCX
open Go.Proofs.Tryz renaming prog->zH,func131->zAX,func87->zBE,ntmps131->zBF,ntmps87->zBM,func121->zCC,underlying22->zCG,zeroCells241->zCH,func89->zCL,ntmps121->zCY,ntmps89->zDA,func30->zDC
open Int renaming eq_ofNat_of_zero_le->zL,toNat_natCast->zM,emod_lt_of_pos->zAQ,emod_nonneg->zAZ,reduceToNat->zBO,natCast_zero->zCN
open And renaming intro->zCB
open BitVec renaming ofInt->zCZ
open Eq renaming trans->zDB
open Go
namespace Go.Proofs.YthclbjjgfcgbgaaGreatDoor
section
namespace Sh
open Go Ev Go.RowKit
def GrI(g:Gr):Prop:=(∀x∈g.ids,I64 x)/\∀a∈g.ports,∀l∈a,I64 l.1/\I64 l.2
def ycmo(c:List (List Int)):Prop:=∀s∈c,∀x∈s,I64 x
section
variable {G:AM}{m:Mem}{φ:Phi}{M:AM}{w:World}{u u':Value}
theorem ycsf {X:Type}{z n:Nat}{K:Nat->List SV}{xs:List X}{E:Elem X}(hG:Le G m.b.get) (hr:RV G om0 (.sl z n K) u) (d:VR φ u u') (hR:Rel φ M w) (hs:Sub m M) (R:xs.length=n)
 (hE:∀k x b o L r,xs[k]?=some x->RVL G om0 (K k) L->VRL φ L r->(∀j v,r[j]?=some v->w.cell? ⟨b,o+j,none⟩=some v)->E w b o x):SlAt z E w u' xs:=by
 rcases hr.sl_inv with⟨rfl,O⟩|⟨Y,p,cp,T,N,e,zz,L,rfl,g1,g2,g3,g4,g5,g6,g7⟩
 .have:xs=[]:=List.eq_nil_of_length_eq_zero R;subst this;rcases O with rfl|⟨b,o,c,rfl⟩
  .have e:=d.eq_simple rfl;subst e;exact SlAt.nil w
  .obtain⟨g,A,t,V,k2,F,W,k5,H,I⟩:=d.slice_inv;subst F;exact⟨some A,t,rfl,zU _,H,fun q=>absurd q (by simp)⟩
 .obtain⟨g,A,t,V,k2,F,W,k5,H,I⟩:=d.slice_inv;subst F;subst R;refine⟨some A,t,rfl,W,H,fun S=>?_⟩;rcases I with⟨rfl,_⟩|I
  .obtain⟨a2,P,h2⟩:=hR.blk _ _ (hs _ _ (hG _ _ g1));have D:φ Y=some g:=V;rw[D]at P;cases P
   obtain⟨h3,h4,y,J,a0,O,Q,h6,h7⟩:=h2;refine⟨g.blk,g.base+p,rfl,(Array.getElem?_eq_some_iff.1 Q).1,fun k x U=>?_⟩;have hk:k<xs.length:=(List.getElem?_eq_some_iff.1 U).1;have a1:=ylv (z:=z) hk;have f:∀j v,j<z->(L k)[j]?=some v->∃i,y[g.base+(p+k*z+j)]?=some i/\VR φ v i:=fun j v C d=>h7 _ v (by omega) (by rw[g5 k hk j C];exact d)
   have B:∀(l:List Value) (q:Nat),(∀j v,l[j]?=some v->∃i,y[q+j]?=some i/\VR φ v i)->∃s,VRL φ l s/\∀j v,s[j]?=some v->y[q+j]?=some v:=by
    intro l
    induction l with
    |nil=>intro q _;exact⟨[],.nil,fun j v h=>by simp at h⟩
    | cons a l ih =>
      intro q h;obtain⟨i,Z,J⟩:=h 0 a rfl;obtain⟨s,e3,e4⟩:=ih (q+1) (fun j v d=>by have:=h (j+1) v (by simpa using d);rw[show q+1+j=q+(j+1)by omega];exact this)
      refine⟨i::s,.cons J e3,fun j v d=>?_⟩;cases j with
      |zero=>simp at d;subst d;exact Z
      |succ j=>have:=e4 j v (by simpa using d);rw[show q+(j+1)=q+1+j by omega];exact this
   obtain⟨r,r1,r2⟩:=B (L k) (g.base+p+k*z) (fun j v d=>by
    have C:j<z:=by rw[<-g4 k hk];exact(List.getElem?_eq_some_iff.1 d).1
    have:=f j v C d;rw[show g.base+p+k*z+j=g.base+(p+k*z+j)by omega]
    exact this)
   exact hE k x _ _ (L k) r U (g6 k hk) r1 fun j v d=>cell_of Q (by have:=r2 j v d;exact this)
  .omega
theorem ints_at{l:List Int}(h:Le G m.b.get)(p:RV G om0 (ybc l) u)(r:VR φ u u')(j:Rel φ M w)(q:Sub m M)(i:∀x∈l,I64 x):yoy w u' l:=by
 refine ycsf h p r j q rfl fun k x b o L s e g c n=>?_;have hk:k<l.length:=(List.getElem?_eq_some_iff.1 e).1;have f:l.getD k 0=x:=by simp[zK,e]
 rw[f]at g;cases g with
 | cons a b =>
   cases b
   cases a.int_inv
   obtain⟨t,rfl,d⟩:=yha c;have:=d.eq_simple rfl;subst this;exact⟨n 0 _ rfl,i x (zAC e)⟩
theorem ycob{ls:List (Int×Int)}(p:Le G m.b.get)(s:RV G om0 (ybb ls) u)(v:VR φ u u')(r:Rel φ M w)(t:Sub m M)(q:∀l∈ls,I64 l.1/\I64 l.2):ycep w u' ls:=by
 refine ycsf p s v r t rfl fun k x b o L y g e c f=>?_;have d:ls.getD k (0,0)=x:=by simp[zK,g]
 rw[d]at e;cases e with
 | cons a b =>
   cases b with
   | cons h i =>
     cases i
     cases a.int_inv
     cases h.int_inv
     obtain⟨v1,v2,rfl,j,n⟩:=yxm c;have:=j.eq_simple rfl;subst this;have:=n.eq_simple rfl;subst this;exact⟨f 0 _ rfl,f 1 _ rfl,q x (zAC g)⟩
theorem ycrp{ps:List (List (Int×Int))}(f:Le G m.b.get)(q:RV G om0 (yw ps) u)(r:VR φ u u')(h:Rel φ M w)(i:Sub m M)(n:∀ls∈ps,∀l∈ls,I64 l.1/\I64 l.2):ybfn w u' ps:=by
 refine ycsf f q r h i rfl fun k x b o L t j g c p=>?_;have e:ps.getD k []=x:=by simp[zK,j]
 rw[e]at g;cases g with
 | cons a b =>
   cases b
   obtain⟨s,rfl,d⟩:=yha c;exact⟨s,p 0 _ rfl,ycob f a d h i (n x (zAC j))⟩
theorem ydnw{c:List (List Int)}(g:Le G m.b.get)(q:RV G om0 (ydb c) u)(r:VR φ u u')(i:Rel φ M w)(j:Sub m M)(n:ycmo c):ydcg w u' c:=by
 refine ycsf g q r i j rfl fun k x b o L t l h d p=>?_;have f:c.getD k []=x:=by simp[zK,l]
 rw[f]at h;cases h with
 | cons a b =>
   cases b
   obtain⟨s,rfl,e⟩:=yha d;exact⟨s,p 0 _ rfl,ints_at g a e i j (n x (zAC l))⟩
theorem ycox{g:Gr}(d:Le G m.b.get)(o:RV G om0 (grV g) u)(p:VR φ u u')(f:Rel φ M w)(h:Sub m M)(e:GrI g):GrAt w u' g:=by
 obtain⟨L,rfl,n⟩:=o.ag_inv;cases n with
 | cons a b =>
   cases b with
   | cons i j =>
     cases j
     obtain⟨q,rfl,c⟩:=p.agg_inv;obtain⟨v1,v2,rfl,k,l⟩:=yxm c;exact⟨v1,v2,rfl,ints_at d a k f h e.1,ycrp d i l f h e.2⟩
end
theorem ybiy {g:FuncId}{args:List SV}{r:SV}{v:Value}(n:∃fn c,Tryz.prog.funcs[g]?=some fn/\fn.body=some c) (f:∀F,RV F om0 r v) (i:∀φ,VR φ v v)
 (h:∀(G:AM) (m:Mem) (us:List Value),Le G m.b.get->RVL G om0 args us->∀φ M w a,Rel φ M w->Sub m M->VRL φ us a->Calls zH g a.toArray w fun e j=>e = .returned v/\Below w.heap.size w j):Returns zH g args r:=by
 intro G m us s d o;refine⟨v,ygp m,r,yox yur n fun φ M w a k p q=>(h G m us d o φ M w a k p q).mono ?_,zJ _,Le.refl _,rfl,f _⟩;rintro e j ⟨rfl,l⟩;exact⟨v,rfl,i φ,l⟩
theorem rvl1{F:AM}{ω:Om}{a:SV}{us:List Value}(h:RVL F ω [a] us):∃u,us=[u]/\RV F ω a u:=by
 cases h with|cons x y=>cases y;exact⟨_,rfl,x⟩
theorem rvl2{F:AM}{ω:Om}{a b:SV}{us:List Value}(h:RVL F ω [a,b] us):∃u v,us=[u,v]/\RV F ω a u/\RV F ω b v:=by
 cases h with|cons x y=>obtain⟨v,rfl,q⟩:=rvl1 y;exact⟨_,v,rfl,x,q⟩
end Sh
end
section
open Go.RowKit
theorem yceb(n k:Nat)(hk:k<n):(zT k (-1:Int)++zT (n-k) 0).set k (-1)=zT (k+1) (-1)++zT (n-(k+1)) 0:=by
 apply zCM
 .simp;omega
 .intro i b c;rw[List.getElem_set];split
  .subst_vars
   rw[zAP (by simp)]
   simp
  .by_cases a:i<k
   .rw[zAP (by simpa using a),zAP (by simp;omega)];simp
   .rw[zBI (by simp;omega),zBI (by simp;omega)];simp
theorem yro(g:Gr)(a:Nat)(h:g.ports.length<=24):1+ydh (start g a)<=30:=by
 have b:=List.countP_le_length (p:=fun x:Int=>decide (x<0)) (l:=start g a);have c:(start g a).length=g.ports.length:=by simp[start]
 unfold ydh;omega
set_option maxHeartbeats 2000000 in
theorem ybbu(gv:Value)(g:Gr)(a:Nat)(w:World)(hg:GrAt w gv g)(r:ybj g)(N:a<g.ports.length) :
 Calls zH 142 #[gv,.int .i64 a] w (ydnc (ybx g a) w):=by
 have U:=r.2.1;have Hgood:=zC r
 clear r
 obtain⟨i,p,rfl,hi,hp⟩:=hg;obtain⟨A2,c2,rfl,d5,d6⟩:=ycj hp;have Hp:=zC hp
 clear hi hp
 have b7:=ybid g.ports.length (by omega)
 go_enter Tryz.func142,Tryz.ntmps142
 go_wp2
 go_loopg [17] g.ports.length (fun q t wr=>∃k:Nat,q+k=g.ports.length/\t = .int .i64 k/\Hid (Below (w.heap.size+1) (w.alloc (.cells #[i,.slice A2 g.ports.length c2] 27)) wr)/\Hid (IBlk wr (w.heap.size+1) (zT k (-1)++zT (g.ports.length-k) 0)))
 case atStart =>
  refine⟨0,by omega,rfl,zC ((Below.refl _ _).alloc (by simp) _),zC ?_⟩
  have:=IBlk.new (w.alloc (.cells #[i,.slice A2 g.ports.length c2] 27)) (zT g.ports.length (0:Int))
  simpa using this
 case round =>
  obtain⟨k,hq,rfl,c,b⟩:=hrel
  by_cases B:k<g.ports.length
  .obtain⟨x,L⟩:∃x,wr.cell? ⟨w.heap.size+1,k,none⟩=some (.int .i64 x):=⟨_,b.out.cell (by simp;omega)⟩
   have hf:=b.out.frozen k
   go_wp2
   go_roundg (gk-1)
   case measure=>omega
   case rel =>
    refine⟨k+1,by omega,by go_num,zC (c.out.setCell (by simp) _),zC ?_⟩
    have:=b.out.set_ k (-1)
    rwa [yceb _ _ B]at this
  .obtain rfl:k=g.ports.length:=by omega
   have m:IBlk wr (w.heap.size+1) (zT g.ports.length (-1)):=by simpa using b.out
   obtain⟨x,L⟩:∃x,wr.cell? ⟨w.heap.size+1,a,none⟩=some (.int .i64 x):=⟨_,m.cell (by simpa using N)⟩
   have hf:=m.frozen a;have Hb0:=zC m
   clear m b b7
   go_wp2
   go_loopg [7] (1+ydh (start g a)) (fun q t wr=>∃R Q,q=Q.length+ydh R/\q<=30/\Hid (Below (w.heap.size+1) (w.alloc (.cells #[i,.slice A2 g.ports.length c2] 27)) wr)/\Hid (IBlk wr (w.heap.size+1) R)/\Hid (BfsInv g a R Q)/\Hid (Owns wr (w.heap.size+2) 3 1 t Q.length (Q.map (fun q:Nat=>Value.int .i64 (q:Int)))))
   case atStart =>
    refine⟨start g a,[a],rfl,yro g a U,zC ((c.out.setCell (by simp) _).alloc (by have:=c.out.size;simp at this ⊢;omega) _),zC ((Hb0.out.set_ a 0).alloc _),zC (BfsInv.start N),zC ?_⟩
    refine⟨rfl,.inr ⟨_,0,1,#[.int .i64 (a:Int)],rfl,?_,?_,zJ _,by simp[maxLen],by simp,?_⟩⟩
    .have:=Hb0.out.lt;simp;omega
    .have:=heap_alloc_new (wr.setCell ⟨w.heap.size+1,a,none⟩ (.int .i64 0)) (.cells #[.int .i64 (a:Int)] 3);simpa using this
    .intro j u hu
     simpa using hu
   case round =>
    clear c Hb0 L hf
    obtain⟨R,Q,hq,d2,c,b,f,hown⟩:=hrel;obtain⟨AQ,cQ,rfl⟩:=hown.out.val;cases Q with
    | nil =>
      have Hd:=zC (f.out.isDist.unique (ydw Hgood.out N))
      go_wp2
      go_ret
      have h:=b.out.ints (fun x L=>by have:=f.out.isDist.bound Hgood.out N x L;unfold I64;omega) (by rw[f.out.len];omega)
      rw[f.out.len,Hd.out]at h;exact⟨_,rfl,h,(box2 c.out).2.2.1⟩
    | cons v Q =>
      obtain⟨gQ,oQ,d4,hv,e1,e2,b1,b4,o⟩:=hown.out.form (by simp)
      cases hv
      have O:=o 0 (.int .i64 (v:Int)) rfl;simp only[Nat.add_zero]at O;have a7:=zC o;obtain⟨d,hd⟩:=f.out.qin v (by simp)
      have a3:v<g.ports.length:=by rw[<-f.out.len];exact(List.getElem?_eq_some_iff.1 hd).1
      obtain⟨q0,q1,n,a0⟩:=box2 c.out;obtain⟨b2,a6,lv,rfl,d7,E,D⟩:=ypx Hp.out (zG a3);have S:=ymt n _ _ E
      clear E
      obtain⟨A3,c3,rfl,b6,e3⟩:=ycj D;obtain⟨z,s⟩:∃z,g.ports[v]=z:=⟨_,rfl⟩;have Hlp:=zC (show g.ports[v]?=some z by rw[zG a3,s])
      rw[s]at D S b6;have Hls:=zC D;have Hin:=zC (f.out.pop hd z);have M:=zC n
      clear s D n o f hd
      simp only[List.length_cons]at hq b1 hown O;obtain⟨i0,H,a4,K,a5⟩:=info_parts ybrb;obtain⟨vQ,Y,J,V⟩:=ycnb (P:=zH) zCG H K hown.out (k:=1) (by simp) (by simp)
      simp only[Nat.add_sub_cancel,Nat.mul_one,zAT,List.drop_succ_cons,zCT]at J;have Z:∀W,(Instr.slice 22 (.slice (some ⟨gQ,oQ,none⟩) (Q.length+1) cQ) (some (.int .i64 1)) none none).run zH W = .ok vQ W:=fun W=>by simpa using Y W
      have HoQ:=zC J;have Hi0:=zC (show _/\_/\_/\_ from⟨H,a4,K,a5⟩)
      clear J hown Y V H a4 K a5
      unfold maxLen at b4
      go_wp2
      clear Z
      obtain⟨go,rfl⟩:∃go,go=gk:=⟨_,rfl⟩
      go_loopg [43,7] z.length (fun q t tq wr=>∃(k:Nat) (R:List Int) (Q:List Nat),q+k=z.length/\t = .int .i64 k/\Hid (go=Q.length+1+ydh R)/\Hid (Below (w.heap.size+1) (w.alloc (.cells #[i,.slice (some ⟨b2,a6,none⟩) g.ports.length c2] 27)) wr)/\Hid (IBlk wr (w.heap.size+1) R)/\Hid (BfsIn g a v d z k R Q)/\Hid (Owns wr (w.heap.size+2) 3 1 tq Q.length (Q.map (fun q:Nat=>Value.int .i64 (q:Int)))))
      case atStart=>exact⟨0,R,Q,by omega,rfl,zC (by omega),c,b,Hin,HoQ⟩
      case round =>
       clear c b Hin HoQ hq S q0 q1 M a0
       obtain⟨k,R,Q,hq,rfl,Hgk,c,b,Hin,HoQ⟩:=hrel
       by_cases B:k<z.length
       .obtain⟨q0,q1,n,a0⟩:=box2 c.out;have M:=zC n;obtain⟨A4,c4,e4,_,_,hE⟩:=Hls.out.below Stable.link n;cases e4
        obtain⟨b3,d3,rfl,d8,hE⟩:=hE (by omega)
        obtain⟨⟨l1,wt⟩,s⟩:∃l,z[k]=l:=⟨_,rfl⟩;have I:z[k]?=some (l1,wt):=by rw[zG B,s]
        obtain⟨c8,c9,⟨b9,c0⟩,⟨c6,c7⟩⟩:=hE k _ I;obtain⟨k1,k2,k3,k4,k5⟩:=Hgood.out.link Hlp.out (zAC I);simp only at k1 k2 k3 k4 k5 c8 c9 b9 c0 c6 c7;obtain⟨u,rfl⟩:=zL k1;have a1:u<R.length:=by rw[Hin.out.len];omega
        have a2:v<R.length:=by rw[Hin.out.len];omega
        have G:R[v]?=some (d:Int):=Hin.out.rv;have b0:=b.out.cell a2;rw[show R[v]=(d:Int)by have:=zG a2;rw[G]at this;exact(Option.some.inj this).symm]at b0
        have d9:=b.out.cell a1;have e0:=b.out.frozen u
        have d0:d<g.ports.length:=by
         rcases Hin.out.val v _ G with e|⟨k',e,h1,h2⟩
         .omega
         .obtain rfl:d=k':=by omega
          exact yyf Hgood.out N h1 h2
        have y:z[k].1=(u:Int):=by rw[s]
        have A:R[u]?=some R[u]:=zG a1;have hB:w.heap.size+1<wr.heap.size:=b.out.lt
        clear hE I s n k1 k3 G
        by_cases d1:R[u]<0
        .have F:R[u]?=some (-1):=by
          rcases Hin.out.val u _ A with e|⟨k',e,_⟩
          .exact A.trans (congrArg some e)
          .exact absurd e (by omega)
         have Hd:=zC (Hin.out.discover Hlp.out B y F);have Hun:=zC (yxj (R:=R) (u:=u) (x:=(d:Int)+1) F (by omega))
         clear A F y
         go_wp2
         go_region
         go_wp2_with (at_builtin;refine yrt _ rfl _ _ 22 rfl (w.heap.size+2) 3 i0 (.int .i64 0) 1 8 zCG Hi0.out.1 Hi0.out.2.1 Hi0.out.2.2.1 Hi0.out.2.2.2 rfl (by decide) u7 Q.length (Q.map (fun q:Nat=>Value.int .i64 (q:Int))) (by rfl) ?hown _ 1 1 [.int .i64 (u:Int)] (by rfl) rfl ?c1 ?c2 ?c3 ?c4 ?c5 ?_)
         case hown=>exact(((HoQ.out.low (p:=⟨w.heap.size+1,u,none⟩) (by simp) _).alloc _).alloc _).drew
         case c1=>exact ycnt (by simp)
         case c2=>simp[Value.oneCell']
         case c3=>have:=Hgk.out;simp only[maxLen];omega
         case c4=>have:=Hgk.out;omega
         case c5=>simp;omega
         intro e5 w' C T b8;have hgo:=Hgk.out;have Hown:=zC C;have Hgr:=zC T
         clear C T b8
         go_wp2
         go_roundg (gk-1)
         case measure=>omega
         case rel =>
          have a9:=(((c.out.setCell (p:=⟨w.heap.size+1,u,none⟩) (by simp) (.int .i64 ((d:Int)+1))).alloc (by simp;omega) (.cells #[.int .i64 (u:Int),.int .i64 wt] 68)).alloc (by simp;omega) (.cells #[.int .i64 (u:Int)] 3)).drew
          have b5:=((((b.out.set_ u ((d:Int)+1)).alloc (.cells #[.int .i64 (u:Int),.int .i64 wt] 68)).alloc (.cells #[.int .i64 (u:Int)] 3)).drew);refine⟨k+1,R.set u ((d:Int)+1),Q++[u],by omega,by go_num,zC ?_,zC (a9.grown Hgr.out (by simp;omega) (fun x L=>?_)),zC (b5.grown Hgr.out (fun e=>?_)),Hd,zC ?_⟩
          .have:=Hun.out;simp;omega
          .have:=(HoQ.out.lt L).1;omega
          .have:=(HoQ.out.lt e.symm).1;omega
          .have:=Hown.out
           simpa using this
        .have X:0<=R[u]:=by omega
         obtain⟨j,hj⟩:=zL X;have a8:=zC (Hin.out.skip B (j:=j) (by rw[y,zM,A,hj]))
         clear A y hj
         go_wp2
         have hgo:=Hgk.out
         go_roundg (gk-1)
         case measure=>omega
         case rel=>exact⟨k+1,R,Q,by omega,by go_num,Hgk,zC (c.out.alloc (by omega) _),zC (b.out.alloc _),a8,zC (HoQ.out.alloc _)⟩
       .obtain rfl:k=z.length:=by omega
        go_wp2
        have hgo:=Hgk.out
        go_roundg (Q.length+ydh R)
        case measure=>omega
        case rel=>exact⟨R,Q,rfl,by omega,c,b,zC (Hin.out.finish Hlp.out),HoQ⟩
end
section
open Go.RowKit
theorem ybfv:zCH=Array.replicate 256 (.bool false):=by kernel_rfl
def Seen(w:World)(g:Nat)(S:List Int):Prop:=∃a,w.heap[g]?=some (.cells a 241 (0,0))/\a.size=256/\∀i:Nat,i<256->a[i]?=some (.bool (decide ((i:Int)∈S)))
theorem Seen.cell{w:World}{g:Nat}{S:List Int}(h:Seen w g S){i:Nat}(d:i<256):w.cell? ⟨g,i,none⟩=some (.bool (decide ((i:Int)∈S))):=by
 obtain⟨a,b,e,c⟩:=h;simp[World.cell?,b,c i d]
theorem Seen.frozen{w:World}{g:Nat}{S:List Int}(h:Seen w g S)(i:Nat):w.frozen? ⟨g,i,none⟩=false:=by
 obtain⟨a,b,c,d⟩:=h;simp[World.frozen?,b]
theorem Seen.set_{w:World}{g:Nat}{S:List Int}(h:Seen w g S){i:Nat}:Seen (w.setCell ⟨g,i,none⟩ (.bool true)) g (S++[(i:Int)]):=by
 obtain⟨a,b,c,d⟩:=h;refine⟨a.setIfInBounds i (.bool true),by simp[World.setCell,Array.getElem?_modify,b],by simp[c],fun j e=>?_⟩
 rw[Array.getElem?_setIfInBounds];split
 .subst_vars
  rw[if_pos (by omega)]
  simp
 .rw[d j e];congr 3;simp;omega
theorem Seen.start(w:World):Seen (w.alloc (.cells zCH 241)) w.heap.size []:=by
 refine⟨_,heap_alloc_new w _,by rw[ybfv];simp,fun i a=>?_⟩
 rw[ybfv];simp[a]
def ybln(ids:List Int):Bool:=decide ((∀x∈ids,0<=x/\x<=255)/\ids.Nodup)
def ywf(ids:List Int)(k:Nat):Prop:=(∀x∈ids.take k,0<=x/\x<=255)/\(ids.take k).Nodup
theorem ycjh{ids:List Int}{k:Nat}(hk:k<ids.length):ywf ids (k+1)↔ywf ids k/\(0<=ids[k]/\ids[k]<=255)/\ids[k]∉ids.take k:=by
 unfold ywf;rw[take_snoc ids k hk,zBG];constructor
 .rintro⟨d,f,_,g⟩;exact⟨⟨fun x c=>d x (List.mem_append_left _ c),f⟩,d _ (List.mem_append_right _ (by simp)),fun l=>g _ l _ (by simp) rfl⟩
 .rintro⟨⟨d,f⟩,g,i⟩;refine⟨fun x c=>?_,f,by simp,fun a j b h e=>?_⟩
  .rcases List.mem_append.1 c with c|c
   .exact d x c
   .simp at c;subst c;exact g
  .simp at h;subst h e;exact i j
theorem yblw{ids:List Int}{k:Nat}(h:¬ywf ids k):ybln ids=false:=by
 unfold ybln;rw[decide_eq_false_iff_not];exact fun a=>h ⟨fun x b=>a.1 x (zBT b),a.2.sublist (List.take_sublist _ _)⟩
theorem ybvy{ids:List Int}(h:ywf ids ids.length):ybln ids=true:=by
 unfold ywf at h;rw[zAU]at h;exact decide_eq_true h
set_option maxRecDepth 100000 in
set_option maxHeartbeats 1000000 in
theorem yuw(s:Value)(ids:List Int)(w:World)(o:yoy w s ids) :
 Calls zH 174 #[s] w fun e F=>e = .returned (.bool (ybln ids))/\Below w.heap.size w F:=by
 obtain⟨A,c,rfl,y,z⟩:=ycj o;have Hi:=zC o
 clear o
 go_enter Tryz.func174,Tryz.ntmps174
 go_wp2
 go_loopg [8] ids.length (fun q t wr=>∃k:Nat,q+k=ids.length/\t = .int .i64 k/\Hid (Below w.heap.size w wr)/\Hid (Seen wr w.heap.size (ids.take k))/\Hid (ywf ids k))
 case atStart=>exact⟨0,by omega,rfl,zC ((Below.refl _ _).alloc (zJ _) _),zC (Seen.start w),zC ⟨by simp,by simp⟩⟩
 case round =>
  obtain⟨k,H,rfl,a,d,l⟩:=hrel
  by_cases f:k<ids.length
  .obtain⟨b,E,rfl,G,g,r⟩:=ymv (Hi.out.below Stable.int a.out) f;obtain⟨x,p⟩:∃x,ids[k]=x:=⟨_,rfl⟩;have Hsn:=zC (ycjh f);rw[p]at g r Hsn;obtain⟨C,D⟩:=r;have Hbad:=zC (fun h=>yblw (ids:=ids) (k:=k+1) h);have Hts:=zC (take_snoc ids k f);rw[p]at Hts
   clear p
   by_cases c1:0<=x/\x<=255
   .obtain⟨m,v⟩:=c1;obtain⟨n,rfl⟩:=zL m;have j:=d.out.cell (i:=n) (by omega)
    have B:=d.out.frozen n
    by_cases c2:(n:Int)∈ids.take k
    .rw[decide_eq_true c2]at j;have Hf:=zC (Hbad.out (fun h=>(Hsn.out.1 h).2.2 c2))
     clear c2
     go_wp2
     go_ret
     exact⟨ybw Hf.out.symm,a.out⟩
    .rw[decide_eq_false c2]at j;have u:=zC (Hsn.out.2 ⟨l.out,⟨by omega,by omega⟩,c2⟩)
     clear c2
     go_wp2
     go_roundg (gk-1)
     case measure=>omega
     case rel =>
      refine⟨k+1,by omega,by go_num,zC (a.out.setCell (zJ _) _),zC ?_,u⟩
      rw[Hts.out];exact d.out.set_
   .have Hf:=zC (Hbad.out (fun h=>c1 (Hsn.out.1 h).2.1))
    by_cases c3:x<0
    .clear c1
     go_wp2
     go_ret
     exact⟨ybw Hf.out.symm,a.out⟩
    .have c4:255<x:=by omega
     clear c1
     go_wp2
     go_ret
     exact⟨ybw Hf.out.symm,a.out⟩
  .obtain rfl:k=ids.length:=by omega
   have Ht:=zC (ybvy l.out)
   go_wp2
   go_ret
   exact⟨ybw Ht.out.symm,a.out⟩
theorem yccb(g:Gr)(e:1<=g.ids.length)(f:g.ids.length<=24)(h:g.ports.length=g.ids.length):yka g=(ybln g.ids&&symB g.ports):=by
 unfold yka ybln symB;rw[<-Bool.decide_and];congr 1;apply propext;unfold ybj ycnc;constructor
 .rintro⟨_,_,_,a,b,c,d⟩;exact⟨⟨a,b⟩,c,d⟩
 .rintro⟨⟨a,b⟩,c,d⟩;exact⟨by omega,by omega,by omega,a,b,c,d⟩
set_option maxHeartbeats 1000000 in
theorem yxh(gv:Value)(g:Gr)(w:World)(t:GrAt w gv g) :
 Calls zH 131 #[gv] w fun e v=>e = .returned (.bool (yka g))/\Below w.heap.size w v:=by
 obtain⟨i,p,rfl,f,j⟩:=t;obtain⟨A,c,rfl,o,q⟩:=ycj f;obtain⟨x,c2,rfl,r,s⟩:=ycj j;have Hi:=zC f;have Hp:=zC j
 clear f j
 by_cases m:1<=g.ids.length
 .by_cases n:g.ids.length<=24
  .by_cases b:g.ports.length=g.ids.length
   .have k:((g.ports.length:Int)!=(g.ids.length:Int))=false:=by simp[b]
    have He:=zC (yccb g m n b);have u:g.ports.length<=24:=by omega
    clear b
    go_enter zAX,zBF
    go_wp2_with fail
    refine(yuw _ g.ids _ (Hi.out.below Stable.int ((Below.refl _ _).alloc (zJ _) _))).mono ?_;rintro e B ⟨rfl,a⟩;have Hb1:=zC (ywb a);obtain⟨y,z⟩:=yclv a
    clear a
    cases l:ybln g.ids with
    | false =>
      have Hv:=zC (show yka g=false by rw[He.out,l];rfl)
      go_wp2_with fail
      go_ret
      exact⟨ybw Hv.out.symm,Hb1.out⟩
    | true =>
      have Hv:=zC (show yka g=symB g.ports by rw[He.out,l];rfl)
      go_wp2_with fail
      refine(yqm _ g.ports _ (Hp.out.below (Stable.sl Stable.link) Hb1.out) (by omega)).mono ?_
      rintro e C ⟨rfl,d⟩
      go_wp2_with fail
      go_ret
      exact⟨ybw Hv.out.symm,Hb1.out.trans (d.mono Hb1.out.size)⟩
   .have k:((g.ports.length:Int)!=(g.ids.length:Int))=true:=by simp;omega
    have Hf:=zC (yjp (g:=g) (fun h=>b h.2.2.symm))
    clear b
    go_enter zAX,zBF
    go_wp2
    go_ret
    exact⟨ybw Hf.out.symm,(Below.refl _ _).alloc (zJ _) _⟩
  .have Hf:=zC (yjp (g:=g) (fun h=>n (by omega)))
   go_enter zAX,zBF
   go_wp2
   go_ret
   exact⟨ybw Hf.out.symm,(Below.refl _ _).alloc (zJ _) _⟩
 .have Hf:=zC (yjp (g:=g) (fun h=>m (by omega)))
  go_enter zAX,zBF
  go_wp2
  go_ret
  exact⟨ybw Hf.out.symm,(Below.refl _ _).alloc (zJ _) _⟩
end
section
namespace Sh
open Go Ev Go.RowKit
theorem ykj{x:Int}(h:-4611686018427387904<=x/\x<=4611686018427387904):I64 x:=by
 unfold I64;omega
theorem ycpy{g:Gr}(d:ybj g):GrI g:=by
 obtain⟨o,p,q,b,r,c,s⟩:=d;refine⟨fun x h=>ykj (by have:=b x h;omega),fun t a l e=>?_⟩
 obtain⟨v,f,rfl⟩:=zAF a;obtain⟨i,j,k,m,n⟩:=(c ⟨v,f⟩).1 l e;exact⟨ykj (by omega),ykj (by omega)⟩
theorem ybcn{g:Gr}(e:GrI g):Returns zH 131 [grV g] (.b (yka g)):=by
 refine ybiy ⟨_,_,zAX,rfl⟩ (fun _=>.b) (fun _=>.simple rfl) fun G m n d h o M w l f i j=>?_;obtain⟨u,rfl,a⟩:=rvl1 h;obtain⟨k,rfl,c⟩:=yha j;exact yxh k g w (ycox d a c f i e)
end Sh
end
section
namespace Sh
open Go Ev Go.RowKit
theorem ybxp{g:Gr}(a:ybj g){x:VarR}(b:x.ok=true)(v:Nat):-4096<=(ybi g v x).1/\(ybi g v x).2<=100000:=by
 obtain⟨c,d,e,f,h⟩:=ybuy b;obtain⟨i,j⟩:=ywp a b;have k:=a.deg_lt (v:=v);unfold ybi;split
 .exact⟨by simp only[];omega,by simp only[];omega⟩
 .split
  .exact⟨by simp only[];omega,by simp only[];omega⟩
  .split
   .exact⟨by simp only[];omega,by simp only[];omega⟩
   .exact⟨by simp only[];omega,by simp only[];omega⟩
theorem ybrn{p:ProgT}{g:Gr}(e:ybj g)(l:p.ok=true){c:Conf}(f:yef p g c=true):ConfIn g.ports.length p.vars.length c:=by
 have h:=(ygi _ _ _).1 f;have a:=l;unfold ProgT.ok at a;simp only[zF,decide_eq_true_eq]at a;refine⟨h.1.trans e.2.2.1,fun s m=>?_⟩;obtain⟨v,n,rfl⟩:=zAF m;have d:=h.2 v _ (zG n);have k:(c[v]).length=p.vars.length:=by have:=d.1;simpa using this
 refine⟨k,fun x o=>?_⟩;obtain⟨i,j,rfl⟩:=zAF o;have b:i<p.vars.length:=by omega
 have q:=d.2 i (ybi g v p.vars[i]) _ (by simp[b]) (zG j)
 have r:=ybxp e (List.all_eq_true.1 a.1.1.2 _ (zO b)) v;unfold InB;omega
structure Checked(Q1 Q2:(Nat->Option ABlk)->Value->Prop)(p:ProgT)(g:Gr):Prop where
 hg:ybj g
 hp:p.ok=true
 hf:ybjf p g=true
 hV:Returns zH 130 [.ag (ygc Q1 Q2 p.raw)] (.b true)
theorem Checked.gv{Q1 Q2:(Nat->Option ABlk)->Value->Prop}{p:ProgT}{g:Gr}(h:Checked Q1 Q2 p g):Returns zH 131 [grV g] (.b true):=by
 have e:=ybcn (ycpy h.hg);rw[(yfx g).2 h.hg]at e;exact e
section
variable {Q1 Q2:(Nat->Option ABlk)->Value->Prop}{p:ProgT}{g:Gr}
theorem ybva(k:Int):Returns zH 57 [.i .i64 k] (.b (decide (1<=k)&&decide (k<=4))):=by
 refine Returns.of (yduu _ _ ?_);simp only[c57,yeha,ydte,yut,go_sem,zA,zB]
 by_cases h:k>=1<;>simp[h]
end
end Sh
end
section
theorem yqa(s a:Nat):∀b,yis s (a+b)=yis s a+yis (s>>>a) b
 |0=>rfl
 | b+1=>by
   show yis s (a+b)+(s.testBit (a+b)).toNat=_;rw[yqa s a b];show _=yis s a+(yis (s>>>a) b+((s>>>a).testBit b).toNat);rw[Nat.testBit_shiftRight];omega
theorem ysy(s:Nat):∀b,b<=8->yis (s&&&255) b=yis s b
 |0,_=>rfl
 | b+1,h=>by
   show yis _ b+_=yis s b+_;rw[ysy s b (by omega),Nat.testBit_and,show(255:Nat)=2^8-1 from rfl,Nat.testBit_two_pow_sub_one]
   simp[show b<8 by omega]
theorem ybwr(s:Nat):popP s=yis (s>>>24&&&255) 8+yis (s>>>16&&&255) 8+yis (s>>>8&&&255) 8+yis (s&&&255) 8:=by
 simp only[ysy _ 8 (zJ _)];have a:=yqa s 8 24;have b:=yqa (s>>>8) 8 16;have c:=yqa (s>>>8>>>8) 8 8;simp only[<-Nat.shiftRight_add,zB]at a b c;unfold popP;omega
namespace Sh
open Ev Go.RowKit
theorem ybei:∀k,k<256->ybaq.getD k 0=yis k 8:=by decide
theorem ydhs:ybaq.length=256:=by decide
theorem ybzq(a v:Nat):(a:Int).fdiv (2^v)=((a>>>v:Nat):Int):=by
 have h:=ydqi (a:=a) (v:=v)
 rwa [zM]at h
theorem ycto{a:Nat}(c:a<2^32):IntKind.wrap .u32 (((zCZ (IntKind.bits .u32) (a:Int))&&&zCZ (IntKind.bits .u32) 255).toNat:Int)=((a&&&255:Nat):Int):=u32_and (b:=255) c (by decide)
theorem ydqr{a n:Nat}(h:a<2^32):a>>>n<2^32:=by rw[zBJ];exact zBY (Nat.div_le_self _ _) h
theorem ybpn{s:Nat}(d:s<2^32):Returns zH 113 [.i .u32 s] (.i .i64 (popP s)):=by
 refine Returns.of (ydjy _ _ ?_);simp only[c113,ycys,ycvl,clash,go_sem,zBO,zA,zB];have f1:=ycto d;have f2:=fun n=>ycto (ydqr (n:=n) d);simp only[IntKind.bits]at f1 f2;simp only[ybzq,f1,f2,zM,ydhs];have c:=ybwr s;have g:s>>>24<256:=by rw[zBJ];omega
 have b:∀x:Nat,x&&&255<256:=fun x=>zBY Nat.and_le_right (by omega)
 rw[ysy (s>>>24) 8 (zJ _)]at c;rw[ybei _ g,ybei _ (b (s>>>16)),ybei _ (b (s>>>8)),ybei _ (b s)];have h:=ynv (s>>>24) 8;have j:=ynv (s>>>16&&&255) 8;have k:=ynv (s>>>8&&&255) 8;have l:=ynv (s&&&255) 8;have m:=b (s>>>16);have o:=b (s>>>8);have p:=b s;have a:∀x:Int,0<=x->x<=255->inK .u8 x:=fun x e f=>⟨by simpa[IntKind.min,IntKind.signed]using e,by simpa[IntKind.max,IntKind.bits,IntKind.signed]using f⟩
 refine⟨⟨by omega,by decide⟩,⟨by omega,by omega⟩,⟨by omega,by decide⟩,by omega,a _ (by omega) (by omega),⟨by omega,by decide⟩,by omega,a _ (by omega) (by omega),by omega,a _ (by omega) (by omega),?_⟩
 rw[wrap_in (ikw (by omega) (by omega)),c]
 exact Sim.refl _
def cntV(k:Cnt):List SV:=[.i .i64 k.steps,.i .i64 k.moves,.i .i64 k.rounds,.i .i64 k.begun,.i .u32 k.pend]
def usV(l:List Nat):SV:=.sl 1 l.length (fun k=>[.i .u32 ((l.getD k 0:Nat):Int)])
end Sh
end
section
def netP(ls:List (Int×Int)):Nat:=ls.foldl (fun a l=>a|||2^l.1.toNat) 0
theorem ycgl(ls:List (Int×Int))(k:Nat)(h:k<ls.length):netP (ls.take (k+1))=netP (ls.take k)|||2^(ls.getD k (0,0)).1.toNat:=by
 unfold netP;rw[List.take_succ_eq_append_getElem h,List.foldl_append,Sh.getD_at h];rfl
theorem ydmj(ls:List (Int×Int))(h:∀l∈ls,l.1<24):netP ls<2^24:=by
 unfold netP
 have:∀(ls:List (Int×Int)) (a:Nat),(∀l∈ls,l.1<24)->a<2^24->ls.foldl (fun a l=>a|||2^l.1.toNat) a<2^24:=by
  intro ls
  induction ls with
  |nil=>intro a _ h;exact h
  | cons l ls e =>
    intro a b c;refine e _ (fun x d=>b x (zV _ d)) (Nat.or_lt_two_pow c ?_);have:=b l zAA;exact zBU (by omega) (by omega)
 exact this ls 0 h (by decide)
namespace Sh
open Ev Go.RowKit
theorem ybwm{g:Gr}(z:ybj g):Returns zH 124 [grV g] (usV (g.ports.map netP)):=by
 refine Returns.of (ydjt _ _ ?_);have M:=z.2.2.1;have N:=z.2.1;simp only[c124,ydda,ydbl,ydek,grV,ybc,yw,go_sem,zA,zB,zD];refine⟨by omega,?_⟩
 obtain⟨n,s⟩:∃n,g.ports.length=n:=⟨_,rfl⟩
 let val:Nat->Nat->Nat:=fun k i=>if i<k then netP (g.ports.getD i [])else 0
 refine ybf (σ:=Nat) (fun k=>⟨[(15,.i .i64 k),(14,.i .i64 n),(13,yw g.ports),(3,.os (11,0) 0 n true)],
  [(11,.one (some ⟨77,false,1,n,fun i=>[.i .u32 (val k i:Nat)]⟩))]⟩) (fun k=>k<=n) (fun k=>n-k) 0 (zU _) ?_ ?_
 .refine yx ?_;simp only[yw,s,wk,go_sem,zA,zD];simp[val]
 .intro k hk;obtain⟨L,y⟩:∃L,g.ports.getD k []=L:=⟨_,rfl⟩;simp only[ycvw,ydgi,ydev,yw,ybb,s,y,go_sem,zA,zB];refine⟨fun E=>?_,fun E=>?_⟩
  .have I:k<n:=by omega
   have p:k<g.ports.length:=by omega
   have r:∀l∈L,0<=l.1/\l.1<24:=fun l d=>by
    rw[<-y,getD_at p]at d;obtain⟨H,K,_⟩:=(z.2.2.2.2.2.1 ⟨k,p⟩).1 l d;exact⟨H,by omega⟩
   have h:=z.deg_lt (v:=k);rw[y]at h;refine⟨by omega,?_⟩
   obtain⟨m,B⟩:∃m,L.length=m:=⟨_,rfl⟩;rw[B]
   let c:Nat->Nat->Nat:=fun j i=>if i<k then netP (g.ports.getD i [])else if i=k then netP (L.take j)else 0
   refine ybf (σ:=Nat) (fun j=>⟨[(22,.i .i64 j),(21,.i .i64 m),(20,ybb L),(4,.i .i64 k),(15,.i .i64 k),(14,.i .i64 n),(13,yw g.ports),(3,.os (11,0) 0 n true)],
    [(11,.one (some ⟨77,false,1,n,fun i=>[.i .u32 (c j i:Nat)]⟩))]⟩) (fun j=>j<=m) (fun j=>m-j) 0 (zU _) ?_ ?_
   .refine yx ?_;simp only[yw,ybb,s,B,wk,go_sem,zA,zD];intro i A;simp only[val,c]
    by_cases q:i<k
    .rw[if_pos q,if_pos q]
    .rw[if_neg q,if_neg q]
     by_cases e:i=k
     .rw[if_pos e];rfl
     .rw[if_neg e]
   .intro j O;obtain⟨l,d⟩:∃l,L.getD j (0,0)=l:=⟨_,rfl⟩;simp only[ydgr,ycxl,yw,ybb,s,B,d,go_sem,zA,zB,zD];refine⟨fun D=>⟨by omega,?_⟩,fun D=>?_⟩
    .have o:j<L.length:=by omega
     have J:=r l (by rw[<-d,getD_at o];exact zO _)
     obtain⟨t,F⟩:∃t:Nat,l.1=t:=⟨l.1.toNat,by omega⟩
     have f:t<24:=by omega
     have G:c j k<2^24:=by
      simp only[c,if_neg (zCW k),if_true];exact ydmj _ fun l d=>(r l (zBT d)).2
     have P:2^t<2^24:=zBU (by omega) f
     have w:=ybre (v:=t) (by omega)
     have u:=u32_or (a:=c j k) (b:=2^t) (by omega) (by omega)
     rw[zM]at w;simp only[IntKind.bits]at u;simp only[ydej,F,clash,w,u,go_sem,zA,zB,zI];refine⟨by omega,by omega,⟨by omega,by show _<((32:Nat):Int);omega⟩,by omega,by omega,by decide,?_⟩
     simp only[ydbv,go_sem,zA,zB];refine⟨ikw (by omega) (by omega),?_⟩
     refine ycg (j+1) ?_;refine yx ?_;simp only[wk,go_sem,zA,zD];refine⟨by omega,fun i A=>?_⟩
     have x:=ycgl L j o;rw[d,F,zM]at x
     by_cases q:i=k
     .simp only[if_pos q];subst q;simp only[go_sem,wk,go_sem];simp only[c,if_neg (zCW i),if_true,x]
     .simp only[if_neg q];simp only[go_sem,wk,go_sem];simp only[c,if_neg q]
    .obtain rfl:j=m:=by omega
     simp only[ycar,go_sem,zA,zB];refine⟨ikw (by omega) (by omega),?_⟩
     refine ycg (k+1) ?_;refine yx ?_;simp only[wk,go_sem,zA,zD];refine⟨by omega,fun i A=>?_⟩
     simp only[val,c]
     by_cases q:i<k
     .rw[if_pos q,if_pos (by omega)]
     .rw[if_neg q]
      by_cases e:i=k
      .rw[if_pos e,if_pos (by omega),e,y,<-B,zAU]
      .rw[if_neg e,if_neg (by omega)]
  .obtain rfl:k=n:=by omega
   simp only[ybxo,go_sem,zA,zB];unfold usV;rw[zW,s];refine ybrk fun i A=>?_;have C:i<g.ports.length:=by omega
   simp only[val,if_pos A];simp[zK,C]
theorem ybim(net:SV){e s:Nat}(h:e<2^24)(g:s≠0)(j:s<2^24)(c:difB s e=0):Returns zH 171 [net,.i .i64 3,.i .u32 e,.i .u32 s] (.b true):=by
 refine Returns.of (ydlv _ _ ?_);have f:((s:Int)==0)=false:=by simp;omega
 have d:=u32_andNot (a:=s) (b:=e) (by omega) (by omega)
 rw[c]at d;simp only[zCN,IntKind.bits]at d;simp only[c171,ydam,yczf,f,d,Int.reduceBNe,go_sem,zA,zB];simp only[ydgs,yddf,ycxn,ydcc,ycez,Int.reduceBEq,yut,go_sem,zA,zB]
end Sh
end
section
namespace Sh
open Go Ev
def ydvt:LO:=[mc 0 4 0]
def ydxk:LO:=[mv' 1 5 0,bc .lss 5 1 6 1]
def yecg:LO:=[mc 0 4 0]
def ydtf:LO:=[mv' 0 7 0,mv' 1 8 0,bn' .rem 7 8 9 3,mv' 9 0 7]
def yeda:LO:=[mv' 0 10 0,bc .lss 10 0 11 1]
def ydsx:LO:=[mv' 0 12 0,mv' 1 13 0,bn' .add 12 13 14 3,mv' 14 0 7]
def ydxo:LO:=[mv' 0 15 0,mv' 15 4 1]
def c49:SC:=(sr ydvt <| .seq (sr ydxk <| cn 6 (sr yecg <| .ret) .skip) (sr ydtf <| .seq (sr yeda <| cn 11 (.reg false ydsx) .skip) (sr ydxo <| .ret)))
theorem ydvp:Fn 49 c49 [.t 4]:=fn_0 Tryz.func49
def yduf:LO:=[mc 0 4 0]
def ydrj:LO:=[mv' 1 5 0,mv' 0 6 0,ln' 6 7 2,bn' .lss 5 7 8 7]
def ydqy:LO:=[mv' 0 9 0,mv' 1 10 0,ix' 1 9 10 11 3,ld' 1 11 12 7,mv' 12 4 15]
def ydzk:LO:=[mc 0 4 0]
def c50:SC:=(sr yduf <| .seq (sr ydrj <| cn 8 (sr ydqy <| .ret) .skip) (sr ydzk <| .ret))
theorem yecl:Fn 50 c50 [.t 4]:=fn_0 Tryz.func50
def ycuf:LO:=[bx' 27 0 3 0,mb false 6 0]
def ycta:LO:=[mc 0 7 0]
def yctr:LO:=[mv' 7 8 0,fa' 1 1 3 9 0,ld' 1 9 10 2,mv' 1 11 0,ix' 1 10 11 12 14,ld' 1 12 13 30,ln' 13 14 62,bn' .lss 8 14 15 127]
def ydfx:LO:=[fa' 1 1 3 18 0,ld' 1 18 19 1,mv' 1 20 0,ix' 1 19 20 21 7,ld' 1 21 22 15,mv' 7 23 0,ix' 2 22 23 24 63,fa' 0 1 24 25 127,ld' 1 25 26 255,mv' 2 27 0,bn' .eql 26 27 28 1023]
def yctp:LO:=[mb true 6 0]
def yczo:LO:=[mv' 7 16 0,bc .add 16 1 17 1,mv' 17 7 3]
def yczl:LO:=[mb false 6 0]
def c116:SC:=(sr ycuf <| .seq (sr ycta <| .block 0 (.loop (.seq (sr yctr <| cn 15 .skip (.exit 0)) (.seq (.block 1 (sr ydfx <| cn 28 (sr yctp <| .ret) .skip)) (.reg false yczo))))) (sr yczl <| .ret))
theorem ydlm:Fn 116 c116 [.t 6]:=fn_0 Tryz.func116
def ydhw:LO:=[bx' 24 0 5 0,bx' 27 1 6 0]
def ydjb:LO:=[mv' 2 12 0,mv' 3 13 0,bn' .eql 12 13 14 3,mv' 14 15 7,gf (.load true 2 (.tmp 6)) 16 15 15,gf (.mv (.tmp 2)) 17 15 15,gf (.mv (.tmp 3)) 18 15 15,gf (.call (.func 116) [(.tmp 16),(.tmp 17),(.tmp 18)]) 19 15 127,pk' 15 19 20 255]
def ybvk:LO:=[mv' 3 21 0,mv' 4 22 0,o3 (.build [.i .i64 0,.i .i64 0] [(0,1,(.tmp 21)),(1,1,(.tmp 22))]) 23 3,mv' 2 24 0,mv' 4 25 0,o3 (.build [.i .i64 0,.i .i64 0] [(0,1,(.tmp 24)),(1,1,(.tmp 25))]) 26 24,o3 (.alloc 68 1 [.i .i64 0,.i .i64 0]) 10 0,o3 (.alloc 68 1 [.i .i64 0,.i .i64 0]) 11 0,sto 2 10 23 199,sto 2 11 26 511]
def ybwo:LO:=[fa' 5 1 5 27 0,ld' 1 27 28 1]
def ycgm:LO:=[fa' 1 1 6 29 0,ld' 1 29 30 1,mv' 2 31 0,la' 2 10 32 0,o3 (.bslice 68 2 1 [.i .i64 0,.i .i64 0] [(0,2,(.tmp 32))]) 33 8,fa' 1 1 6 34 0,ld' 1 34 35 32,mv' 2 36 0,ix' 1 35 36 37 224,ld' 1 37 38 480,o3 (.app 68 2 16 (.tmp 33) (.tmp 38)) 39 1016,ix' 1 30 31 40 2047,sto 1 40 39 4095]
def yccp:LO:=[fa' 1 1 6 41 0,ld' 1 41 42 1,mv' 3 43 0,la' 2 11 44 0,o3 (.bslice 68 2 1 [.i .i64 0,.i .i64 0] [(0,2,(.tmp 44))]) 45 8,fa' 1 1 6 46 0,ld' 1 46 47 32,mv' 3 48 0,ix' 1 47 48 49 224,ld' 1 49 50 480,o3 (.app 68 2 16 (.tmp 45) (.tmp 50)) 51 1016,ix' 1 42 43 52 2047,sto 1 52 51 4095]
def yebv:LO:=[fa' 1 1 6 53 0,ld' 1 53 54 1,mv' 2 55 0,fa' 1 1 6 56 0,ld' 1 56 57 8,mv' 3 58 0,fa' 1 1 6 59 0,ld' 1 59 60 64,mv' 2 61 0,ix' 1 60 61 62 448,ld' 1 62 63 960,la' 2 10 64 0,o3 (.bslice 68 2 1 [.i .i64 0,.i .i64 0] [(0,2,(.tmp 64))]) 65 2048,o3 (.app 68 2 16 (.tmp 63) (.tmp 65)) 66 8128,fa' 1 1 6 67 0,ld' 1 67 68 16384,mv' 3 69 0,ix' 1 68 69 70 114688,ld' 1 70 71 245760,la' 2 11 72 0,o3 (.bslice 68 2 1 [.i .i64 0,.i .i64 0] [(0,2,(.tmp 72))]) 73 524288,o3 (.app 68 2 16 (.tmp 71) (.tmp 73)) 74 2097088,ix' 1 54 55 75 4194247,sto 1 75 66 8388551,ix' 1 57 58 76 16777215,sto 1 76 74 33554431]
def c48:SC:=(sr ydhw <| .seq (sr ydjb <| cn 20 .ret .skip) (sr ybvk <| .seq (sr ybwo <| cn 28 (.seq (.reg true ycgm) (.seq (.reg true yccp) .ret)) .skip) (.reg true yebv)))
theorem ydju:FnM 48 c48 []:=fn_m Tryz.func48
def ydrk:LO:=[bx' 24 0 2 0,o3 (.alloc 27 1 [.a (.slice none 0 0),.a (.slice none 0 0)]) 4 0]
def ydyq:LO:=[fa' 0 1 2 10 0,ld' 1 10 11 1,o3 (.wsub (.tmp 11) (ci' 1)) 12 3,mv' 1 13 0,cl' 49 [12,13] 14 15,o3 (.bin .add (ci' 1) (.tmp 14)) 15 31,mv' 15 5 63]
def yefj:LO:=[mv' 5 16 0,o3 (.mk 135 1 24 [.a (.slice none 0 0)] (.tmp 16) (.tmp 16)) 17 1,o3 (.build [.a (.slice none 0 0),.a (.slice none 0 0)] [(1,1,(.tmp 17))]) 18 3,o3 (.alloc 27 1 [.a (.slice none 0 0),.a (.slice none 0 0)]) 6 0,sto 2 6 18 15]
def ydyb:LO:=[mc 0 7 0]
def yeak:LO:=[mv' 7 19 0,mv' 5 20 0,bn' .lss 19 20 21 3]
def ydum:LO:=[fa' 3 1 2 24 0,ld' 1 24 25 1,mv' 7 26 0,cl' 50 [25,26] 27 7,o3 (.call (.func 49) [(.tmp 27),(ci' 256)]) 28 15,mv' 28 8 31]
def ydwy:LO:=[mc 0 9 0]
def yduk:LO:=[mv' 9 29 0,mv' 7 30 0,bn' .lss 29 30 31 3]
def ydhj:LO:=[fa' 0 1 6 34 0,ld' 1 34 35 1,mv' 9 36 0,ix' 1 35 36 37 7,ld' 1 37 38 15,mv' 8 39 0,bn' .eql 38 39 40 63]
def ydhk:LO:=[mv' 8 41 0,bc .add 41 1 42 1,bc .rem 42 256 43 3,mv' 43 8 7,mc (-1) 9 15]
def yegb:LO:=[mv' 9 32 0,bc .add 32 1 33 1,mv' 33 9 3]
def yden:LO:=[fa' 0 1 6 44 0,ld' 1 44 45 1,mv' 8 46 0,o3 (.bslice 3 1 1 [.i .i64 0] [(0,1,(.tmp 46))]) 47 4,o3 (.app 3 1 8 (.tmp 45) (.tmp 47)) 48 15,fa' 0 1 6 49 31,sto 1 49 48 63]
def yduz:LO:=[mv' 7 22 0,bc .add 22 1 23 1,mv' 23 7 3]
def ydan:LO:=[la' 2 6 50 0,sto 2 4 50 1]
def c47:SC:=(sr ydrk <| sr ydyq <| sr yefj <| .seq (sr ydyb <| .block 0 (.loop (.seq (sr yeak <| cn 21 .skip (.exit 0)) (.seq (.block 1 (sr ydum <| .seq (sr ydwy <| .block 2 (.loop (.seq (sr yduk <| cn 31 .skip (.exit 2)) (.seq (.block 3 (sr ydhj <| cn 40 (.reg false ydhk) .skip)) (.reg false yegb))))) (.reg false yden))) (.reg false yduz))))) (sr ydan <| .ret))
theorem ydje:FnM 47 c47 [.c 4 true 2]:=fn_m Tryz.func47
def yecp:LO:=[bx' 24 0 2 0,o3 (.alloc 27 1 [.a (.slice none 0 0),.a (.slice none 0 0)]) 4 0]
def yedn:LO:=[la' 6 2 7 0,mv' 1 8 0,cl' 47 [7,8] 9 3,o3 (.alloc 27 1 [.a (.slice none 0 0),.a (.slice none 0 0)]) 5 0,sto 2 5 9 15]
def ydtg:LO:=[mc 1 6 0]
def ydni:LO:=[mv' 6 10 0,fa' 1 1 5 11 0,ld' 1 11 12 2,ln' 12 13 6,bn' .lss 10 13 14 15]
def ydyh:LO:=[la' 6 2 17 0,la' 2 5 18 0,fa' 1 1 2 19 0,ld' 1 19 20 4,mv' 6 21 0,bc .sub 21 1 22 16,cl' 50 [20,22] 23 60,mv' 6 24 0,cl' 49 [23,24] 25 252,mv' 6 26 0,fa' 2 1 2 27 0,ld' 1 27 28 1024,mv' 6 29 0,bc .sub 29 1 30 4096,cl' 50 [28,30] 31 15868,o3 (.call (.func 49) [(.tmp 31),(ci' 15)]) 32 32252,o3 (.bin .add (ci' 1) (.tmp 32)) 33 65020,cl' 48 [17,18,25,26,33] 34 131071]
def ydvs:LO:=[mv' 6 15 0,bc .add 15 1 16 1,mv' 16 6 3]
def yeeo:LO:=[la' 2 5 35 0,sto 2 4 35 1]
def c10:SC:=(sr yecp <| sr yedn <| .seq (sr ydtg <| .block 0 (.loop (.seq (sr ydni <| cn 14 .skip (.exit 0)) (.seq (.block 1 (.reg true ydyh)) (.reg false ydvs))))) (sr yeeo <| .ret))
theorem ydij:FnM 10 c10 [.c 4 true 2]:=fn_m Tryz.func10
end Sh
end
section
namespace Sh
open Ev Go.RowKit
instance:Inhabited Cnt:=⟨⟨0,0,0,0,0⟩⟩
structure DaemonOk(kind:Int)(net:List Nat)(res:Nat->Nat->Nat):Prop where
 resolve:∀(e w:Nat),e<2^24->e<2^net.length->e≠0->w<2^32->Returns zH 0 [usV net,.i .i64 kind,.i .u32 e,.i .u32 w] (.i .u32 (res e w))
 permits:∀(e w:Nat),e<2^24->e<2^net.length->e≠0->w<2^32->Returns zH 171 [usV net,.i .i64 kind,.i .u32 e,.i .u32 (res e w)] (.b true)
 zero:∀(w:Nat),w<2^32->∃x:Nat,Returns zH 0 [usV net,.i .i64 kind,.i .u32 0,.i .u32 w] (.i .u32 x)
 sub:∀(e w:Nat),e≠0->e<2^24->res e w≠0/\subB (res e w) e
theorem ybdn{s e n:Nat}(h:subB s e)(b:e<2^n):s<2^n:=by
 refine Nat.lt_pow_two_of_testBit _ fun i c=>?_;cases a:s.testBit i with
 |false=>rfl
 | true =>
   have:=h i a;rw[zBQ (zAH b (zBV (by omega) c))]at this
   cases this
end Sh
end
section
theorem ycon{kind:Int}{b:Int×Int}(c:b.1<=b.2)(a:kind=3->b.1 <= -1 /\ -1<=b.2)(x:Int):b.1<=yhv kind b x/\yhv kind b x<=b.2:=by
 unfold yhv;split
 .assumption
 .split
  .exact a (by assumption)
  .split<;>omega
namespace Sh
theorem ycpx{p:ProgT}{g:Gr}(j:ybj g)(i:p.ok=true)(f:ybjf p g=true){x:VarR}(d:x∈p.vars)(v:Nat):(ybi g v x).1<=(ybi g v x).2/\(x.kind=3->(ybi g v x).1 <= -1 /\ -1<=(ybi g v x).2):=by
 have c:=List.all_eq_true.1 f x d;have a:=i;unfold ProgT.ok at a;simp only[zF,decide_eq_true_eq]at a;have b:=ybuy (List.all_eq_true.1 a.1.1.2 _ d);rcases b.1 with h|h|h
 .have e:ybi g v x=ybi g 0 x:=by unfold ybi;rw[if_pos h,if_pos h]
  rw[e];simp[h]at c;exact⟨c.1,fun q=>by omega⟩
 .unfold ybi;rw[if_neg (by omega),if_pos h]
  exact⟨by decide,fun q=>by omega⟩
 .unfold ybi;rw[if_neg (by omega),if_neg (by omega),if_pos h]
  exact⟨by simp only[];omega,fun _=>⟨by simp only[];omega,by simp only[];omega⟩⟩
theorem ychh{p:ProgT}{g:Gr}(l:ybj g)(n:p.ok=true)(k:ybjf p g=true){v:Nat}{s:List Int}(f:yjs (p.vars.map (ybi g v)) s){a:Int}(o:0<=a/\a<p.vars.length)(y:Int) :
 yjs (p.vars.map (ybi g v)) (s.set a.toNat (yhv (p.vars.getD a.toNat default).kind (ybi g v (p.vars.getD a.toNat default)) y)):=by
 refine⟨by rw[List.length_set];exact f.1,fun i b x e d=>?_⟩
 by_cases q:a.toNat=i
 .subst q;have c:a.toNat<p.vars.length:=by omega
  rw[zCI,zG c]at e;cases e
  have m:a.toNat<s.length:=by rw[f.1,zW];exact c
  rw[zAS m]at d;cases d
  rw[getD_at c];obtain⟨h,j⟩:=ycpx l n k (zO c) v;exact ycon h j y
 .rw[zAY q]at d;exact f.2 i b x e d
theorem ybaz{p:ProgT}{g:Gr}(f:ybj g)(h:p.ok=true)(e:ybjf p g=true)(c:Conf)(v:Nat):∀(sets:List (Int×Ex)) (s:List Int),(∀a∈sets,0<=a.1/\a.1<p.vars.length)->yjs (p.vars.map (ybi g v)) s->yjs (p.vars.map (ybi g v)) (yup p g c v s sets)
 |[],s,_,b=>b
 | a::sets,s,d,b=>by
   show yjs _ (yup p g c v (s.set _ _) sets);exact ybaz f h e c v sets _ (fun x i=>d x (zV _ i)) (ychh f h e b (d a zAA) _)
theorem ykp{p:ProgT}{g:Gr}(q:ybj g)(m:p.ok=true)(o:ybjf p g=true){c:Conf}(n:yef p g c=true)(s:Nat):yef p g (ygx p g c s)=true:=by
 have h:=(ygi _ _ _).1 n;refine(ygi _ _ _).2 ⟨by rw[ymh];exact h.1,fun v r i=>?_⟩
 have l:v<c.length:=by
  have:=(List.getElem?_eq_some_iff.1 i).1
  rwa [ymh]at this
 have e:r=(ygx p g c s).getD v []:=by simp[zK,i]
 rw[yqc p g c s l]at e;have b:=h.2 v (c.getD v []) (by rw[getD_at l];exact zG l)
 rw[e];split
 .unfold yjx;refine ybaz q m o c v _ _ (fun a j=>?_) b;have f:=m;unfold ProgT.ok at f;simp only[zF,decide_eq_true_eq]at f
  by_cases k:(yep p g c v).toNat<p.rules.length
  .rw[getD_at k]at j;have d:=List.all_eq_true.1 f.2 _ (zO k);unfold RuleT.ok at d;simp only[zF,decide_eq_true_eq]at d;have:=List.all_eq_true.1 d.2 a j;simp only[zF,decide_eq_true_eq]at this;exact this.1.1
  .have:p.rules.getD (yep p g c v).toNat default=default:=by simp[zK,zAL (Nat.le_of_not_lt k)]
   rw[this]at j;cases j
 .exact b
theorem yzx(p:ProgT)(g:Gr)(c:Conf):ybu p g c<2^g.ids.length:=ybdw _ _
end Sh
end
section
namespace Sh
open Ev Go.RowKit
def TT:(Nat->Option ABlk)->Value->Prop:=fun _ _=>True
def yfv(p:ProgT)(g:Gr):SV:=.ex TT (.rf (ykh p.raw g))
section
variable {Q1 Q2:(Nat->Option ABlk)->Value->Prop}{p:ProgT}{g:Gr}
end
end Sh
end
section
namespace Sh
open Ev Go.RowKit
theorem Returns.exT{P:Program}{g:FuncId}{args:List SV}{r:SV}(h:Returns P g args r):Returns P g args (.ex TT r):=fun G m l f i j=>by
 obtain⟨v,k,x,a,b,c,d,e⟩:=h G m l f i j;exact⟨v,k,.ex TT r,a,b,c,rfl,.ex trivial (fun _ _ _ _ _=>trivial) (d▸e)⟩
section
variable {Q1 Q2:(Nat->Option ABlk)->Value->Prop}{p:ProgT}{g:Gr}
def yjk(l:List Conf):SV:=.sl 1 l.length (fun i=>[ydb (l.getD i [])])
def yqv(l:List Cnt):SV:=.sl 5 l.length (fun i=>cntV (l.getD i default))
end
end Sh
end
section
def yej(v m:Int):Int:=if m<1 then 0 else v%m
def atP(l:List Int)(i:Nat):Int:=l.getD i 0
theorem yog{v m:Int}(h:1<=m):0<=yej v m/\yej v m<m:=by
 unfold yej;rw[if_neg (by omega)]
 exact⟨zAZ _ (by omega),zAQ _ (by omega)⟩
namespace Sh
open Ev Go.RowKit
theorem ybrr{v m:Int}(h:1<=m):(if v.tmod m<0 then v.tmod m+m else v.tmod m)=v%m:=by
 have e:=Int.emod_add_mul_ediv v m;have f:=zAZ v (show m≠0 by omega)
 have g:=zAQ v (show 0<m by omega)
 have c:=Int.tmod_eq_emod (a:=v) (b:=m);have d:(m.natAbs:Int)=m:=by omega
 rw[c]
 by_cases q:0<=v\/m ∣ v
 .simp only[if_pos q,zCN,Int.sub_zero];rw[if_neg (by omega)]
 .simp only[if_neg q,d];rw[if_pos (by omega)]
  omega
theorem yob(v m:Int)(e:m<=4611686018427387904)(f:inK .i64 v):Returns zH 49 [.i .i64 v,.i .i64 m] (.i .i64 (yej v m)):=by
 refine Returns.of (ydvp _ _ ?_);simp only[c49,ydvt,ydxk,yecg,ydtf,yeda,ydsx,ydxo,yci,go_sem,zA,zB];unfold yej;refine⟨fun h=>by rw[if_pos h],fun h=>⟨by omega,fun b=>?_,fun b=>?_⟩⟩
 .have a:=ybrr (v:=v) (show 1<=m by omega)
  rw[if_pos b]at a;rw[if_neg h,a];have c:=zAZ v (show m≠0 by omega)
  have d:=zAQ v (show 0<m by omega)
  exact⟨ikw (by omega) (by omega),rfl⟩
 .have a:=ybrr (v:=v) (show 1<=m by omega)
  rw[if_neg b]at a;rw[if_neg h,a]
theorem at_ret(l:List Int)(i:Nat):Returns zH 50 [ybc l,.i .i64 i] (.i .i64 (atP l i)):=by
 refine Returns.of (yecl _ _ ?_);simp only[c50,yduf,ydrj,ydqy,ydzk,ybc,yci,go_sem,zA,zB];exact⟨fun h=>⟨by omega,rfl⟩,fun h=>by unfold atP;rw[zK,zAL (by omega)];rfl⟩
theorem ydyy{a:Type}(l:List a)(x d:a)(i:Nat):(l++[x]).getD i d=if i<l.length then l.getD i d else if i=l.length then x else d:=by
 by_cases h:i<l.length
 .simp[zK,zBK h,h]
 .by_cases e:i=l.length
  .subst e;simp[zK]
  .rw[if_neg h,if_neg e,zK,zAL (by simp;omega)]
   rfl
end Sh
end
section
namespace Sh
open Ev Go.RowKit
def ycpv(l:List Int)(k:Nat):Int:=(l.take k).foldl max 0
theorem ybjg{l:List Int}(h:∀x∈l,0<=x/\x<=255)(a:0<l.length):ycpv l l.length=maxI l:=by
 unfold ycpv;rw[zAU];exact(yvn a fun x b=>(h x b).1).symm
section
variable {p:ProgT}{g:Gr}
end
end Sh
end
section
namespace Sh
open Ev Go.RowKit
def blV(l:List Bool):SV:=.sl 1 l.length (fun k=>[.b (l.getD k false)])
def ycmt(l:List Bool)(k:Nat):Bool:=(l.take k).any id
structure HeldOk(legit:List Bool)(ks:List Cnt)(rounds moves:Int)(ended:Bool):Prop where
 len:legit.length=ks.length
 pos:0<legit.length
 stays:∀i,i<legit.length->ycmt legit i=true->legit.getD i false=true
 rounds:∀i,i<legit.length->ycmt legit (i+1)=false->((ks.getD i default).begun:Int)<=rounds
 moves:∀i,i<legit.length->ycmt legit (i+1)=false->0<=moves->((ks.getD i default).moves:Int)<=moves
 ends:ycmt legit legit.length=true\/ended=false
def ydhn(kind:Int)(a silent:Bool)(rounds moves:Int):List SV:=[.i .i64 kind,.b a,.b silent,.i .i64 rounds,.i .i64 moves]
end Sh
end
section
open Go.RowKit
end
section
open Go.RowKit
end
section
namespace Sh
open Ev Go.RowKit
theorem ycoz{n d:Nat}{c:Conf}(h:ConfIn n d c):ycmo c:=fun s a x b=>by
 have:=(h.row s a).2 x b;unfold InB at this;exact ykj (by omega)
end Sh
end
section
def ypl(ls:List (Int×Int))(b:Int):Bool:=ls.any fun l=>decide (l.1=b)
namespace Sh
open Ev Go.RowKit
theorem ybvl{ids:List Int}{ports:List (List (Int×Int))}{a b:Nat}(u:a<ports.length)(g:(ports.getD a []).length<=100000) :
 Returns zH 116 [.ag [ybc ids,yw ports],.i .i64 a,.i .i64 b] (.b (ypl (ports.getD a []) b)):=by
 refine Returns.of (ydlm _ _ ?_);obtain⟨n,t⟩:∃n,ports.length=n:=⟨_,rfl⟩;obtain⟨L,o⟩:∃L,ports.getD a []=L:=⟨_,rfl⟩;rw[o]at g ⊢;obtain⟨m,s⟩:∃m,L.length=m:=⟨_,rfl⟩;simp only[c116,ycuf,ycta,go_sem,zB,zD];refine ybf (σ:=Nat) (fun k=>⟨[(7,.i .i64 k),(3,.pt (3,0) 0 0),(1,.i .i64 a),(2,.i .i64 b)],[(3,.one (some ⟨27,true,2,1,fun _=>[ybc ids,yw ports]⟩))]⟩) (fun k=>k<=m/\∀j,j<k->(L.getD j (0,0)).1≠b) (fun k=>m-k) 0 ⟨zU _,fun j e=>absurd e (zAI j)⟩ ?_ ?_
 .refine yx ?_;simp only[go_sem,wk,go_sem,zA,zD]
 .rintro k ⟨hk,c⟩;simp only[yctr,yczo,ydfx,yctp,yczl,yw,ybb,t,o,s,go_sem,zA,zB,zI];refine⟨⟨by omega,by omega⟩,fun r=>⟨⟨by omega,by omega⟩,⟨by omega,by omega⟩,fun d=>?_,fun h=>⟨ikw (by omega) (by omega),?_⟩⟩,fun p=>?_⟩
  .have f:k<L.length:=by omega
   have:ypl L b=true:=List.any_eq_true.2 ⟨L[k],zO _,by rw[getD_at f]at d;exact decide_eq_true d⟩
   rw[this];exact Sim.refl _
  .refine yj (k+1) ⟨by omega,fun j e=>?_⟩ (by omega) ?_
   .by_cases q:j=k
    .rw[q];exact h
    .exact c j (by omega)
   refine yx ?_;simp only[wk,go_sem,zA,zD];omega
  .have:ypl L b=false:=List.any_eq_false.2 fun l g d=>by
    obtain⟨j,e,rfl⟩:=zAF g;have:=c j (by omega)
    rw[getD_at e]at this;exact this (of_decide_eq_true d)
   rw[this];exact Sim.refl _
end Sh
end
section
namespace Sh
open Go Ev
theorem Cm.ct{P:Program}{g:FuncId}{args:List SV}{Q:SV->Own->Prop}{R:SV->Prop}(h:Cm P g [] [] args Q)(a:∀r A,Q r A->vok A 5 r/\R (view A 5 r)):Ct P g args R:=by
 intro G m S W C p
 have I:Conc m.next G om0 ⟨[],[]⟩ ⟨0,.leaf⟩ (ygp m) :=
  ⟨W,zJ _,zJ _,C,fun B b h=>(by cases h),fun B _=>rfl,fun B γ k z k' z' h=>(by cases h),fun B k z h=>(by cases h),fun t v N=>(by cases N)⟩
 obtain⟨v,j,r,A,X,U,s0,t2,J,l1,l2,_,_,Z⟩:=h m.next G om0 ⟨0,.leaf⟩ (ygp m) S I p
 obtain⟨r3,r4⟩:=a r A Z
 have K:ybz P (.call g S m) (.call v j):=by
  obtain⟨n,b,l⟩:=m;exact ybz.relow s0
 have D:m.next<=j.low:=t2.low
 have e:∀{i x},m.b.get i=some x->i<m.next:=fun {i x} q=>W i x q
 have u:∀H:AM,Le X H->(∀B k z,U B=some (some (k,z))->∀b,j.b.get k=some b->H k=some b)->RV H om0 (view A 5 r) v:=fun H E F=>yky t2 E F J r3
 have L:ybz P (.call g S m) (.call v ⟨j.next,yim m.b j.b,j.low⟩):=by
  intro O;obtain⟨ext,s⟩:=K O
  have d:∀{i x},(yim m.b j.b).get i=some x->m.b.get i=some x\/j.b.get i=some x:=fun {i x} q=>by
   rw[ydu]at q;split at q
   .rename_i y hy;cases q;exact .inl hy
   .exact .inr q
  refine⟨⟨ext.next,fun i b a=>?_,fun i b E F a=>?_,fun i b a=>?_⟩,fun φ M w o hR V ha hf=>?_⟩
  .rcases d a with q|q
   .exact .inl ⟨b,q⟩
   .exact ext.dom i b q
  .rcases d a with q|q
   .exact q
   .exact ext.old i b E F q
  .rcases d a with q|q
   .exact zAH (e q) ext.next
   .exact ext.wf i b q
  .refine(s φ M w o hR V ha hf).mono ?_;rintro e' w' ⟨v',rfl,T,Y,c,N⟩;refine⟨v',rfl,T,Y,⟨c.le,c.out,c.rel,fun i b a=>?_,c.frame,c.wg⟩,N⟩;rcases d a with q|q
   .have hi:=e q;rw[c.frame i (fun z=>by omega) (.inr (zAH hi D))]
    exact V i b q
   .exact c.sub i b q
 have f:∀{i},m.next<=i->m.b.get i=none:=fun {i} q=>by
  cases hh:m.b.get i with
  |none=>rfl
  |some x=>have:=e hh;omega
 refine⟨_,_,view A 5 r,L,D,fun i b a=>?_,r4,u _ (fun i b a=>?_) (fun B k z hk b a=>?_)⟩
 .show(yim m.b j.b).get i=some b;rw[ydu,a]
 .unfold frsh;rcases l2 i b a with q|q
  .rw[if_neg (by have:=e (C i b q);omega)];exact q
  .rw[if_pos q];show(yim m.b j.b).get i=some b;rw[ydu,f q];exact t2.sub i b a
 .unfold frsh;have:=(t2.apart B k z hk).2.1;rw[if_pos this];show(yim m.b j.b).get k=some b;rw[ydu,f this];exact a
theorem Cm.weak {P:Program}{g:FuncId}{o:Own}{args:List SV}{Q R:SV->Own->Prop}(h:Cm P g [] o args Q)
 (I:∀r l,Q r l->∃j i,Weak [] ⟨[(0,r)],l⟩ ⟨[(0,j)],i⟩/\(cln (live i) 5 j=true/\allQ (fun p=>ycp (live i) p.2) i)/\R j i):Cm P g [] o args R:=by
 intro w G U f m T H d;obtain⟨v,y,r,l,B,n,S,t2,q,M,N,_,_,E⟩:=h w G U f m T H d;obtain⟨j,i,J,k,F⟩:=I r l E
 have t3:Conc w B n ⟨[(0,r)],l⟩ ⟨1,tOf [v]⟩ y:=⟨t2.wf,t2.low,t2.nxt,t2.sub,t2.own,t2.dom,t2.inj,t2.apart,fun t x a=>by
  unfold look at a;split at a
  .rename_i e
   cases a
   exact⟨v,by rw[ydn];simp[<-e],q⟩
  .cases a⟩
 obtain⟨A,D,K,L,c,_⟩:=J w B n _ y t3;obtain⟨u,C,O⟩:=c.fr 0 j rfl
 have e:u=v:=by
  rw[ydn]at C
  simpa using C.symm
 subst e
 exact⟨u,y,j,i,D,A,S,⟨c.wf,c.low,c.nxt,c.sub,c.own,c.dom,c.inj,c.apart,fun t x a=>(by cases a)⟩,O,fun x b a=>K x b (M x b a),fun x b a=>by
  rcases L x b a with z|z
  .exact N x b z
  .exact .inr z,fun V s=>absurd s zAD,⟨k.1,k.2,trivial⟩,F⟩
end Sh
end
section
def yon(g:Gr):Nat:=(g.ports.map zCK).sum
def addL(back:Bool)(l:List (Int×Int))(x:Int×Int):List (Int×Int):=if back then x::l else l++[x]
theorem yfn{back:Bool}{l:List (Int×Int)}{x y:Int×Int}:y∈addL back l x↔y=x\/y∈l:=by
 unfold addL;cases back<;>simp[or_comm]
def ydc(back:Bool)(g:Gr)(a b:Nat)(w:Int):Gr:=⟨g.ids,(g.ports.set a (addL back (g.ports.getD a []) (b,w))).set b (addL back (g.ports.getD b []) (a,w))⟩
theorem yey(back:Bool)(g:Gr){a b:Nat}(w:Int)(e:a<g.ports.length)(f:b<g.ports.length)(v:Nat) :
 (ydc back g a b w).ports.getD v []=if v=b then addL back (g.ports.getD b []) (a,w)else if v=a then addL back (g.ports.getD a []) (b,w)else g.ports.getD v []:=by
 unfold ydc;simp only[zK]
 by_cases c:v=b
 .subst c;rw[if_pos rfl,zAS (by simpa using f)]
  rfl
 .rw[if_neg c,zAY (fun q=>c q.symm)]
  by_cases d:v=a
  .subst d;rw[if_pos rfl,zAS e];rfl
  .rw[if_neg d,zAY (fun q=>d q.symm)]
theorem ytr{back:Bool}{l:List (Int×Int)}{v n:Int}{x:Int×Int}(h:ydt l v n)(i:yrk v n x)(b:∀y∈l,y.1≠x.1):ydt (addL back l x) v n:=by
 refine⟨fun y a=>?_,?_⟩
 .rcases yfn.1 a with rfl|a
  .exact i
  .exact h.1 y a
 .have c:x.1∉l.map (·.1):=fun f=>by
   obtain⟨y,a,e⟩:=List.mem_map.1 f;exact b y a e
  unfold addL;cases back
  .simp only[Bool.false_eq_true,if_false,List.map_append,zAT,List.map_nil];rw[zBG];refine⟨h.2,by simp,fun p g q d=>?_⟩
   rw[List.mem_singleton]at d;subst d;intro e;exact c (e▸g)
  .simp only[if_true,zAT];exact List.nodup_cons.2 ⟨c,h.2⟩
theorem ybgx{back:Bool}{g:Gr}(H:ybj g){a b:Nat}{w:Int}(i:a<g.ports.length)(h:b<g.ports.length)(r:a≠b)(p:1<=w/\w<=15)(n:∀y∈g.ports.getD a [],y.1≠(b:Int)):ybj (ydc back g a b w):=by
 obtain⟨C,D,E,F,G,q,A⟩:=H;have c:(ydc back g a b w).ports.length=g.ports.length:=by simp[ydc]
 have m:∀(v:Nat) (d:v<g.ports.length),g.ports.getD v []=g.ports[v]:=fun v d=>by simp[zK,d]
 have o:∀y∈g.ports.getD b [],y.1≠(a:Int):=fun y B e=>by
  rw[m b h]at B;have:=A ⟨b,h⟩ y B;rw[e,zM]at this;exact n _ this rfl
 have at_:∀(v:Nat) (d:v<g.ports.length),(ydc back g a b w).ports[v]'(by rw[c];exact d)=if v=b then addL back (g.ports.getD b []) (a,w)else if v=a then addL back (g.ports.getD a []) (b,w)else g.ports.getD v []:=fun v d=>by
  rw[<-yey back g w i h v];simp[zK,c,d]
 refine⟨by rw[c];exact C,by rw[c];exact D,by rw[c];exact E,F,G,fun v=>?_,fun v l f=>?_⟩
 .have d:v.1<g.ports.length:=zBZ v.isLt c;have s:(((ydc back g a b w).ports.length:Nat):Int)=(g.ports.length:Int):=by rw[c]
  rw[s];show ydt ((ydc back g a b w).ports[v.1]) _ _;rw[at_ v.1 d];split
  .rename_i e
   rw[e];refine ytr ?_ ⟨by simp only[];omega,by simp only[];omega,by simp only[];omega,p.1,p.2⟩ o
   rw[m b h];exact q ⟨b,h⟩
  .split
   .rename_i e
    rw[e];refine ytr ?_ ⟨by simp only[];omega,by simp only[];omega,by simp only[];omega,p.1,p.2⟩ n
    rw[m a i];exact q ⟨a,i⟩
   .rw[m v.1 d];exact q ⟨v.1,d⟩
 .have d:v.1<g.ports.length:=zBZ v.isLt c
  change l∈(ydc back g a b w).ports[v.1]at f
  rw[at_ v.1 d]at f
  have z:∀u x,x∈g.ports.getD u []->x∈(ydc back g a b w).ports.getD u []:=fun u x k=>by
   rw[yey back g w i h u];split
   .rename_i e;subst e;exact yfn.2 (.inr k)
   .split
    .rename_i e;subst e;exact yfn.2 (.inr k)
    .exact k
  have j:∀(u:Nat) (t:u<g.ports.length),l∈g.ports.getD u []->((u:Int),l.2)∈(ydc back g a b w).ports.getD l.1.toNat []:=fun u t k=>by
   rw[m u t]at k;exact z _ _ (A ⟨u,t⟩ l k)
  split at f
  .rename_i e
   rcases yfn.1 f with rfl|f
   .rw[yey back g w i h,e];simp only[zM];simp only[if_neg r,if_true];exact yfn.2 (.inl rfl)
   .rw[e];exact j b h f
  .split at f
   .rename_i e
    rcases yfn.1 f with rfl|f
    .rw[yey back g w i h,e];simp only[zM];simp only[if_true];exact yfn.2 (.inl rfl)
    .rw[e];exact j a i f
   .exact j v.1 d f
end
section
def Tre(g:Gr)(m:Nat):Prop:=∀v,0<v->v<m->∃u,u<v/\adj g u v
theorem Tre.walk{g:Gr}{m:Nat}(h:Tre g m):∀v,v<m->∃k,Walk g 0 k v:=by
 intro v
 induction v using Nat.strongRecOn with
 | _ v e =>
   intro d
   by_cases a:v=0
   .subst a;exact⟨0,rfl⟩
   .obtain⟨u,c,b⟩:=h v (by omega) d
    obtain⟨k,hk⟩:=e u c (by omega)
    exact⟨k+1,u,hk,b⟩
theorem Tre.conn{g:Gr}(b:ybj g)(h:Tre g g.ports.length):yee g=true:=by
 unfold yee;rw[(yfx g).2 b,zAG,ybmq b (a:=0) (by have:=b.1;omega)]
 exact h.walk
theorem ypo{g:Gr}{u v:Nat}:adj g u v↔∃l,l∈g.ports.getD u []/\l.1=(v:Int):=by
 constructor
 .rintro⟨b,h,l,a,e⟩;exact⟨l,by simpa[zK,h]using a,e⟩
 .rintro⟨l,a,e⟩;cases h:g.ports[u]? with
  |none=>simp[zK,h]at a
  |some b=>exact⟨b,h,l,by simpa[zK,h]using a,e⟩
theorem ybnn{back:Bool}{g:Gr}{a b:Nat}{w:Int}(d:a<g.ports.length)(f:b<g.ports.length){u v:Nat}(h:adj g u v):adj (ydc back g a b w) u v:=by
 obtain⟨l,c,e⟩:=ypo.1 h;refine ypo.2 ⟨l,?_,e⟩;rw[yey back g w d f u];split
 .rename_i q;subst q;exact yfn.2 (.inr c)
 .split
  .rename_i q;subst q;exact yfn.2 (.inr c)
  .exact c
theorem ybme{back:Bool}{g:Gr}{a b:Nat}{w:Int}(d:a<g.ports.length)(e:b<g.ports.length)(c:a≠b):adj (ydc back g a b w) a b:=by
 refine ypo.2 ⟨((b:Int),w),?_,rfl⟩;rw[yey back g w d e a,if_neg c,if_pos rfl];exact yfn.2 (.inl rfl)
theorem Tre.add{back:Bool}{g:Gr}{a b:Nat}{w:Int}(e:a<g.ports.length)(f:b<g.ports.length){m:Nat}(h:Tre g m):Tre (ydc back g a b w) m:=fun v d j=>by
 obtain⟨u,i,c⟩:=h v d j;exact⟨u,i,ybnn e f c⟩
def bare(ids:List Int):Gr:=⟨ids,zT ids.length []⟩
theorem ycct{ids:List Int}(b:1<=ids.length)(c:ids.length<=24)(d:∀x∈ids,0<=x/\x<=255)(f:ids.Nodup):ybj (bare ids):=by
 have e:∀v:Fin (bare ids).ports.length,(bare ids).ports[v]=[]:=fun v=>by
  have g:v.1<ids.length:=by have:=v.isLt;simpa[bare]using this
  show(zT ids.length ([]:List (Int×Int)))[v.1]'(by simpa using g)=[]
  exact List.getElem_replicate ..
 refine⟨by simpa[bare]using b,by simpa[bare]using c,by simp[bare],d,f,fun v=>?_,fun v l a=>?_⟩
 .rw[e v];exact⟨fun l a=>(nomatch a),zBC⟩
 .rw[e v]at a;cases a
end
section
structure NetR where
 n:Int
 links:List Int
 weights:List Int
 ids:List Int
 apart:Bool
 back:Bool
def NetR.ok(x:NetR):Prop:=Sh.inK .i64 x.n/\(∀k,Sh.inK .i64 (x.links.getD k 0))/\(∀k,Sh.inK .i64 (x.weights.getD k 0))/\(∀k,Sh.inK .i64 (x.ids.getD k 0))
def ybgt(x:NetR)(ids:List Int):Prop:=x.ids=[]->∀y∈ids,y<(ids.length:Int)
theorem ybnj(a r:Nat)(d:r<=256):((zCR r).map fun i=>(((a+i)%256:Nat):Int)).Nodup:=by
 unfold List.Nodup;rw[zAR];refine List.Pairwise.imp_of_mem (R:=(· < ·)) (fun {i j} b c h=>?_) List.pairwise_lt_range;have b:=List.mem_range.1 b;have c:=List.mem_range.1 c;intro e;omega
theorem ybpp{a r:Nat}{l:List Int}(c:r<=256)(h:∀i,i<r->(((a+i)%256:Nat):Int)∈l):r<=l.length:=by
 have:=List.Nodup.length_le_of_subset (ybnj a r c) (l₂:=l) fun x d=>by
  obtain⟨i,b,rfl⟩:=List.mem_map.1 d;exact h i (List.mem_range.1 b)
 simpa using this
namespace Sh
open Ev Go.RowKit
def netC(x:NetR):List SV:=[.i .i64 x.n,ybc x.links,ybc x.weights,ybc x.ids,.b x.apart,.b x.back]
theorem wrap64_in(z:Int):inK .i64 (IntKind.wrap .i64 z):=by
 unfold inK;have a:IntKind.i64.min = -9223372036854775808:=rfl;have b:IntKind.i64.max=9223372036854775807:=rfl;have c:=zAZ z (show(18446744073709551616:Int)≠0 by decide)
 have d:=zAQ z (show(0:Int)<18446744073709551616 by decide)
 rw[a,b]
 have e:IntKind.wrap .i64 z=if z%18446744073709551616>=9223372036854775808 then z%18446744073709551616-18446744073709551616 else z%18446744073709551616:=by
  show(if (true&&decide (z%18446744073709551616>=9223372036854775808))=true then z%18446744073709551616-18446744073709551616 else z%18446744073709551616)=_
  simp only[zAG,decide_eq_true_eq]
 rw[e];split<;>omega
theorem yclf{x:NetR}(hx:x.ok){most:Nat}(I:1<=most/\most<=24) :
 Cm zH 47 [] [] [.ag (netC x),.i .i64 most] fun r o=>∃ids:List Int,(1<=ids.length/\ids.length<=most/\(ids.length:Int)=1+yej (IntKind.wrap .i64 (x.n-1)) most/\ybgt x ids)/\(∀y∈ids,0<=y/\y<=255)/\ids.Nodup/\r = .ag [.os (148,0) 0 ids.length true,.os (17,0) 0 ids.length true] /\
  o=[(17,.one (some ⟨135,false,1,ids.length,fun _=>[.a (.slice none 0 0)]⟩)),(148,.one (some ⟨3,false,1,ids.length,fun k=>[.i .i64 (ids.getD k 0)]⟩))]:=by
 refine ydje [] [] _ _ _ ?_;obtain⟨a2,a3,a4,N⟩:=hx;have w:=yog (v:=IntKind.wrap .i64 (x.n-1)) (m:=(most:Int)) (by omega)
 obtain⟨k,hk⟩:∃k:Nat,yej (IntKind.wrap .i64 (x.n-1)) most=k:=zL w.1;have O:=yob (IntKind.wrap .i64 (x.n-1)) most (by omega) (wrap64_in _)
 rw[hk]at O w;obtain⟨n,Z⟩:∃n:Nat,(1:Int)+(k:Int)=(n:Int):=⟨1+k,by omega⟩
 have L:1<=n/\n<=most/\(n:Int)=1+yej (IntKind.wrap .i64 (x.n-1)) most:=by omega
 simp only[c47,ydrk,ydyq,netC,go_sem,zA,zB,zI,zD];refine O.use ?_;simp only[ybk,yefj,ydyb,Z,clash,go_sem,zA,zB,zD];refine⟨ikw (by omega) (by omega),⟨by omega,by omega,by omega⟩,?_⟩
 refine ybf (σ:=List Int) (fun l=>⟨[(7,.i .i64 l.length),(5,.i .i64 n),(2,.pt (2,0) 0 0),(6,.pt (6,0) 0 0),(4,.pt (4,0) 0 0)],
  [(2,.one (some ⟨24,true,6,1,fun _=>netC x⟩)),(4,.one (some ⟨27,true,2,1,fun _=>[.a (.slice none 0 0),.a (.slice none 0 0)]⟩)),
   (6,.one (some ⟨27,true,2,1,fun _=>[.os (148,0) 0 l.length true,.os (17,0) 0 n true]⟩)),(17,.one (some ⟨135,false,1,n,fun _=>[.a (.slice none 0 0)]⟩)),
   (148,.one (some ⟨3,false,1,l.length,fun k=>[.i .i64 (l.getD k 0)]⟩))]⟩)
  (fun l=>l.length<=n/\(∀y∈l,0<=y/\y<=255)/\l.Nodup/\ybgt x l) (fun l=>n-l.length) [] ⟨zU _,fun y d=>(zAD d).elim,zBC,fun _ y d=>(zAD d).elim⟩ ?_ ?_
 .refine yby [] [148] [] ?_;simp only[netC,wk,go_sem,zA,zD,zY];exact fun i _=>⟨(148,0),rfl,rfl,rfl⟩
 .rintro l ⟨X,A,B,C⟩;obtain⟨v,h⟩:∃v,l.length=v:=⟨_,rfl⟩;rw[h]at X;have T:=at_ret x.ids v;have t:=yog (v:=atP x.ids v) (m:=256) (by omega)
  obtain⟨a,U⟩:∃a:Nat,yej (atP x.ids v) 256=a:=zL t.1;have p:=yob (atP x.ids v) 256 (by omega) (N v)
  rw[U]at p t;simp only[yeak,ydum,ydwy,ydan,netC,h,splice,clash,go_sem,zA,zB,zI];refine⟨fun Y=>?_,fun W=>?_⟩
  .refine T.use ?_;simp only[ybk,clash,go_sem,zA,zB];refine p.use ?_
   refine ybf (σ:=Nat×Nat) (fun q=>⟨[(9,.i .i64 q.2),(8,.i .i64 ((a+q.1)%256:Nat)),(7,.i .i64 v),(5,.i .i64 n),(2,.pt (2,0) 0 0),(6,.pt (6,0) 0 0),(4,.pt (4,0) 0 0)],
    [(2,.one (some ⟨24,true,6,1,fun _=>netC x⟩)),(4,.one (some ⟨27,true,2,1,fun _=>[.a (.slice none 0 0),.a (.slice none 0 0)]⟩)),
     (6,.one (some ⟨27,true,2,1,fun _=>[.os (148,0) 0 v true,.os (17,0) 0 n true]⟩)),(17,.one (some ⟨135,false,1,n,fun _=>[.a (.slice none 0 0)]⟩)),
     (148,.one (some ⟨3,false,1,v,fun k=>[.i .i64 (l.getD k 0)]⟩))]⟩)
    (fun q=>q.2<=v/\(∀i,i<q.1->(((a+i)%256:Nat):Int)∈l)/\q.1<=256/\∀j,j<q.2->l.getD j 0≠(((a+q.1)%256:Nat):Int)) (fun q=>(v-q.1)*(v+2)+(v-q.2)) (0,0) ⟨zU _,fun i K=>absurd K (zAI i),by omega,fun j f=>absurd f (zAI j)⟩ ?_ ?_
   .refine yx ?_;simp only[netC,wk,go_sem,zA,zD];rw[Nat.mod_eq_of_lt (by omega)]
   .rintro⟨r,u⟩ ⟨S,F,c,g⟩;obtain⟨b,s⟩:∃b,(a+r)%256=b:=⟨_,rfl⟩;have J:b<256:=by omega
    simp only[yduk,yegb,ydhj,ydhk,yden,yduz,netC,s,splice,clash,go_sem,zA,zB,zI,zD];have S:u<=v:=S;have F:∀i,i<r->(((a+i)%256:Nat):Int)∈l:=F;have c:r<=256:=c;have g:∀j,j<u->l.getD j 0≠(b:Int):=fun j f=>by rw[<-s];exact g j f
    have a1:r<=v:=by rw[<-h];exact ybpp c F
    refine⟨fun Q=>⟨⟨by omega,by omega⟩,by omega,fun V=>⟨ikw (by omega) (by omega),by decide,ikw (by omega) (by omega),?_⟩,fun M=>⟨ikw (by omega) (by omega),?_⟩⟩,fun P=>?_⟩
    .have D:(b:Int)∈l:=by
      rw[<-V,getD_at (show u<l.length by omega)]
      exact zO _
     have G:∀i,i<r+1->(((a+i)%256:Nat):Int)∈l:=fun i K=>by
      by_cases q:i=r
      .rw[q,s];exact D
      .exact F i (by omega)
     have R:r+1<=v:=by rw[<-h];exact ybpp (by omega) G
     refine yj (r+1,0) ⟨zU _,G,by show r+1<=256;omega,fun j f=>absurd f (zAI j)⟩ ?_ ?_
     .show(v-(r+1))*(v+2)+(v-0)<(v-r)*(v+2)+(v-u);obtain⟨m,I⟩:∃m,v-r=m+1:=⟨v-r-1,by omega⟩
      rw[show v-(r+1)=m by omega,I,Nat.succ_mul]
      generalize m*(v+2)=z
      omega
     .refine yx ?_;simp only[wk,go_sem,zA,zD];refine⟨by omega,?_⟩
      rw[Int.tmod_eq_emod_of_nonneg (by omega)]
      omega
    .refine yj (r,u+1) ⟨by show u+1<=v;omega,F,c,fun j f=>?_⟩ ?_ ?_
     .show l.getD j 0≠(((a+r)%256:Nat):Int);rw[s]
      by_cases q:j=u
      .rw[q];exact M
      .exact g j (by have:j<u+1:=f;omega)
     .show(v-r)*(v+2)+(v-(u+1))<(v-r)*(v+2)+(v-u)
      generalize (v-r)*(v+2)=z
      omega
     .refine yx ?_;simp only[s,wk,go_sem,zA,zD];omega
    .obtain rfl:u=v:=by omega
     refine⟨⟨by omega,by omega⟩,ikw (by omega) (by omega),?_⟩
     have E:(b:Int)∉l:=fun I=>by
      obtain⟨j,f,e⟩:=zAF I;exact g j (by omega) (by rw[getD_at f,e])
     refine yj (l++[(b:Int)]) ⟨by rw[zAJ,zAW];omega,fun y d=>?_,?_,?_⟩ (by rw[zAJ,zAW];omega) ?_
     .rcases List.mem_append.1 d with d|d
      .exact A y d
      .rw[List.mem_singleton.1 d];omega
     .rw[zBG];exact⟨B,by simp,fun y d z hz=>by rw[List.mem_singleton.1 hz];exact fun e=>E (e▸d)⟩
     .intro H y d;rw[zAJ,zAW];rcases List.mem_append.1 d with d|d
      .have:=C H y d;omega
      .have a0:a=0:=by
        have:yej (atP x.ids u) 256=0:=by rw[H];rfl
        omega
       rw[List.mem_singleton.1 d];omega
     refine yby [(148,fun i=>(48,i))] [] [] ?_;simp only[zAJ,h,wk,go_sem,zA,zD];refine⟨by omega,fun i K=>?_⟩
     rw[ydyy,h]
     by_cases q:i<u
     .simp only[if_pos q];simp only[wk,go_sem]
     .obtain rfl:i=u:=by omega
      simp only[if_neg q,zCA];simp only[wk,go_sem]
  .obtain rfl:v=n:=by omega
   simp only[yhs,go_sem];refine⟨.ag [.os (148,0) 0 v true,.os (17,0) 0 v true],[(17,.one (some ⟨135,false,1,v,fun _=>[.a (.slice none 0 0)]⟩)),(148,.one (some ⟨3,false,1,v,fun k=>[.i .i64 (l.getD k 0)]⟩))],?_,?_,l,⟨by omega,by omega,by rw[h];exact L.2.2,C⟩,A,B,by rw[h],by rw[h]⟩
   .refine yx ?_;simp only[wk,go_sem,zA,zD]
   .simp only[ycp,yfq,wk,go_sem,zA]
theorem ycpc{x:NetR}(j:x.ok){most:Nat}(g:1<=most/\most<=24) :
 Cm zH 47 [] [] [.ag (netC x),.i .i64 most] fun r o=>∃ids:List Int,(1<=ids.length/\ids.length<=most/\(ids.length:Int)=1+yej (IntKind.wrap .i64 (x.n-1)) most/\ybgt x ids)/\(∀y∈ids,0<=y/\y<=255)/\ids.Nodup/\r = .ag [ybc ids,.os (17,0) 0 ids.length true] /\
  o=[(17,.one (some ⟨135,false,1,ids.length,fun _=>[.a (.slice none 0 0)]⟩))] :=
 (yclf j g).weak fun r k ⟨ids,d,e,f,b,c⟩=>by
   subst b c;obtain⟨v,h⟩:∃v,ids.length=v:=⟨_,rfl⟩;refine⟨.ag [ybc ids,.os (17,0) 0 ids.length true],[(17,.one (some ⟨135,false,1,ids.length,fun _=>[.a (.slice none 0 0)]⟩))],?_,?_,ids,d,e,f,rfl,rfl⟩
   .refine yby [] [] [(148,0)] ?_;simp only[ybc,h,wk,go_sem,zA,zD]
   .simp only[ycp,yfq,wk,go_sem]
end Sh
end
section
def ylo(back:Bool)(g:Gr)(a b:Nat)(w:Int):Gr:=if a=b\/ypl (g.ports.getD a []) b=true then g else ydc back g a b w
namespace Sh
open Ev Go.RowKit
def rowO(l:List (Int×Int)):OB:=⟨68,false,2,l.length,fun k=>[.i .i64 (l.getD k (0,0)).1,.i .i64 (l.getD k (0,0)).2]⟩
def yia(ports:List (List (Int×Int))):Own:=[(211,.one (some ⟨135,false,1,ports.length,fun v=>[.os (212,v) 0 (ports.getD v []).length true]⟩)),
 (212,.many fun v=>if v<ports.length then some (rowO (ports.getD v []))else none)]
def ywg(g:Gr):SV:=.ag [ybc g.ids,.os (211,0) 0 g.ports.length true]
theorem ykz{i n:Nat}{x b:OB}(h:(if i<n then some x else none)=some b):i<n/\b=x:=by
 split at h
 .cases h;exact⟨by assumption,rfl⟩
 .cases h
theorem ycn(back:Bool)(L:List (Int×Int))(x:Int×Int):(addL back L x).length=L.length+1:=by
 unfold addL;cases back<;>simp
theorem ybif(L:List (Int×Int))(x:Int×Int){k:Nat}(hk:k<L.length+1):(if k<L.length then[SV.i .i64 (L.getD k (0,0)).1,SV.i .i64 (L.getD k (0,0)).2]else zCU 2 (zCV ((k-L.length)*2) [SV.i .i64 x.1,SV.i .i64 x.2]))=[SV.i .i64 ((addL false L x).getD k (0,0)).1,SV.i .i64 ((addL false L x).getD k (0,0)).2]:=by
 show _=[SV.i .i64 ((L++[x]).getD k (0,0)).1,SV.i .i64 ((L++[x]).getD k (0,0)).2];rw[ydyy]
 by_cases h:k<L.length
 .rw[if_pos h,if_pos h]
 .obtain rfl:k=L.length:=by omega
  rw[if_neg h,if_neg h,if_pos rfl,zCA];rfl
theorem yqp(L:List (Int×Int))(x:Int×Int)(k:Nat):(if k<1 then zCU 2 (zCV (k*2) [SV.i .i64 x.1,SV.i .i64 x.2])else[SV.i .i64 (L.getD (k-1) (0,0)).1,SV.i .i64 (L.getD (k-1) (0,0)).2])=[SV.i .i64 ((addL true L x).getD k (0,0)).1,SV.i .i64 ((addL true L x).getD k (0,0)).2]:=by
 show _=[SV.i .i64 ((x::L).getD k (0,0)).1,SV.i .i64 ((x::L).getD k (0,0)).2];cases k with
 |zero=>rfl
 |succ k=>rw[if_neg (by omega)];rfl
theorem cells_one(L:List (Int×Int))(h:L.length=0)(x:Int×Int){k:Nat}(hk:k<1):zCU 2 (zCV (k*2) [SV.i .i64 x.1,SV.i .i64 x.2])=[SV.i .i64 ((addL true L x).getD k (0,0)).1,SV.i .i64 ((addL true L x).getD k (0,0)).2]:=by
 obtain rfl:k=0:=by omega
 rfl
theorem yld {n:Nat}{o:Own}{P':List (List (Int×Int))}(D:P'.length=n) (A:Nat->Nm) {R:Nat->List SV}(m:lookO o (211,0)=some ⟨135,false,1,n,R⟩) (C:∀v,v<n->R v=[.os (A v) 0 (P'.getD v []).length true])
 (B:∀v,v<n->∃q,lookO o (A v)=some ⟨68,false,2,(P'.getD v []).length,q⟩/\∀k,k<(P'.getD v []).length->q k=[.i .i64 ((P'.getD v []).getD k (0,0)).1,.i .i64 ((P'.getD v []).getD k (0,0)).2])
 (t:∀u v,u<n->v<n->A u=A v->u=v) (z:∀v,v<n->A v≠(211,0)) :
 ∃r l,Weak [(211,0)] ⟨[(0,.tp [])],o⟩ ⟨[(0,r)],l⟩/\(cln (live l) 5 r=true/\allQ (fun p=>ycp (live l) p.2) l/\allQ (fun G=>live l G=true) [(211,0)])/\r = .tp []/\l=yia P':=by
 subst D
 have d:∀i,(if i<P'.length then some (rowO (P'.getD i []))else none).isSome=true->i<P'.length:=fun i h=>by
  by_cases q:i<P'.length
  .exact q
  .rw[if_neg q]at h;cases h
 have f:∀i,i<P'.length->live (yia P') (212,i)=true:=fun i t=>by
  show(if i<P'.length then some (rowO (P'.getD i []))else none).isSome=true
  rw[if_pos t];rfl
 refine⟨.tp [],yia P',yblq [(212,A)] [] [] trivial ⟨.inr ⟨.inr fun e=>⟨rfl,rfl⟩,.inr fun j y e=>?_,trivial⟩,.inr ⟨.inr fun i c e=>?_,.inr fun i c j y e=>⟨rfl,?_⟩,trivial⟩,trivial⟩ ⟨?_,trivial⟩ ⟨?_,fun i b s=>?_,trivial⟩ ⟨⟨rfl,rfl,rfl⟩,trivial⟩,⟨rfl,⟨?_,?_,trivial⟩,rfl,trivial⟩,rfl,rfl⟩
 .exact absurd e.symm (z j (d j y))
 .exact absurd e (z i (d i c))
 .exact t i j (d i c) (d j y) e
 .exact⟨_,rfl,.inl ⟨trivial,Sim.refl _,rfl⟩⟩
 .refine⟨_,m,⟨rfl,rfl,rfl,rfl,rfl⟩,fun e=>absurd (show false=true from e) zAK,fun i c=>?_⟩
  have c:i<P'.length:=c;show telL _ _ _ _ _ (R i) _;rw[C i c];refine⟨.inl ⟨by simp only[go_sem],Sim.refl _,?_⟩,rfl,trivial⟩
  show(live (yia P') (212,i) && !(List.elem 212 []))=true;rw[f i c];rfl
 .obtain⟨c,rfl⟩:=ykz s;obtain⟨q,E,F⟩:=B i c;refine⟨_,E,⟨rfl,rfl,rfl,rfl,rfl⟩,fun e=>absurd (show false=true from e) zAK,fun k hk=>?_⟩
  show telL _ _ _ _ _ (q k) _;rw[F k hk];exact⟨.inl ⟨trivial,Sim.refl _,rfl⟩,rfl,.inl ⟨trivial,Sim.refl _,rfl⟩,rfl,trivial⟩
 .intro k hk;have:live (yia P') (212,k)=true:=f k hk;simp only[yia,zCX,List.all_nil,Bool.and_true]at this ⊢;exact this
 .intro i b s k hk;obtain⟨c,rfl⟩:=ykz s;rfl
section
variable {x:NetR}{g:Gr}{a b:Nat}{w:Int}
theorem ydmo (A:a<g.ports.length)(C:b<g.ports.length)(M:g.ports.length<=24)(E:∀v,(g.ports.getD v []).length<=1000) :
 Cm zH 48 [(211,0)] (yia g.ports) [.ag (netC x),ywg g,.i .i64 a,.i .i64 b,.i .i64 w] fun r o=>r = .tp []/\o=yia (ylo x.back g a b w).ports:=by
 refine ydju [(211,0)] [] _ _ _ ?_;obtain⟨L,p⟩:∃O,yia (ylo x.back g a b w).ports=O:=⟨_,rfl⟩;rw[p]
 by_cases d:a=b
 .subst d;have B:ylo x.back g a a w=g:=if_pos (.inl rfl);rw[B]at p;simp only[c48,ydhw,ydjb,netC,ywg,yia,yhs,go_sem,zA,zB,zD,↓reduceIte,reduceCtorEq];subst p;exact yld rfl (fun v=>(212,v)) rfl (fun v m=>rfl) (fun v m=>⟨_,if_pos m,fun k hk=>rfl⟩) (fun u v _ _ e=>congrArg Prod.snd e) (fun v _ e=>by cases e)
 .have F:((a:Int)==(b:Int))=false:=by rw[beq_eq_false_iff_ne];omega
  have I:=ybvl (ids:=g.ids) (ports:=g.ports) (b:=b) A (by have:=E a;omega)
  simp only[c48,ydhw,ydjb,netC,ywg,yia,F,clash,go_sem,zA,zB,zD,↓reduceIte,reduceCtorEq];refine .inl ⟨fun q H=>by rw[if_pos H];exact⟨zJ _,fun k hk=>by simp only[rowO,go_sem]⟩,I.useS ?_ ?_⟩
  .refine⟨ybgs ⟨Sim.refl _,?_,trivial⟩,Sim.refl _,Sim.refl _,trivial⟩;refine yeb fun q H=>?_;rw[if_pos H];simp only[rowO,ybb,go_sem];exact⟨Sim.refl _,trivial⟩
  cases D:ypl (g.ports.getD a []) b with
  | true =>
    have B:ylo x.back g a b w=g:=if_pos (.inr D);rw[B]at p;simp only[ybk,clash,yhs,go_sem,zA,zB,↓reduceIte];subst p;exact yld rfl (fun v=>(212,v)) rfl (fun v m=>rfl) (fun v m=>⟨_,if_pos m,fun k hk=>rfl⟩) (fun u v _ _ e=>congrArg Prod.snd e) (fun v _ e=>by cases e)
  | false =>
    have B:ylo x.back g a b w=ydc x.back g a b w:=if_neg (fun q=>by rcases q with q|q;exact d q;rw[D]at q;cases q)
    rw[B]at p;subst p;have s:¬b=a:=fun e=>d e.symm;have l:(ydc x.back g a b w).ports.length=g.ports.length:=by simp[ydc]
    have f:=yey x.back g w A C;obtain⟨G',z⟩:∃G,(ydc x.back g a b w).ports=G:=⟨_,rfl⟩;rw[z]at l ⊢;have f:∀v,G'.getD v []=if v=b then addL x.back (g.ports.getD b []) (a,w)else if v=a then addL x.back (g.ports.getD a []) (b,w)else g.ports.getD v []:=fun v=>by rw[<-z];exact f v
    clear z B
    obtain⟨N,P,Q,R,S,back⟩:=x;have J:=E a;have K:=E b;cases back with
    | false =>
      simp only[ybk,clash,ybvk,ybwo,yebv,rowO,if_pos A,if_pos C,d,s,yhs,and_false,go_sem,zA,zB,zI,zD,↓reduceIte,reduceCtorEq];refine⟨⟨by omega,by omega⟩,by omega,⟨by omega,by omega⟩,by decide,⟨by omega,by omega⟩,by omega,⟨by omega,by omega⟩,by decide,⟨by omega,by omega⟩,by omega,by decide,⟨by omega,by omega⟩,by omega,by decide,?_⟩
      refine yld l (fun v=>if v=b then(74,0)else if v=a then(66,0)else(212,v)) rfl (fun v m=>?_) (fun v m=>?_) (fun u v _ _ e=>?_) (fun v _ e=>?_)
      .rw[f v]
       by_cases q:v=b
       .simp only[if_pos q,ycn]
       .by_cases c:v=a
        .simp only[if_neg q,if_pos c,ycn]
        .simp only[if_neg q,if_neg c]
      .rw[f v]
       by_cases q:v=b
       .simp only[if_pos q,ycn];exact⟨_,rfl,fun k hk=>ybif _ (_,_) hk⟩
       .by_cases c:v=a
        .simp only[if_neg q,if_pos c,ycn];exact⟨_,rfl,fun k hk=>ybif _ (_,_) hk⟩
        .simp only[if_neg q,if_neg c];refine⟨fun k=>[.i .i64 ((g.ports.getD v []).getD k (0,0)).1,.i .i64 ((g.ports.getD v []).getD k (0,0)).2],?_,fun k hk=>rfl⟩;show(if v=b then none else if v=a then none else if v<g.ports.length then some _ else none)=some _
         rw[if_neg q,if_neg c,if_pos m]
      .by_cases q:u=b<;>by_cases c:u=a<;>by_cases t:v=b<;>by_cases y:v=a<;>simp[q,c,t,y,d]at e ⊢<;>omega
      .by_cases q:v=b<;>by_cases c:v=a<;>simp[q,c,d]at e
    | true =>
      by_cases j:(g.ports.getD a []).length=0
      .by_cases h:(g.ports.getD b []).length=0
       .simp only[ybk,clash,ybvk,ybwo,ycgm,yccp,rowO,if_pos A,if_pos C,s,yhs,and_false,j,h,go_sem,zA,zB,zI,zD,zBW,↓reduceIte,reduceCtorEq]
        repeat' apply zCB
        all_goals first|omega|decide|skip
        refine yld l (fun v=>if v=b then(45,0)else if v=a then(33,0)else(212,v)) rfl (fun v m=>?_) (fun v m=>?_) (fun u v _ _ e=>?_) (fun v _ e=>?_)
        .rw[f v]
         by_cases q:v=b
         .simp only[if_pos q,ycn,h,zAE]
         .by_cases c:v=a
          .simp only[if_neg q,if_pos c,ycn,j,zAE]
          .simp only[if_neg q,if_neg c]
        .rw[f v]
         by_cases q:v=b
         .simp only[if_pos q,ycn,h,zAE];exact⟨_,rfl,fun k hk=>cells_one _ h (_,_) hk⟩
         .by_cases c:v=a
          .simp only[if_neg q,if_pos c,ycn,j,zAE];exact⟨_,rfl,fun k hk=>cells_one _ j (_,_) hk⟩
          .simp only[if_neg q,if_neg c];refine⟨fun k=>[.i .i64 ((g.ports.getD v []).getD k (0,0)).1,.i .i64 ((g.ports.getD v []).getD k (0,0)).2],?_,fun k hk=>rfl⟩;show(if v<g.ports.length then some _ else none)=some _
           rw[if_pos m]
        .by_cases q:u=b<;>by_cases c:u=a<;>by_cases t:v=b<;>by_cases y:v=a<;>simp[q,c,t,y,d]at e ⊢<;>omega
        .by_cases q:v=b<;>by_cases c:v=a<;>simp[q,c,d]at e
       .simp only[ybk,clash,ybvk,ybwo,ycgm,yccp,rowO,if_pos A,if_pos C,s,yhs,and_false,j,h,go_sem,zA,zB,zI,zD,zBW,↓reduceIte,reduceCtorEq]
        repeat' apply zCB
        all_goals first|omega|decide|skip
        refine yld l (fun v=>if v=b then(51,0)else if v=a then(33,0)else(212,v)) rfl (fun v m=>?_) (fun v m=>?_) (fun u v _ _ e=>?_) (fun v _ e=>?_)
        .rw[f v]
         by_cases q:v=b
         .simp only[if_pos q,ycn,zX]
         .by_cases c:v=a
          .simp only[if_neg q,if_pos c,ycn,j,zAE,zX]
          .simp only[if_neg q,if_neg c]
        .rw[f v]
         by_cases q:v=b
         .simp only[if_pos q,ycn];exact⟨_,congrArg some (congrArg (fun n=>OB.mk _ _ _ n _) (zX _ _)),fun k hk=>yqp _ (_,_) k⟩
         .by_cases c:v=a
          .simp only[if_neg q,if_pos c,ycn,j,zAE];exact⟨_,rfl,fun k hk=>cells_one _ j (_,_) hk⟩
          .simp only[if_neg q,if_neg c];refine⟨fun k=>[.i .i64 ((g.ports.getD v []).getD k (0,0)).1,.i .i64 ((g.ports.getD v []).getD k (0,0)).2],?_,fun k hk=>rfl⟩;show(if v<g.ports.length then some _ else none)=some _
           rw[if_pos m]
        .by_cases q:u=b<;>by_cases c:u=a<;>by_cases t:v=b<;>by_cases y:v=a<;>simp[q,c,t,y,d]at e ⊢<;>omega
        .by_cases q:v=b<;>by_cases c:v=a<;>simp[q,c,d]at e
      .by_cases h:(g.ports.getD b []).length=0
       .simp only[ybk,clash,ybvk,ybwo,ycgm,yccp,rowO,if_pos A,if_pos C,s,yhs,and_false,j,h,go_sem,zA,zB,zI,zD,zBW,↓reduceIte,reduceCtorEq]
        repeat' apply zCB
        all_goals first|omega|decide|skip
        refine yld l (fun v=>if v=b then(45,0)else if v=a then(39,0)else(212,v)) rfl (fun v m=>?_) (fun v m=>?_) (fun u v _ _ e=>?_) (fun v _ e=>?_)
        .rw[f v]
         by_cases q:v=b
         .simp only[if_pos q,ycn,h,zAE,zX]
         .by_cases c:v=a
          .simp only[if_neg q,if_pos c,ycn,zX]
          .simp only[if_neg q,if_neg c]
        .rw[f v]
         by_cases q:v=b
         .simp only[if_pos q,ycn,h,zAE];exact⟨_,rfl,fun k hk=>cells_one _ h (_,_) hk⟩
         .by_cases c:v=a
          .simp only[if_neg q,if_pos c,ycn];exact⟨_,congrArg some (congrArg (fun n=>OB.mk _ _ _ n _) (zX _ _)),fun k hk=>yqp _ (_,_) k⟩
          .simp only[if_neg q,if_neg c];refine⟨fun k=>[.i .i64 ((g.ports.getD v []).getD k (0,0)).1,.i .i64 ((g.ports.getD v []).getD k (0,0)).2],?_,fun k hk=>rfl⟩;show(if v<g.ports.length then some _ else none)=some _
           rw[if_pos m]
        .by_cases q:u=b<;>by_cases c:u=a<;>by_cases t:v=b<;>by_cases y:v=a<;>simp[q,c,t,y,d]at e ⊢<;>omega
        .by_cases q:v=b<;>by_cases c:v=a<;>simp[q,c,d]at e
       .simp only[ybk,clash,ybvk,ybwo,ycgm,yccp,rowO,if_pos A,if_pos C,s,yhs,and_false,j,h,go_sem,zA,zB,zI,zD,↓reduceIte,reduceCtorEq]
        repeat' apply zCB
        all_goals first|omega|decide|skip
        refine yld l (fun v=>if v=b then(51,0)else if v=a then(39,0)else(212,v)) rfl (fun v m=>?_) (fun v m=>?_) (fun u v _ _ e=>?_) (fun v _ e=>?_)
        .rw[f v]
         by_cases q:v=b
         .simp only[if_pos q,ycn,zX]
         .by_cases c:v=a
          .simp only[if_neg q,if_pos c,ycn,zX]
          .simp only[if_neg q,if_neg c]
        .rw[f v]
         by_cases q:v=b
         .simp only[if_pos q,ycn];exact⟨_,congrArg some (congrArg (fun n=>OB.mk _ _ _ n _) (zX _ _)),fun k hk=>yqp _ (_,_) k⟩
         .by_cases c:v=a
          .simp only[if_neg q,if_pos c,ycn];exact⟨_,congrArg some (congrArg (fun n=>OB.mk _ _ _ n _) (zX _ _)),fun k hk=>yqp _ (_,_) k⟩
          .simp only[if_neg q,if_neg c];refine⟨fun k=>[.i .i64 ((g.ports.getD v []).getD k (0,0)).1,.i .i64 ((g.ports.getD v []).getD k (0,0)).2],?_,fun k hk=>rfl⟩;show(if v<g.ports.length then some _ else none)=some _
           rw[if_pos m]
        .by_cases q:u=b<;>by_cases c:u=a<;>by_cases t:v=b<;>by_cases y:v=a<;>simp[q,c,t,y,d]at e ⊢<;>omega
        .by_cases q:v=b<;>by_cases c:v=a<;>simp[q,c,d]at e
end
end Sh
end
section
theorem ybvf{back:Bool}{g:Gr}{a b:Nat}{w:Int}(c:ybj g)(d:a<g.ports.length)(f:b<g.ports.length)(j:1<=w/\w<=15):ybj (ylo back g a b w)/\(ylo back g a b w).ids=g.ids/\(ylo back g a b w).ports.length=g.ports.length:=by
 unfold ylo
 by_cases h:a=b\/ypl (g.ports.getD a []) b=true
 .rw[if_pos h];exact⟨c,rfl,rfl⟩
 .rw[if_neg h];refine⟨ybgx c d f (fun e=>h (.inl e)) j fun l i e=>h (.inr (List.any_eq_true.2 ⟨l,i,decide_eq_true e⟩)),rfl,by simp[ydc]⟩
theorem ycef{back:Bool}{g:Gr}{a b:Nat}{w:Int}(c:a<g.ports.length)(d:b<g.ports.length){m:Nat}(h:Tre g m):Tre (ylo back g a b w) m:=by
 unfold ylo;split
 .exact h
 .exact h.add c d
theorem yclm{back:Bool}{g:Gr}{a b:Nat}{w:Int}(d:a<g.ports.length)(f:b<g.ports.length)(c:a≠b):adj (ylo back g a b w) a b:=by
 unfold ylo;split
 .rename_i h
  rcases h with h|h
  .exact absurd h c
  .obtain⟨l,i,e⟩:=List.any_eq_true.1 h;exact ypo.2 ⟨l,i,of_decide_eq_true e⟩
 .exact ybme d f c
theorem ybld:∀(l:List Nat) (i x:Nat) (h:i<l.length),(l.set i x).sum+l[i]=l.sum+x
 |a::l,0,x,_=>by simp;omega
 | a::l,i+1,x,h=>by
   have:=ybld l i x (by simpa using h)
   simp only[List.set_cons_succ,List.sum_cons,List.getElem_cons_succ];omega
theorem ybsv{back:Bool}{g:Gr}{a b:Nat}{w:Int}(e:a<g.ports.length)(f:b<g.ports.length)(c:a≠b):yon (ydc back g a b w)=yon g+2:=by
 unfold yon ydc;simp only[List.map_set,Sh.ycn];have h:=ybld (g.ports.map zCK) a ((g.ports.getD a []).length+1) (by simpa using e)
 have i:=ybld ((g.ports.map zCK).set a ((g.ports.getD a []).length+1)) b ((g.ports.getD b []).length+1) (by simpa using f)
 rw[List.getElem_set_ne c,zAV,<-Sh.getD_at f (d:=[])]at i;rw[zAV,<-Sh.getD_at e (d:=[])]at h;omega
def WtF(x:NetR)(g:Gr):Prop:=∀v l,l∈g.ports.getD v []->∃i,l.2=1+yej (atP x.weights i) 15
theorem ycng{x:NetR}{back:Bool}{g:Gr}{a b:Nat}{w:Int}(e:a<g.ports.length)(f:b<g.ports.length)(d:∃i,w=1+yej (atP x.weights i) 15)(h:WtF x g):WtF x (ylo back g a b w):=by
 unfold ylo;split
 .exact h
 .intro v l c;rw[yey back g w e f]at c;split at c
  .rcases yfn.1 c with rfl|c
   .exact d
   .exact h _ _ c
  .split at c
   .rcases yfn.1 c with rfl|c
    .exact d
    .exact h _ _ c
   .exact h _ _ c
structure TreeTo(x:NetR)(v:Nat)(g:Gr):Prop where
 tre:Tre g v
 wt:WtF x g
 none_:∀u,v<=u->g.ports.getD u []=[]
 count:yon g+2=2*v
theorem ysp(ids:List Int)(v:Nat):(bare ids).ports.getD v []=[]:=by
 unfold bare;rw[zAN,zBN];split<;>rfl
theorem TreeTo.zero(x:NetR)(ids:List Int):TreeTo x 1 (bare ids):=by
 refine⟨fun v b c=>by omega,fun v l a=>?_,fun u _=>ysp ids u,?_⟩
 .rw[ysp]at a;exact absurd a zAD
 .have:yon (bare ids)=0:=by
   unfold yon bare;simp
  omega
theorem TreeTo.succ{x:NetR}{v:Nat}{g:Gr}(n:ybj g)(h:TreeTo x v g)(f:v<g.ports.length)(s:1<=v){a:Nat}(m:a<v){w:Int}(r:∃i,w=1+yej (atP x.weights i) 15):TreeTo x (v+1) (ylo x.back g a v w):=by
 have c:=yclm (back:=x.back) (g:=g) (a:=a) (b:=v) (w:=w) (by omega) (by omega) (by omega)
 have j:¬(a=v\/ypl (g.ports.getD a []) v=true):=by
  rintro(e|e)
  .omega
  .obtain⟨l,o,e⟩:=List.any_eq_true.1 e;have e:=of_decide_eq_true e;have:adj g v a:=n.adj_symm (ypo.2 ⟨l,o,e⟩);obtain⟨t,d,_⟩:=ypo.1 this;rw[h.none_ v (zJ _)]at d;exact absurd d zAD
 have e:ylo x.back g a v w=ydc x.back g a v w:=by unfold ylo;rw[if_neg j]
 refine⟨fun u k p=>?_,ycng (by omega) f r h.wt,fun u p=>?_,?_⟩
 .by_cases q:u=v
  .subst q;exact⟨a,m,c⟩
  .exact ycef (by omega) f h.tre u k (by omega)
 .rw[e,yey x.back g w (by omega) f,if_neg (by omega),if_neg (by omega)]
  exact h.none_ u (by omega)
 .rw[e,ybsv (by omega) f (by omega)]
  have:=h.count;omega
namespace Sh
open Ev Go.RowKit
theorem ycnj{n:Nat}{P:List (List (Int×Int))}{f:SV->SV}(a:∀k z,f (.i k z) = .i k z){i:Nat}(c:i<n):(match (if i<n then some (rowO (P.getD i []))else none)with|some b=>some (⟨b.e,b.bx,b.z,b.n,fun k=>(b.g k).map f⟩:OB)|none=>none)=some (rowO (P.getD i [])):=by
 rw[if_pos c];simp[rowO,a]
theorem ydnu{x:NetR}(T:x.ok){most:Nat}(hm:1<=most/\most<=24) :
 Cm zH 10 [] [] [.ag (netC x),.i .i64 most] fun r o=>∃g,ybj g/\TreeTo x g.ports.length g/\(g.ports.length<=most/\(g.ports.length:Int)=1+yej (IntKind.wrap .i64 (x.n-1)) most/\ybgt x g.ids)/\r=ywg g/\o=yia g.ports:=by
 refine ydij [] [47,48] _ _ _ ?_;have R:=ycpc T hm;obtain⟨a1,O,P,a2⟩:=T;simp only[netC]at R;simp only[c10,yecp,yedn,netC,go_sem,zA,zB,zD,↓reduceIte,reduceCtorEq];refine yfb R [(17,117)] 0 [2,4] [2,4] ?_ ?_
 .simp only[to1,okN,ycp,yfq,yeq,yeg,wk,go_sem,zA,zB,zY,↓reduceIte,reduceCtorEq]
 rintro r o' ⟨c,Q,X,Y,rfl,rfl⟩;obtain⟨n,J⟩:∃n,c.length=n:=⟨_,rfl⟩;rw[J]at Q;simp only[J,ypd,ymp,nuF,nu,difN,yeq,yeg,Fam.ren,OB.ren,dim,ydvo,ydfy,ykn,go_sem,zA,zB,zD,zY,↓reduceIte];simp only[ydtg,go_sem]
 refine ybf (σ:=Nat×Gr) (fun q=>⟨[(6,.i .i64 q.1),(5,.pt (5,0) 0 0),(2,.pt (2,0) 0 0),(4,.pt (4,0) 0 0)],
  (5,.one (some ⟨27,true,2,1,fun _=>[ybc q.2.ids,.os (211,0) 0 n true]⟩))::(2,.one (some ⟨24,true,6,1,fun _=>netC x⟩))::(4,.one (some ⟨27,true,2,1,fun _=>[.a (.slice none 0 0),.a (.slice none 0 0)]⟩))::yia q.2.ports⟩)
  (fun q=>ybj q.2/\q.2.ports.length=n/\TreeTo x q.1 q.2/\1<=q.1/\q.1<=n/\q.2.ids=c) (fun q=>n-q.1) (1,bare c) ⟨ycct (by omega) (by omega) X Y,by simp[bare,J],TreeTo.zero x c,by omega,by omega,rfl⟩ ?_ ?_
 .refine yby [(211,fun i=>(117,i))] [212] [] ?_;have U:(bare c).ids=c:=rfl;have V:(bare c).ports.length=n:=by simp[bare,J]
  have W:∀v,(bare c).ports.getD v []=[]:=ysp c;simp only[netC,yia,rowO,U,V,W,List.length_nil,wk,go_sem,zA,zD,zY,↓reduceIte,reduceCtorEq];refine⟨rfl,fun i d=>⟨(212,i),rfl,rfl,by simp[d]⟩,fun i b p=>?_⟩
  obtain⟨_,rfl⟩:=ykz p;exact⟨rfl,rfl⟩
 .rintro⟨v,g⟩ ⟨z,h,s,y,I,E⟩;have z:ybj g:=z;have h:g.ports.length=n:=h;have s:TreeTo x v g:=s;have y:1<=v:=y;have I:v<=n:=I
  by_cases a0:v<n
  .have N:decide ((v:Int)<(n:Int))=true:=decide_eq_true (by omega)
   have H:(v:Int)-1=((v-1:Nat):Int):=by omega
   have K:=at_ret x.links (v-1);have L:=at_ret x.weights (v-1);have F:=yog (v:=atP x.links (v-1)) (m:=(v:Int)) (by omega)
   have M:=yog (v:=atP x.weights (v-1)) (m:=15) (by omega)
   have C:=yob (atP x.links (v-1)) v (by omega) (O _)
   have D:=yob (atP x.weights (v-1)) 15 (by omega) (P _)
   obtain⟨a,ha⟩:∃a:Nat,yej (atP x.links (v-1)) v=a:=zL F.1;obtain⟨w,S⟩:∃w:Int,yej (atP x.weights (v-1)) 15=w:=⟨_,rfl⟩;rw[ha]at C F;rw[S]at D M;have hL:=ydmo (x:=x) (g:=g) (a:=a) (b:=v) (w:=1+w) (by omega) (by omega) (by omega) (fun u=>by have:=z.deg_lt (v:=u);omega)
   simp only[ydni,ydvs,ydyh,netC,yia,N,H,clash,go_sem,zA,zB,zI,zY,↓reduceIte,reduceCtorEq];refine⟨ikw (by omega) (by omega),K.use ?_⟩
   simp only[ybk,clash,go_sem,zA,zB,zI,zY,↓reduceIte,reduceCtorEq];refine C.use ?_;simp only[H,go_sem];refine⟨ikw (by omega) (by omega),L.use ?_⟩
   simp only[go_sem,↓reduceIte];refine D.use ?_;simp only[go_sem,zA,zY,↓reduceIte];refine⟨ikw (by omega) (by omega),yfb hL [(211,211),(212,212)] 0 [2,4,5,6] [2,4,5] ?_ ?_⟩
   .simp only[netC,ywg,yia,h,to1,okN,ycp,yfq,yeq,yeg,wk,go_sem,zA,zB,zD,zY,↓reduceIte,reduceCtorEq];refine⟨⟨fun i _ j _ e=>e,fun i d=>by rw[if_pos d],fun i b p=>?_⟩,by decide⟩
    obtain⟨d,rfl⟩:=ykz p;exact⟨_,if_pos d,⟨rfl,rfl,rfl,rfl⟩,fun e=>absurd (show false=true from e) zAK,fun k hk=>by simp only[rowO,wk,go_sem,reduceCtorEq]⟩
   .rintro r o' ⟨rfl,rfl⟩;simp only[yia,ypd,ymp,nuF,nu,difN,yeq,yeg,Fam.ren,OB.ren,dim,yqz,ykn,go_sem,zA,zB,zY,↓reduceIte,reduceCtorEq];obtain⟨A,t,l⟩:=ybvf (back:=x.back) (a:=a) (b:=v) (w:=1+w) z (by omega) (by omega) (by omega)
    have B:=s.succ z (by omega) y (a:=a) (by omega) (w:=1+w) ⟨v-1,by rw[S]⟩
    obtain⟨G,Z⟩:∃G,ylo x.back g a v (1+w)=G:=⟨_,rfl⟩;rw[Z]at A t l B ⊢;rw[h]at l;refine⟨ikw (by omega) (by omega),yj (v+1,G) ⟨A,l,B,by omega,by omega,t.trans E⟩ (by show n-(v+1)<n-v;omega) ?_⟩
    .refine yx ?_;simp only[l,t,wk,go_sem,zA,zD,↓reduceIte,reduceCtorEq];refine⟨fun i _ j _ e=>e,by omega,fun i d=>by rw[if_pos d],fun i b p=>?_⟩
     obtain⟨d,rfl⟩:=ykz p;refine⟨_,ycnj (f:=ren (nu [(211,211),(212,212)] 0) 5) (fun _ _=>rfl) d,⟨rfl,rfl,rfl,rfl⟩,fun e=>absurd (show false=true from e) zAK,fun k hk=>?_⟩
     simp only[rowO,wk,go_sem,reduceCtorEq]
  .obtain rfl:v=n:=by omega
   have N:decide ((v:Int)<(v:Int))=false:=decide_eq_false (by omega)
   simp only[ydni,yeeo,netC,yia,N,clash,splice,yhs,go_sem,zA,zB,↓reduceIte,reduceCtorEq];refine⟨ywg g,yia g.ports,?_,?_,g,z,by rw[h];exact s,⟨by omega,by omega,by rw[show g.ids=c from E];exact Q.2.2.2⟩,rfl,rfl⟩
   .refine yx ?_;simp only[yia,ywg,h,wk,go_sem,zA,zD,↓reduceIte,reduceCtorEq];refine⟨fun i _ j _ e=>e,fun i d=>by rw[if_pos d],fun i b p=>?_⟩
    obtain⟨d,rfl⟩:=ykz p;exact⟨_,if_pos d,⟨rfl,rfl,rfl,rfl⟩,fun e=>absurd (show false=true from e) zAK,fun k hk=>by simp only[rowO,wk,go_sem,reduceCtorEq]⟩
   .simp only[yia,ywg,ycp,yfq,wk,go_sem,zA,↓reduceIte];refine⟨fun i d=>by rw[if_pos d],fun i b p k hk=>?_⟩
    obtain⟨d,rfl⟩:=ykz p;simp only[rowO,go_sem]
end Sh
end
section
namespace Sh
open Ev Go.RowKit
end Sh
end
section
structure Tgt(S:Sys)(V:Conf->Prop)(T:Conf->Nat->List Int):Prop where
 valid:∀c s,V c->s≠0->subB s (S.en c)->V (S.mv c s)
 stay:∀c s v,V c->v<S.n->s.testBit v=false->(S.mv c s).getD v []=c.getD v []
 move:∀c s v,V c->v<S.n->s.testBit v=true->subB s (S.en c)->(S.mv c s).getD v []=T c v
 en:∀c v,V c->v<S.n->((S.en c).testBit v=false↔c.getD v []=T c v)
theorem Tgt.rounds{S:Sys}{V:Conf->Prop}{T:Conf->Nat->List Int}(h:Tgt S V T){P:Nat->Nat->List Int->Prop}(hT:∀c v r,V c->v<S.n->(∀u,u<S.n->P r u (c.getD u []))->P (r+1) v (T c v))(hl:∀r v s,P (r+1) v s->P r v s):ByRounds S V P where
 valid:=h.valid
 stay:=h.stay
 move:=fun c s v r hv hn hb hs hall=>by rw[h.move c s v hv hn hb hs];exact hT c v r hv hn hall
 rest:=fun c v r hv hn hb hall=>by rw[(h.en c v hv hn).1 hb];exact hT c v r hv hn hall
 less:=hl
theorem Tgt.silent{S:Sys}{V:Conf->Prop}{T:Conf->Nat->List Int}(h:Tgt S V T){P:Nat->Nat->List Int->Prop}(e:∀c v r,V c->v<S.n->(∀u,u<S.n->P r u (c.getD u []))->P (r+1) v (T c v)){c:Conf}(b:V c)(d:∀v,v<S.n->P 0 v (c.getD v []))(f:S.en c=0):∀r v,v<S.n->P r v (c.getD v [])
 |0,v,a=>d v a
 | r+1,v,a=>by
   rw[(h.en c v b a).1 (by rw[f];simp)]
   exact e c v r b a (Tgt.silent h e b d f r)
theorem Tgt.en_zero{S:Sys}{V:Conf->Prop}{T:Conf->Nat->List Int}(h:Tgt S V T){c:Conf}(e:V c)(a:S.en c<2^S.n)(d:∀v,v<S.n->c.getD v []=T c v):S.en c=0:=by
 rw[yls];intro i
 by_cases b:i<S.n
 .exact(h.en c i e b).2 (d i b)
 .exact zBQ (zAH a (zBV (by omega) (by omega)))
end
section
open Go.RowKit
theorem ybip(f:Value)(D:List Int)(w:World)(d:yoy w f D) :
 Calls zH 141 #[f] w fun e j=>e = .returned (.int .i64 (yda D))/\w=j:=by
 obtain⟨A,c,rfl,g,h⟩:=ycj d;have Hd:=zC d
 clear d
 go_enter Tryz.func141,Tryz.ntmps141
 go_wp2
 go_loopg [3,8] D.length (fun q m t wr=>∃k:Nat,q+k=D.length/\t = .int .i64 k/\wr=w/\m = .int .i64 (yda (D.take k)))
 case atStart=>exact⟨0,by omega,rfl,rfl,by simp[yda]⟩
 case round =>
  obtain⟨k,o,rfl,rfl,rfl⟩:=hrel
  by_cases a:k<D.length
  .obtain⟨b,i,rfl,l,n,p⟩:=ymv Hd.out a;have Hs:=zC (yzn D k a)
   go_wp2
   all_goals
    go_roundg (gk-1)
    case measure=>omega
    case rel=>exact⟨k+1,by omega,by go_num,rfl,by rw[Hs.out];try (congr 1;omega)⟩
  .obtain rfl:k=D.length:=by omega
   go_wp2
   go_ret
   exact⟨yyr (by rw[zAU]),rfl⟩
theorem ygg(gv:Value)(g:Gr)(w:World)(z:GrAt w gv g) :
 Calls zH 121 #[gv] w fun e L=>e = .returned (.bool (yee g))/\Below w.heap.size w L:=by
 have l:=zC z;obtain⟨i,p,rfl,F,I⟩:=z
 clear F I
 cases u:yka g with
 | false =>
   have Hf:=zC (show yee g=false by unfold yee;rw[u];rfl)
   go_enter zCC,zCY
   go_wp2_with fail
   refine(yxh _ g _ (l.out.below ((Below.refl _ _).alloc (zJ _) _))).mono ?_;rintro e M ⟨rfl,f⟩
   go_wp2_with fail
   go_ret
   exact⟨ybw Hf.out.symm,ywb f⟩
 | true =>
   have d:=(yfx g).1 u;have H:=d.1;have B:=d.2.1;have Hgood:=zC d;have C:=zC (yhm d (a:=0) (by omega))
   have Hc:=zC (show yee g=(ybx g 0).all (fun x=>decide (0<=x))by unfold yee;rw[u];rfl)
   clear d
   go_enter zCC,zCY
   go_wp2_with fail
   refine(yxh _ g _ (l.out.below ((Below.refl _ _).alloc (zJ _) _))).mono ?_;rintro e M ⟨rfl,f⟩;obtain⟨S,T⟩:=yclv f;have Hb1:=zC (ywb f)
   clear f
   go_wp2_with fail
   refine(ybbu _ g 0 _ (l.out.below Hb1.out) Hgood.out (by omega)).mono ?_
   rintro e N ⟨v,rfl,n,o⟩;have Hb2:=zC (Hb1.out.trans (o.mono Hb1.out.size));obtain⟨A,c,rfl,s,E⟩:=ycj n;have Hv2:=zC n
   clear o n
   obtain⟨D,y⟩:∃D,ybx g 0=D:=⟨_,rfl⟩;rw[y]at Hv2 C s Hc ⊢
   clear y
   go_wp2
   go_loopg [11] D.length (fun q t wr=>∃k:Nat,q+k=D.length/\t = .int .i64 k/\wr=N/\Hid (∀j (m:j<D.length),j<k->0<=D[j]))
   case atStart=>exact⟨0,by omega,rfl,rfl,zC (fun j _ m=>absurd m (by omega))⟩
   case round =>
    obtain⟨k,Q,rfl,rfl,h⟩:=hrel
    by_cases r:k<D.length
    .obtain⟨b,K,rfl,O,P,R⟩:=ymv Hv2.out r
     by_cases c1:D[k]<0
     .have Hf:=zC (show yee g=false by
       rw[Hc.out,zCJ];exact⟨D[k],zO r,by simp;omega⟩)
      go_wp2
      go_ret
      exact⟨ybw Hf.out.symm,Hb2.out⟩
     .go_wp2
      go_roundg (gk-1)
      case measure=>omega
      case rel =>
       refine⟨k+1,by omega,by go_num,rfl,zC (fun j m G=>?_)⟩
       by_cases e:j=k
       .subst e;omega
       .exact h.out j m (by omega)
    .obtain rfl:k=D.length:=by omega
     have Ht:=zC (show yee g=true by
      rw[Hc.out,zCO];intro x J;obtain⟨j,m,rfl⟩:=List.mem_iff_getElem.1 J;exact decide_eq_true (h.out j m m))
     go_wp2
     go_ret
     exact⟨ybw Ht.out.symm,Hb2.out⟩
theorem yla{g:Gr}(h:yee g=true):yka g=true:=(zF _ _▸h).1
theorem yus(gv:Value)(g:Gr)(v:Int)(w:World)(j:GrAt w gv g) :
 Calls zH 87 #[gv,.int .i64 v] w fun e r=>e = .returned (.int .i64 (eccP g v))/\Below w.heap.size w r:=by
 have b:=zC j;obtain⟨i,p,rfl,n,k⟩:=j;obtain⟨s,c2,rfl,l,m⟩:=ycj k
 clear n k
 cases f:yee g with
 | false =>
   have Hf:=zC (show eccP g v = -1 by unfold eccP;rw[f];simp)
   go_enter zBE,zBM
   go_wp2_with fail
   refine(ygg _ g _ (b.out.below ((Below.refl _ _).alloc (zJ _) _))).mono ?_;rintro e h ⟨rfl,a⟩
   go_wp2_with fail
   go_ret
   exact⟨yyr Hf.out.symm,ywb a⟩
 | true =>
   have Hgood:=zC ((yfx g).1 (yla f))
   by_cases c1:v<0
   .have Hf:=zC (show eccP g v = -1 by unfold eccP;rw[if_neg];omega)
    go_enter zBE,zBM
    go_wp2_with fail
    refine(ygg _ g _ (b.out.below ((Below.refl _ _).alloc (zJ _) _))).mono ?_;rintro e h ⟨rfl,a⟩
    go_wp2_with fail
    go_ret
    exact⟨yyr Hf.out.symm,ywb a⟩
   .by_cases c2:v<g.ports.length
    .obtain⟨u,rfl⟩:=zL (show 0<=v by omega)
     have Hf:=zC (show eccP g u=yda (ybx g u)by unfold eccP;rw[if_pos ⟨f,by omega,c2⟩];rfl)
     have c3:u<g.ports.length:=by omega
     have c4:decide ((g.ports.length:Int)<=(u:Int))=false:=by simp;omega
     have c5:decide (g.ports.length<=u)=false:=by simp;omega
     go_enter zBE,zBM
     go_wp2_with fail
     refine(ygg _ g _ (b.out.below ((Below.refl _ _).alloc (zJ _) _))).mono ?_;rintro e h ⟨rfl,a⟩;obtain⟨o,q⟩:=yclv a;have Hb1:=zC (ywb a)
     clear a
     go_wp2_with fail
     refine(ybbu _ g u _ (b.out.below Hb1.out) Hgood.out c3).mono ?_;rintro e t ⟨x,rfl,d,c⟩;have Hb2:=zC (Hb1.out.trans (c.mono Hb1.out.size));have Hv2:=zC d
     clear c d
     go_wp2_with fail
     refine(ybip _ _ _ Hv2.out).mono ?_;rintro e y ⟨rfl,rfl⟩
     go_wp2_with fail
     go_ret
     exact⟨yyr Hf.out.symm,Hb2.out⟩
    .have Hf:=zC (show eccP g v = -1 by unfold eccP;rw[if_neg];omega)
     have c4:decide ((g.ports.length:Int)<=v)=true:=by simp;omega
     go_enter zBE,zBM
     go_wp2_with fail
     refine(ygg _ g _ (b.out.below ((Below.refl _ _).alloc (zJ _) _))).mono ?_;rintro e h ⟨rfl,a⟩;obtain⟨o,q⟩:=yclv a
     go_wp2_with fail
     go_ret
     exact⟨yyr Hf.out.symm,ywb a⟩
end
section
open Go.RowKit
theorem yoq(g:Gr)(G:List Int)(v:Nat):(yff g G v).length=G.length:=by simp[yff]
set_option maxHeartbeats 2000000 in
theorem yta(gv cv Gv:Value)(g:Gr)(c:Conf)(G:List Int)(w:World)(hg:GrAt w gv g)(J:ydcg w cv c)(Y:yoy w Gv G)(a:ybj g) :
 Calls zH 89 #[gv,cv,Gv] w fun e w'=>e = .returned (.bool (yyb g.ports.length (yff g G) c))/\Below w.heap.size w w':=by
 have a7:=a.2.1;have hid:=a.2.2.1;have a5:=zC hid
 clear a
 obtain⟨i,p,rfl,hi,hp⟩:=hg;obtain⟨A,c0,rfl,b4,b8⟩:=ycj hi;obtain⟨A2,c2,rfl,b9,c6⟩:=ycj hp;obtain⟨A3,c3,rfl,c7,c9⟩:=ycj J;obtain⟨A4,c4,rfl,d0,d1⟩:=ycj Y;have Hp:=zC hp;have Hc:=zC J;have HG:=zC Y
 clear hi hp J Y
 by_cases Q:c.length=g.ids.length
 .have a4:((c.length:Int)!=(g.ids.length:Int))=false:=by simp[Q]
  have Hn:=zC (Q.trans hid);have d8:c.length<=24:=by omega
  clear Q hid
  go_enter zCL,zDA
  go_wp2
  obtain⟨W1,k⟩:∃W,W=w.alloc (.cells #[.slice A g.ids.length c0,.slice A2 g.ports.length c2] 27):=⟨_,rfl⟩;have a6:W1.cell? ⟨w.heap.size,1,none⟩=some (.slice A2 g.ports.length c2):=by subst k;simp
  have HbW:=zC (show Below w.heap.size w W1 by subst k;exact(Below.refl _ _).alloc (zJ _) _)
  rw[<-k]
  clear k
  go_loopg [21] c.length (fun q t wr=>∃v n:Nat,q+v=c.length/\t = .int .i64 v/\wr=W1.drewN n/\Hid (∀(u:Nat) s,u<v->c[u]?=some s->yjs (yff g G u) s))
  case atStart=>exact⟨0,0,by omega,rfl,rfl,zC (fun u s hu=>absurd hu (by omega))⟩
  case round =>
   obtain⟨v,n,hq,rfl,rfl,L⟩:=hrel
   by_cases B:v<c.length
   .obtain⟨b3,b2,sv,rfl,d4,a2,C⟩:=ypx (Hc.out.below (Stable.sl Stable.int) HbW.out) (zG B);obtain⟨A5,c5,rfl,V,d2⟩:=ycj C;obtain⟨s,E⟩:∃s,c[v]=s:=⟨_,rfl⟩;have Hs?:=zC (show c[v]?=some s by rw[zG B,E])
    rw[E]at C a2 V;have Hbad:=zC (show ¬yjs (yff g G v) s->yyb g.ports.length (yff g G) c=false from fun h=>yyc (fun J=>h (J.2 v s Hs?.out)))
    have Hs:=zC C
    clear C E
    by_cases c1:s.length=G.length
    .have R:((s.length:Int)!=(G.length:Int))=false:=by simp[c1]
     have Hsl:=zC c1
     clear c1
     have O:v<g.ports.length:=by rw[<-Hn.out];exact B
     go_wp2
     obtain⟨U,rfl⟩:∃U,U=gk:=⟨_,rfl⟩
     go_loopg [33] s.length (fun q t wr=>∃x n:Nat,q+x=s.length/\t = .int .i64 x/\wr=W1.drewN n/\Hid (∀(j:Nat) b z,j<x->(yff g G v)[j]?=some b->s[j]?=some z->b.1<=z/\z<=b.2))
     case atStart=>exact⟨0,n,by omega,rfl,rfl,zC (fun j b z hj=>absurd hj (by omega))⟩
     case round =>
      obtain⟨x,n,d9,rfl,rfl,F⟩:=hrel
      by_cases H:x<s.length
      .have P:x<G.length:=by rw[<-Hsl.out];exact H
       obtain⟨b5,o5,rfl,d5,Z,M⟩:=ymv (Hs.out) H;obtain⟨b6,o6,rfl,d6,a0,N⟩:=ymv (HG.out.below Stable.int HbW.out) P;obtain⟨b7,o7,lv,rfl,d7,a1,K⟩:=ypx (Hp.out.below (Stable.sl Stable.link) HbW.out) (zG O);obtain⟨A8,c8,rfl,X,d3⟩:=ycj K;obtain⟨I,o⟩:∃I,g.ports[v]=I:=⟨_,rfl⟩;have m:ycsj g v=I.length:=by simp[ycsj,zK,zG O,o]
       rw[o]at a1 X;obtain⟨y,hy⟩:∃y,s[x]=y:=⟨_,rfl⟩;obtain⟨h,hh⟩:∃h,G[x]=h:=⟨_,rfl⟩;have Hy?:=zC (show s[x]?=some y by rw[zG H,hy])
       have d:(yff g G v)[x]?=some (if h = -1 then(-1,(I.length:Int)-1)else(0,h)):=by
        simp[yff,P,hh,m]
       rw[hy]at Z M;rw[hh]at a0 N;obtain⟨a8,a9⟩:=M;obtain⟨b0,b1⟩:=N
       clear K o m hy hh
       by_cases c2:h = -1
       .have S:(h == -1)=true:=by simp[c2]
        rw[if_pos c2]at d;have Hb?:=zC d
        clear d c2
        by_cases c3:y < -1
        .have Hf:=zC (Hbad.out (fun h=>by have:=h.2 x _ y Hb?.out Hy?.out;simp only at this;omega))
         go_wp2
         go_quiet (fail)
         go_wp2
         go_quiet (fail)
         go_wp2
         go_ret
         exact⟨ybw Hf.out.symm,below_drewN HbW.out _⟩
        .by_cases c4:(I.length:Int)-1<y
         .have Hf:=zC (Hbad.out (fun h=>by have:=h.2 x _ y Hb?.out Hy?.out;simp only at this;omega))
          go_wp2
          go_quiet (fail)
          go_wp2
          go_quiet (fail)
          go_wp2
          go_ret
          exact⟨ybw Hf.out.symm,below_drewN HbW.out _⟩
         .have T:decide ((I.length:Int)-1<y)=false:=by simp;omega
          go_wp2
          go_quiet (fail)
          go_wp2
          go_quiet (fail)
          go_wp2
          go_roundg (gk-1)
          case measure=>omega
          case rel =>
           refine⟨x+1,_,by omega,by go_num,rfl,zC (fun j b z hj l f=>?_)⟩
           by_cases r:j<x
           .exact F.out j b z r l f
           .obtain rfl:j=x:=by omega
            rw[Hb?.out]at l;rw[Hy?.out]at f;cases l
            cases f
            simp only;omega
       .have S:(h == -1)=false:=by simp[c2]
        rw[if_neg c2]at d;have Hb?:=zC d
        clear d c2
        by_cases c3:y<0
        .have Hf:=zC (Hbad.out (fun h=>by have:=h.2 x _ y Hb?.out Hy?.out;simp only at this;omega))
         go_wp2
         go_quiet (fail)
         go_wp2
         go_ret
         exact⟨ybw Hf.out.symm,below_drewN HbW.out _⟩
        .by_cases c4:h<y
         .have Hf:=zC (Hbad.out (fun h=>by have:=h.2 x _ y Hb?.out Hy?.out;simp only at this;omega))
          go_wp2
          go_quiet (fail)
          go_wp2
          go_ret
          exact⟨ybw Hf.out.symm,below_drewN HbW.out _⟩
         .have T:decide (h<y)=false:=by simp;omega
          go_wp2
          go_quiet (fail)
          go_wp2
          go_roundg (gk-1)
          case measure=>omega
          case rel =>
           refine⟨x+1,_,by omega,by go_num,rfl,zC (fun j b z hj l f=>?_)⟩
           by_cases r:j<x
           .exact F.out j b z r l f
           .obtain rfl:j=x:=by omega
            rw[Hb?.out]at l;rw[Hy?.out]at f;cases l
            cases f
            simp only;omega
      .obtain rfl:x=s.length:=by omega
       go_wp2
       go_roundg (U-1)
       case measure=>omega
       case rel =>
        refine⟨v+1,_,by omega,by go_num,rfl,zC (fun u s' hu D=>?_)⟩
        by_cases a3:u<v
        .exact L.out u s' a3 D
        .obtain rfl:u=v:=by omega
         rw[Hs?.out]at D;cases D
         refine⟨by rw[yoq,Hsl.out],fun j b z l f=>F.out j b z (List.getElem?_eq_some_iff.1 f).1 l f⟩
    .have R:((s.length:Int)!=(G.length:Int))=true:=by simp;omega
     have Hf:=zC (Hbad.out (fun h=>c1 (by rw[h.1,yoq])))
     clear c1
     go_wp2
     go_ret
     exact⟨ybw Hf.out.symm,below_drewN HbW.out _⟩
   .obtain rfl:v=c.length:=by omega
    have Ht:=zC (ybsw (n:=g.ports.length) (bs:=yff g G) (c:=c) ⟨Hn.out,fun v s C=>L.out v s (List.getElem?_eq_some_iff.1 C).1 C⟩)
    go_wp2
    go_ret
    exact⟨ybw Ht.out.symm,below_drewN HbW.out _⟩
 .have a4:((c.length:Int)!=(g.ids.length:Int))=true:=by simp;omega
  have Hf:=zC (yyc (n:=g.ports.length) (bs:=yff g G) (c:=c) (fun h=>Q (h.1.trans hid.symm)))
  clear Q hid
  go_enter zCL,zDA
  go_wp2
  go_ret
  exact⟨ybw Hf.out.symm,(Below.refl _ _).alloc (zJ _) _⟩
end
section
open Go.RowKit
theorem ybgr(g:Gr)(v:Int):-1<=eccP g v/\eccP g v<=1000:=by
 unfold eccP;split
 .rename_i h
  have b:=(yfx g).1 (yla h.1);refine⟨yqs _,yug _ _ (by omega) (fun x c=>?_)⟩
  have:=(ydw b (a:=v.toNat) (by omega)).bound b (by omega) x c
  omega
 .omega
end
section
abbrev eNum(k:Int):Ex:=.leaf 1 k
abbrev ydls:Ex:=.leaf 4 0
abbrev eVar(k:Int):Ex:=.leaf 5 k
abbrev eN:Ex:=.leaf 6 0
abbrev eQ(k:Int):Ex:=.leaf 12 k
theorem ymd(l:List Int):∀a:Int,l.foldl min a<=a/\(∀x∈l,l.foldl min a<=x)/\∀b:Int,b<=a->(∀x∈l,b<=x)->b<=l.foldl min a:=by
 induction l with
 |nil=>intro a;exact⟨Int.le_refl _,fun x d=>(zAD d).elim,fun b f _=>f⟩
 | cons y l j =>
   intro a;obtain⟨k,h,i⟩:=j (min a y);refine⟨by simp only[zCS];omega,fun x d=>?_,fun b f d=>?_⟩
   .rcases List.mem_cons.1 d with rfl|d
    .simp only[zCS];omega
    .exact h x d
   .have:=d y zAA;exact i b (by omega) fun x e=>d x (zV _ e)
theorem ymy{l:List Int}{x:Int}(h:x∈l):ydp l<=x:=(ymd l 1073741824).2.1 x h
theorem yki{l:List Int}{b:Int}(a:b<=1073741824)(h:∀x∈l,b<=x):b<=ydp l:=(ymd l 1073741824).2.2 b a h
theorem ybkb{b:Type}(g:Gr)(v:Nat)(f:Int×Int->b)(h:Nat->b)(e:∀q,q<(g.ports.getD v []).length->h q=f ((g.ports.getD v []).getD q (0,0))):(zCR (g.ports.getD v []).length).map h=(g.ports.getD v []).map f:=by
 refine zCM (by simp) fun i d j=>?_
 have a:i<(g.ports.getD v []).length:=by simpa using d
 rw[zAV,List.getElem_range,zAV,e i a];congr 1;rw[zAN,zG a];rfl
theorem ybfq(f:Int×Int->Bool)(ls:List (Int×Int)):yfh (ls.map fun l=>ydk (f l))=yjm f ls:=by
 unfold yfh yjm
 have:((fun x:Int=>x != 0) ∘ fun l=>ydk (f l))=f:=by
  funext l
  show(ydk (f l)!=0)=f l;unfold ydk;cases f l<;>rfl
 rw[List.findIdx?_map,this]
 all_goals (cases List.findIdx? f ls<;>rfl)
def endP(c:Conf)(k:Nat)(l:Int×Int):Int:=(c.getD l.1.toNat []).getD k 0
theorem ybgg(b:Bool):(ydk b != 0)=b:=by cases b<;>rfl
section
variable {nm nd np nt nl:ByteArray}{g:Gr}{c:Conf}{v:Nat}
theorem bT3{x:ByteArray}:ybi g v ⟨x,3,0,0,0,0⟩=(-1,((g.ports.getD v []).length:Int)-1):=by
 show(if (3:Int)=1 then _ else if (3:Int)=2 then _ else if (3:Int)=3 then _ else _)=_
 rw[if_neg (by decide),if_neg (by decide),if_pos rfl]
end
end
section
section
variable {g:Gr}{a v:Nat}
theorem ygm(f:ybj g)(p:yee g=true)(d:a<g.ports.length)(r:v<g.ports.length):∃k:Nat,(ybx g a).getD v 0=k/\Walk g a k v/\(∀j,j<k->¬Walk g a j v)/\k<g.ports.length:=by
 have n:0<g.ports.length:=by omega
 have c:(ybx g a).all (fun x=>decide (0<=x))=true:=ycqn f n d ((zF _ _▸p).2);have q:=yhm f d;have b:v<(ybx g a).length:=by rw[q];exact r
 have e:(ybx g a).getD v 0=(ybx g a)[v]:=by simp[zK,b]
 have m:0<=(ybx g a)[v]:=by simpa using List.all_eq_true.1 c _ (zO b)
 rcases(ydw f d).2 v _ (zG b)with⟨h,_⟩|⟨k,o,i,l⟩
 .omega
 .exact⟨k,by rw[e,o],i,l,yyf f d i l⟩
theorem ydjq{k:Nat}(m:ybj g)(l:yee g=true)(i:a<g.ports.length)(n:v<g.ports.length)(b:Walk g a k v)(c:∀j,j<k->¬Walk g a j v):(ybx g a).getD v 0=k:=by
 obtain⟨j,e,d,f,_⟩:=ygm m l i n;rcases Nat.lt_trichotomy j k with h|h|h
 .exact absurd d (c j h)
 .rw[e,h]
 .exact absurd b (f k h)
theorem yxs(d:ybj g)(c:yee g=true)(b:a<g.ports.length):(ybx g a).getD a 0=0:=ydjq d c b b (k:=0) rfl fun j e=>by omega
theorem ywu(d:ybj g)(c:yee g=true)(b:a<g.ports.length)(f:v<g.ports.length):0<=(ybx g a).getD v 0/\(ybx g a).getD v 0<g.ports.length:=by
 obtain⟨k,e,_,_,h⟩:=ygm d c b f;omega
theorem ycqh(h:ybj g)(f:yee g=true)(d:a<g.ports.length)(i:v<g.ports.length)(b:v≠a):1<=(ybx g a).getD v 0:=by
 obtain⟨k,e,c,_,_⟩:=ygm h f d i;cases k with
 |zero=>exact absurd c b
 |succ k=>omega
theorem ybsi(b:ybj g)(d:yee g=true)(c:a<g.ports.length){u:Nat}(h:adj g u v):(ybx g a).getD v 0<=(ybx g a).getD u 0+1:=by
 obtain⟨m,n⟩:=b.adj_lt h;obtain⟨k,e,i,_,_⟩:=ygm b d c m;obtain⟨j,f,_,l,_⟩:=ygm b d c n;rw[e,f];rcases zCD (k+1) j with q|q
 .exact absurd ⟨u,i,h⟩ (l (k+1) q)
 .omega
theorem ybja(b:ybj g)(f:yee g=true)(d:a<g.ports.length)(r:v<g.ports.length)(h:v≠a):∃u,adj g v u/\(ybx g a).getD u 0=(ybx g a).getD v 0-1:=by
 obtain⟨k,e,l,s,_⟩:=ygm b f d r;cases k with
 |zero=>exact absurd l h
 | succ k =>
   obtain⟨u,m,c⟩:=l;refine⟨u,b.adj_symm c,?_⟩;have n:=ybsi b f d c;obtain⟨p,_⟩:=b.adj_lt c;obtain⟨j,i,_,o,_⟩:=ygm b f d p;rw[e,i]at n;rcases zCD k j with q|q
   .exact absurd m (o k q)
   .rw[e,i];omega
theorem ybfe{l:Int×Int}(c:ybj g)(d:v<g.ports.length)(b:l∈g.ports.getD v []):0<=l.1/\l.1.toNat<g.ports.length/\adj g v l.1.toNat/\1<=l.2/\l.2<=15:=by
 have e:g.ports[v]?=some (g.ports.getD v []):=by simp[zK,d]
 have h:=c.link e b;exact⟨h.1,by omega,⟨_,e,l,b,by omega⟩,h.2.2.2.1,h.2.2.2.2⟩
theorem ycat{u:Nat}(h:adj g v u):∃l∈g.ports.getD v [],l.1.toNat=u:=by
 obtain⟨l,b,e⟩:=ypo.1 h;exact⟨l,b,by rw[e];simp⟩
theorem yty{f h:Int×Int->Bool}{ls:List (Int×Int)}(e:∀l∈ls,f l=h l):yjm f ls=yjm h ls:=by
 have:ls.findIdx? f=ls.findIdx? h:=by
  induction ls with
  |nil=>rfl
  | cons x l c =>
    rw[zCE,zCE,e x zAA,c fun y b=>e y (zV _ b)]
 unfold yjm;rw[this]
theorem yccq{f:Int×Int->Bool}{ls:List (Int×Int)}(h:∀l∈ls,f l=false):yjm f ls = -1:=by
 unfold yjm;rw[List.findIdx?_eq_none_iff.2 (fun x b=>by simp[h x b])]
theorem ycsa(c:ybj g)(d:yee g=true)(b:a<g.ports.length):wayP g (ybx g a) a = -1:=by
 refine yccq fun l h=>?_;obtain⟨_,e,i,_⟩:=ybfe c b h;have j:=ywu c d b e;have f:=yxs c d b;unfold yrx;rw[f,beq_eq_false_iff_ne];omega
end
section
variable {nm nd np nt nl:ByteArray}{g:Gr}
end
end
section
namespace Sh
section
variable {nm nd np nt nl:ByteArray}{g:Gr}
end
end Sh
end
section
namespace Sh
open Ev Go.RowKit
theorem ycpp(l:List Nat):one1 (usV l)=true:=rfl
theorem ycgh{n:Nat}(l:List Nat):owned (n+1) (usV l)=false:=rfl
theorem ybvq{n:Nat}(l:List Nat):scalar (n+1) (usV l)=false:=rfl
theorem ycpb{n:Nat}(o:Own)(l:List Nat):view o (n+1) (usV l)=usV l:=rfl
theorem ydol{n:Nat}(o:Own)(l:List Nat):vok o (n+1) (usV l)=True:=rfl
theorem ydnn{n:Nat}(h:Nm->Nm)(l:List Nat):ren h (n+1) (usV l)=usV l:=rfl
theorem ydpq{n:Nat}(D:Nm->Bool)(l:List Nat):cln D (n+1) (usV l)=true:=rfl
theorem ychs{n:Nat}(a:List Nm)(o:Own)(l:List Nat):ydz a o (n+1) (usV l)=usV l:=rfl
theorem ydib{n:Nat}(a:List Nm)(o:Own)(l:List Nat):pok a o (n+1) (usV l)=True:=rfl
theorem yckp(l:List Nat):SV.cells (usV l)=[usV l]:=rfl
theorem ybmr(l:List Conf):one1 (yjk l)=true:=rfl
theorem ybhs{n:Nat}(l:List Conf):owned (n+1) (yjk l)=false:=rfl
theorem ybcp{n:Nat}(l:List Conf):scalar (n+1) (yjk l)=false:=rfl
theorem ybmi{n:Nat}(o:Own)(l:List Conf):view o (n+1) (yjk l)=yjk l:=rfl
theorem ybuq{n:Nat}(o:Own)(l:List Conf):vok o (n+1) (yjk l)=True:=rfl
theorem ybtj{n:Nat}(h:Nm->Nm)(l:List Conf):ren h (n+1) (yjk l)=yjk l:=rfl
theorem ybwq{n:Nat}(D:Nm->Bool)(l:List Conf):cln D (n+1) (yjk l)=true:=rfl
theorem ybjh{n:Nat}(a:List Nm)(o:Own)(l:List Conf):ydz a o (n+1) (yjk l)=yjk l:=rfl
theorem ybst{n:Nat}(a:List Nm)(o:Own)(l:List Conf):pok a o (n+1) (yjk l)=True:=rfl
theorem ybkq(l:List Conf):SV.cells (yjk l)=[yjk l]:=rfl
theorem ybwd(l:List Cnt):one1 (yqv l)=true:=rfl
theorem ybnx{n:Nat}(l:List Cnt):owned (n+1) (yqv l)=false:=rfl
theorem ybhw{n:Nat}(l:List Cnt):scalar (n+1) (yqv l)=false:=rfl
theorem ybud{n:Nat}(o:Own)(l:List Cnt):view o (n+1) (yqv l)=yqv l:=rfl
theorem ychd{n:Nat}(o:Own)(l:List Cnt):vok o (n+1) (yqv l)=True:=rfl
theorem ycfb{n:Nat}(h:Nm->Nm)(l:List Cnt):ren h (n+1) (yqv l)=yqv l:=rfl
theorem ycky{n:Nat}(D:Nm->Bool)(l:List Cnt):cln D (n+1) (yqv l)=true:=rfl
theorem ybkw{n:Nat}(a:List Nm)(o:Own)(l:List Cnt):ydz a o (n+1) (yqv l)=yqv l:=rfl
theorem yclg{n:Nat}(a:List Nm)(o:Own)(l:List Cnt):pok a o (n+1) (yqv l)=True:=rfl
theorem ybls(l:List Cnt):SV.cells (yqv l)=[yqv l]:=rfl
theorem ycrz(l:List Bool):one1 (blV l)=true:=rfl
theorem ycie{n:Nat}(l:List Bool):owned (n+1) (blV l)=false:=rfl
theorem ybws{n:Nat}(l:List Bool):scalar (n+1) (blV l)=false:=rfl
theorem ycqf{n:Nat}(o:Own)(l:List Bool):view o (n+1) (blV l)=blV l:=rfl
theorem ydnl{n:Nat}(o:Own)(l:List Bool):vok o (n+1) (blV l)=True:=rfl
theorem ydld{n:Nat}(h:Nm->Nm)(l:List Bool):ren h (n+1) (blV l)=blV l:=rfl
theorem ydhx{n:Nat}(D:Nm->Bool)(l:List Bool):cln D (n+1) (blV l)=true:=rfl
theorem ycdw{n:Nat}(a:List Nm)(o:Own)(l:List Bool):ydz a o (n+1) (blV l)=blV l:=rfl
theorem ydmv{n:Nat}(a:List Nm)(o:Own)(l:List Bool):pok a o (n+1) (blV l)=True:=rfl
theorem ycam(l:List Bool):SV.cells (blV l)=[blV l]:=rfl
attribute [go_sem] ycpp ycgh ybvq ycpb ydol ydnn ydpq ychs ydib yckp ybmr ybhs ybcp ybmi ybuq ybtj ybwq ybjh ybst ybkq ybwd ybnx ybhw ybud ychd ycfb ycky ybkw yclg ybls ycrz ycie ybws ycqf ydnl ydld ydhx ycdw ydmv ycam
theorem Ct.found{P:Program}{g:FuncId}{args:List SV}{f:Type}{R:SV->f->Prop}{V:f->SV}{Q:SV->Prop}(h:Ct P g args fun r=>∃x,R r x)(n:∀r x,R r x->Sim r (V x))(l:∀r x,R r x->Q (V x)):Ct P g args Q:=fun G m p i j k=>by
 obtain⟨v,o,r,a,b,c,⟨x,d⟩,e⟩:=h G m p i j k;exact⟨v,o,V x,a,b,c,l r x d,n r x d _ _ _ e⟩
structure RunD(S:Sys)(res:Nat->Nat->Nat)(ws:List Nat)(c:Conf)(n:Nat)(Cs:List Conf)(Ks:List Cnt):Prop where
 cs:(S.runs res ws c).map (·.1)=Cs
 ks:(S.runs res ws c).map (·.2)=Ks
 len:(S.runs res ws c).length=n
 pos:0<n
 le:n<=ws.length+1
end Sh
end
section
namespace Sh
open Go Ev
def ydar:LO:=[mc 0 2 0]
def ydfo:LO:=[mv' 0 5 0,ln' 5 6 1,bc .lss 6 1 7 3]
def ydym:LO:=[o3 (.no) 8 0,o0 (.no) 1]
def ycsp:LO:=[mv' 0 9 0,o3 (.idx 1 (.tmp 9) (ci' 0)) 10 1,ld' 1 10 11 3,mv' 11 3 7]
def ydfd:LO:=[mc 1 4 0]
def ydcm:LO:=[mv' 4 12 0,mv' 0 13 0,ln' 13 14 2,bn' .lss 12 14 15 7]
def ydcz:LO:=[mv' 3 18 0,mv' 0 19 0,mv' 4 20 0,ix' 1 19 20 21 6,ld' 1 21 22 14,o3 (.mm false (.tmp 18) (.tmp 22)) 23 31,mv' 23 3 63]
def ycum:LO:=[mv' 4 16 0,bc .add 16 1 17 1,mv' 17 4 3]
def ydgo:LO:=[mv' 3 24 0,mv' 24 2 1]
def c144:SC:=(sr ydar <| .seq (sr ydfo <| cn 7 (.reg false ydym) .skip) (sr ycsp <| .seq (sr ydfd <| .block 0 (.loop (.seq (sr ydcm <| cn 15 .skip (.exit 0)) (.seq (.block 1 (.reg false ydcz)) (.reg false ycum))))) (sr ydgo <| .ret)))
theorem ydka:Fn 144 c144 [.t 2]:=fn_0 Tryz.func144
def ydvu:LO:=[bx' 27 0 1 0,mb false 2 0]
def yeff:LO:=[la' 2 1 3 0,cl' 121 [3] 4 1,mv' 4 2 3]
def c86:SC:=(sr ydvu <| sr yeff <| .ret)
theorem ydrl:Fn 86 c86 [.t 2]:=fn_0 Tryz.func86
def ydve:LO:=[bx' 27 0 1 0,mc 0 2 0]
def yegq:LO:=[fa' 0 1 1 3 0,ld' 1 3 4 1,fa' 0 1 1 5 0,ld' 1 5 6 4,cl' 144 [6] 7 12,cl' 143 [4,7] 8 31,mv' 8 2 63]
def c88:SC:=(sr ydve <| .seq (.reg true yegq) .ret)
theorem ydyd:Fn 88 c88 [.t 2]:=fn_0 Tryz.func88
def ydjp:LO:=[bx' 27 0 2 0,mb false 4 0]
def ydon:LO:=[la' 2 2 10 0,cl' 86 [10] 11 1,o3 (.un .not (.tmp 11)) 12 3,mv' 12 13 7,gf (.load true 2 (.tmp 2)) 14 13 15,gf (.mv (.tmp 1)) 15 13 15,gf (.faddr 0 1 (.tmp 2)) 16 13 15,gf (.load false 1 (.tmp 16)) 17 13 79,gf (.call (.func 54) [(.tmp 17)]) 18 13 207,gf (.faddr 0 1 (.tmp 2)) 19 13 15,gf (.load false 1 (.tmp 19)) 20 13 527,gf (.len (.tmp 20)) 21 13 1551,gf (.bin .sub (.tmp 21) (ci' 1)) 22 13 3599,gf (.bslice 3 1 3 [.i .i64 0,.i .i64 0,.i .i64 0] [(0,1,(.tmp 18)),(1,1,(.tmp 22)),(2,1,(.const (.int .i64 (-1))))]) 23 13 8143,gf (.call (.func 89) [(.tmp 14),(.tmp 15),(.tmp 23)]) 24 13 16383,gf (.un .not (.tmp 24)) 25 13 32767,pk' 13 25 26 65535]
def ydiu:LO:=[mb false 4 0]
def ydrs:LO:=[la' 2 2 27 0,cl' 88 [27] 28 1,mv' 28 5 3]
def yebf:LO:=[la' 2 2 29 0,mv' 5 30 0,cl' 90 [29,30] 31 3,o3 (.alloc 22 1 [.a (.slice none 0 0)]) 6 0,sto 1 6 31 15]
def yedz:LO:=[mv' 1 32 0,ln' 32 33 1,mc 0 34 0]
def ydlq:LO:=[bn' .lss 34 33 35 0]
def yegp:LO:=[mv' 34 36 0,ix' 1 32 34 37 0,ld' 1 37 38 2,o3 (.alloc 3 1 [.i .i64 0]) 7 0,sto 1 7 36 15,mv' 38 8 31]
def yefy:LO:=[la' 2 2 39 0,ld' 1 7 40 0,o3 (.mkfn 91 [] [(.tmp 6),(.tmp 7)]) 41 0,cl' 70 [39,40,41] 42 7,mv' 42 9 15]
def yeby:LO:=[mv' 8 43 0,fa' 0 1 2 44 0,ld' 1 44 45 2,mv' 5 46 0,ix' 1 45 46 47 14,ld' 1 47 48 30,ld' 1 6 49 0,ld' 1 7 50 0,ix' 1 49 50 51 192,ld' 1 51 52 448,mv' 9 53 0,o3 (.bslice 3 1 3 [.i .i64 0,.i .i64 0,.i .i64 0] [(0,1,(.tmp 48)),(1,1,(.tmp 52)),(2,1,(.tmp 53))]) 54 2046,cl' 92 [43,54] 55 4095,o3 (.un .not (.tmp 55)) 56 8191]
def ycxj:LO:=[mb false 4 0]
def ycur:LO:=[bc .add 34 1 57 0,mv' 57 34 1]
def ydbp:LO:=[mb true 4 0]
def c29:SC:=(sr ydjp <| .seq (.seq (.reg true ydon) (cn 26 (sr ydiu <| .ret) .skip)) (sr ydrs <| sr yebf <| .seq (sr yedz <| .block 0 (.loop (sr ydlq <| .seq (cn 35 .skip (.exit 0)) (.seq (.block 1 (sr yegp <| sr yefy <| .seq (.reg true yeby) (cn 56 (sr ycxj <| .ret) .skip))) (.reg false ycur))))) (sr ydbp <| .ret)))
theorem yegr:Fn 29 c29 [.t 4]:=fn_0 Tryz.func29
def yebz:LO:=[bx' 68 0 3 0,mb false 4 0]
def yegj:LO:=[ld' 1 1 5 0,fa' 0 1 3 6 0,ld' 1 6 7 2,ix' 1 5 7 8 7,ld' 1 8 9 15,ld' 1 1 10 0,ld' 1 2 11 0,ix' 1 10 11 12 96,ld' 1 12 13 224,bc .sub 13 1 14 480,bn' .eql 9 14 15 1023,mv' 15 4 2047]
def c91:SC:=(sr yebz <| .seq (.reg true yegj) .ret)
theorem yecj:Fn 91 c91 [.t 4]:=fn_0 Tryz.func91
def ydhy:LO:=[bx' 27 0 1 0,o3 (.alloc 36 1 [.i .i64 0,.b false,.b false,.i .i64 0,.i .i64 0]) 2 0]
def ydpb:LO:=[la' 2 1 4 0,cl' 86 [4] 5 1,o3 (.un .not (.tmp 5)) 6 3]
def ydmp:LO:=[o3 (.build [.i .i64 0,.b false,.b false,.i .i64 0,.i .i64 0] []) 7 0,sto 5 2 7 1]
def ydmi:LO:=[fa' 0 1 1 8 0,ld' 1 8 9 1,ln' 9 10 3,la' 2 1 11 0,la' 2 1 12 0,cl' 88 [12] 13 16,cl' 87 [11,13] 14 56,bn' .add 10 14 15 127,mv' 15 3 255]
def ydky:LO:=[mv' 3 16 0,o3 (.build [.i .i64 0,.b false,.b false,.i .i64 0,.i .i64 0] [(0,1,(ci' 3)),(2,1,(.const (.bool true))),(3,1,(.tmp 16)),(4,1,(.const (.int .i64 (-1))))]) 17 1,sto 5 2 17 3]
def c28:SC:=(sr ydhy <| .seq (sr ydpb <| cn 6 (sr ydmp <| .ret) .skip) (.seq (.reg true ydmi) (sr ydky <| .ret)))
theorem ydzp:Fn 28 c28 [.c 2 true 5]:=fn_0 Tryz.func28
end Sh
end
section
namespace Sh
open Ev Go.RowKit
theorem yeht{a:Type}(l:List a)(x d:a)(i:Nat):(l++[x]).getD i d=if i<l.length then l.getD i d else if i=l.length then x else d:=by
 by_cases h:i<l.length
 .simp[zK,zBK h,h]
 .by_cases e:i=l.length
  .subst e;simp[zK]
  .rw[if_neg h,if_neg e,zK,zAL (by simp;omega)]
   rfl
theorem yein(k i:Nat)(a:i≠k):(if i<k+1 then(-1:Int)else 0)=if i<k then -1 else 0:=by
 by_cases h:i<k
 .rw[if_pos h,if_pos (by omega)]
 .rw[if_neg h,if_neg (by omega)]
theorem ybwa(g:Gr)(a i:Nat)(b:a<g.ports.length)(c:i<g.ports.length):(start g a).getD i 0=if i=a then 0 else -1:=by
 unfold start;rw[ybct (by simpa using b)]
 split
 .rfl
 .rw[zAN,zBN,if_pos c];rfl
theorem ybtq{g:Gr}(N:ybj g){a:Nat}(ha:a<g.ports.length):Returns zH 142 [grV g,.i .i64 a] (ybc (ybx g a)):=by
 refine Returns.of (ydok _ _ ?_);obtain⟨n,z⟩:∃n,g.ports.length=n:=⟨_,rfl⟩;have Y:=N.2.1;have X:=N.1;rw[z]at Y X ha;obtain⟨PV,a8⟩:∃P,yw g.ports=P:=⟨_,rfl⟩;simp only[c142,ycym,ycve,ydgp,grV,yw,z,go_sem,zA,zB,zD];refine⟨by omega,?_⟩
 refine ybf (σ:=Nat) (fun k=>⟨[(17,.i .i64 k),(16,.i .i64 n),(5,.os (14,0) 0 n true),(2,.pt (2,0) 0 0),(1,.i .i64 a)],
  [(2,.one (some ⟨27,true,2,1,fun _=>[ybc g.ids,yw g.ports]⟩)),(14,.one (some ⟨3,false,1,n,fun i=>[.i .i64 (if i<k then -1 else 0)]⟩))]⟩) (fun k=>k<=n) (fun k=>n-k) 0 (zU _) ?_ ?_
 .refine yx ?_;simp only[yw,z,wk,go_sem,zA,zD];exact fun i _=>by rw[if_neg (by omega)]
 .intro k hk
  by_cases a9:k<n
  .have ht:decide ((k:Int)<(n:Int))=true:=decide_eq_true (by omega)
   simp only[ybzf,ycsr,ydet,ydcb,ht,splice,and_false,go_sem,zA,zB];refine⟨by omega,by omega,ikw (by omega) (by omega),?_⟩
   refine ycg (k+1) ?_;refine yx ?_;simp only[go_sem,wk,go_sem,zA,zD];refine⟨by omega,fun i S=>?_⟩
   by_cases q:i=k
   .subst q;simp only[if_pos (zCP i)];simp only[wk,go_sem]
   .simp only[if_neg q,yein k i q];simp only[wk,go_sem]
  .obtain rfl:k=n:=by omega
   have ht:decide ((k:Int)<(k:Int))=false:=decide_eq_false (by omega)
   simp only[ybzf,ycuo,yczh,ht,splice,and_false,go_sem,zA,zB,zD];refine⟨⟨by omega,by omega⟩,by omega,?_⟩
   refine ybf (σ:=List Int×List Nat×Nat) (fun q=>⟨[(7,.os (128,0) q.2.2 (q.2.1.length-q.2.2) true),(5,.os (14,0) 0 k true),(2,.pt (2,0) 0 0)],
    [(2,.one (some ⟨27,true,2,1,fun _=>[ybc g.ids,yw g.ports]⟩)),(14,.one (some ⟨3,false,1,k,fun i=>[.i .i64 (q.1.getD i 0)]⟩)),(128,.one (some ⟨3,false,1,q.2.1.length,fun i=>[.i .i64 (q.2.1.getD i 0:Nat)]⟩))]⟩)
    (fun q=>q.2.2<=q.2.1.length/\BfsInv g a q.1 (q.2.1.drop q.2.2)/\q.2.1.length-q.2.2+ydh q.1<=30/\q.2.1.length<=31) (fun q=>q.2.1.length-q.2.2+ydh q.1) (start g a,[a],0) ⟨zU _,BfsInv.start (by omega),yro g a (by omega),by simp⟩ ?_ ?_
   .refine yby [(128,fun i=>(28,i))] [] [] ?_;simp only[go_sem,wk,go_sem,zA,zD];refine⟨fun i S=>?_,fun i S=>?_⟩
    .rw[ybwa g a i (by omega) (by omega),if_pos S]
     by_cases q:i=a
     .simp only[if_pos q];simp only[wk,go_sem]
     .simp only[if_neg q];simp only[wk,go_sem]
    .obtain rfl:i=0:=by omega
     simp only[zBB,wk,go_sem]
   .rintro⟨R,W,o⟩ ⟨ho,c,s,w⟩;have ho:o<=W.length:=ho;have c:BfsInv g a R (W.drop o):=c;have s:W.length-o+ydh R<=30:=s;have w:W.length<=31:=w;obtain⟨m,U⟩:∃m,W.length=m:=⟨_,rfl⟩;rw[U]at ho s w
    by_cases T:o<m
    .have hQ : W.drop o=W[o]::W.drop (o+1):=(zBL (by omega))
     obtain⟨v,hv⟩:∃v,W.getD o 0=v:=⟨_,rfl⟩;have a4:W[o]=v:=by rw[<-hv,getD_at (show o<W.length by omega)]
     rw[a4]at hQ;rw[hQ]at c;obtain⟨d,hd⟩:=c.qin v (by simp)
     have a5:v<g.ports.length:=by rw[<-c.len];exact(List.getElem?_eq_some_iff.1 hd).1
     obtain⟨f,H⟩:∃f,g.ports.getD v []=f:=⟨_,rfl⟩;have r:g.ports[v]?=some f:=by rw[<-H];simp[zK,a5]
     have a0:=c.pop hd f;have a2:f.length<24:=by rw[<-H];exact N.deg_lt
     have J:decide (((m-o:Nat):Int)>0)=true:=decide_eq_true (by omega)
     simp only[ycdr,yccx,ycfg,ycif,J,U,hv,yw,ybb,H,z,go_sem,zBO,zA,zB];refine⟨⟨by omega,by omega⟩,T,⟨by omega,by omega,by omega⟩,⟨by omega,by omega⟩,?_⟩
     refine ybf (σ:=Nat×List Int×List Nat×Nat) (fun q=>⟨[(43,.i .i64 q.1),(42,.i .i64 f.length),(41,ybb f),(8,.i .i64 v),(7,.os (128,0) q.2.2.2 (q.2.2.1.length-q.2.2.2) true),(5,.os (14,0) 0 k true),(2,.pt (2,0) 0 0)],
      [(2,.one (some ⟨27,true,2,1,fun _=>[ybc g.ids,yw g.ports]⟩)),(14,.one (some ⟨3,false,1,k,fun i=>[.i .i64 (q.2.1.getD i 0)]⟩)),(128,.one (some ⟨3,false,1,q.2.2.1.length,fun i=>[.i .i64 (q.2.2.1.getD i 0:Nat)]⟩))]⟩)
      (fun q=>q.1<=f.length/\q.2.2.2<=q.2.2.1.length/\BfsIn g a v d f q.1 q.2.1 (q.2.2.1.drop q.2.2.2)/\q.2.2.1.length-q.2.2.2+1+ydh q.2.1=m-o+ydh R/\q.2.2.1.length<=31) (fun q=>f.length-q.1) (0,R,W,o+1) ⟨zU _,by show o+1<=W.length;omega,a0,by show W.length-(o+1)+1+ydh R=_;omega,by show W.length<=31;omega⟩ ?_ ?_
     .refine yx ?_;simp only[yw,ybb,z,U,Nat.sub_sub,wk,go_sem,zA,zD]
     .rintro⟨j,R',W',h⟩ ⟨hj,I,b,t,M⟩;have hj:j<=f.length:=hj;have I:h<=W'.length:=I;have b:BfsIn g a v d f j R' (W'.drop h):=b;have t:W'.length-h+1+ydh R'=m-o+ydh R:=t;have M:W'.length<=31:=M;obtain⟨m',p⟩:∃m,W'.length=m:=⟨_,rfl⟩;rw[p]at I t M
      by_cases F:j<f.length
      .have A:decide ((j:Int)<(f.length:Int))=true:=decide_eq_true (by omega)
       obtain⟨l,hl⟩:∃l,f.getD j (0,0)=l:=⟨_,rfl⟩;have G:f[j]=l:=by rw[<-hl,getD_at F]
       have a1:l∈f:=by rw[<-G];exact zO _
       obtain⟨k1,k2,k3,k4,k5⟩:=N.link r a1;obtain⟨u,V⟩:=zL k1;have L:u<R'.length:=by rw[b.len];omega
       have Z:R'.getD v 0=(d:Int):=by have:=b.rv;simp[zK,this]
       have a6:d<g.ports.length:=by
        rcases b.val v _ b.rv with e|⟨k',e,X,h2⟩
        .omega
        .obtain rfl:d=k':=by omega
         exact yyf N (by omega) X h2
       have D:R'[u]?=some (R'.getD u 0):=by rw[getD_at L];exact zG L
       by_cases C:R'.getD u 0<0
       .have K:decide (R'.getD u 0<0)=true:=decide_eq_true C;simp only[ybeb,ybdj,ybfg,ybez,ybcv,ybdv,ybb,hl,V,A,K,p,Z,splice,and_false,go_sem,zA,zB,zI,zD];refine⟨⟨by omega,by omega⟩,⟨by omega,by omega⟩,by omega,⟨by omega,by omega⟩,by omega,ikw (by omega) (by omega),⟨by omega,by omega⟩,by omega,by decide,⟨by omega,by omega,by omega⟩,ikw (by omega) (by omega),?_⟩
        have O:R'[u]?=some (-1):=by
         rcases b.val u _ D with e|⟨k',e,_⟩
         .rw[D,e]
         .omega
        have Q:=b.discover r F (u:=u) (by rw[G];exact V) O
        have a7:=yxj (R:=R') (u:=u) (x:=(d:Int)+1) O (by omega)
        have B:(W'.drop h++[u]).length=m'-h+1:=by rw[zAJ,zCQ,p];rfl
        refine yj (j+1,R'.set u ((d:Int)+1),W'.drop h++[u],0) ⟨by show j+1<=_;omega,zU _,Q,by show(W'.drop h++[u]).length-0+1+ydh (R'.set u ((d:Int)+1))=_;omega,by show(W'.drop h++[u]).length<=31;omega⟩ (by show f.length-(j+1)<f.length-j;omega) ?_
        refine yby [(128,fun i=>(66,i))] [] [] ?_;simp only[yw,ybb,z,B,wk,go_sem,zA,zD];refine⟨⟨by omega,Sim.refl _⟩,fun i S=>?_,fun i S=>?_⟩
        .rw[ybct L]
         by_cases q:i=u
         .simp only[if_pos q];simp only[wk,go_sem]
         .simp only[if_neg q];simp only[wk,go_sem]
        .rw[yeht,zCQ,p]
         by_cases q:i<m'-h
         .have e:(W'.drop h).getD i 0=W'.getD (h+i) 0:=by simp[zK,zCF]
          simp only[if_pos q,e];simp only[wk,go_sem]
         .obtain rfl:i=m'-h:=by omega
          simp only[if_neg q,zCA,Nat.zero_mul];simp only[wk,go_sem]
       .have K:decide (R'.getD u 0<0)=false:=decide_eq_false C;simp only[ybeb,ybdj,ybfg,ybez,ybcv,ybdv,ybb,hl,V,A,K,p,splice,go_sem,zA,zB,zI,zD];refine⟨⟨by omega,by omega⟩,⟨by omega,by omega⟩,by omega,ikw (by omega) (by omega),?_⟩
        obtain⟨y,hy⟩:=zL (show 0<=R'.getD u 0 by omega)
        have a3:=b.skip F (j:=y) (by rw[G,V,zM,D,hy])
        refine yj (j+1,R',W',h) ⟨by show j+1<=_;omega,by show h<=W'.length;omega,a3,by show W'.length-h+1+ydh R'=_;omega,by show W'.length<=31;omega⟩ (by show f.length-(j+1)<f.length-j;omega) ?_
        refine yx ?_;simp only[yw,ybb,z,p,wk,go_sem,zA,zD];omega
      .obtain rfl:j=f.length:=by omega
       have A:decide ((f.length:Int)<(f.length:Int))=false:=decide_eq_false (by omega)
       simp only[ybeb,ybdj,ybfg,ybez,ybcv,ybdv,A,go_sem,zA];refine yj (R',W',h) ⟨by show h<=W'.length;omega,b.finish r,by show W'.length-h+ydh R'<=30;omega,by show W'.length<=31;omega⟩ (by show W'.length-h+ydh R'<m-o+ydh R;omega) ?_
       refine yx ?_;simp only[yw,ybb,z,p,wk,go_sem,zA,zD]
    .obtain rfl:o=m:=by omega
     have J:decide (((o-o:Nat):Int)>0)=false:=decide_eq_false (by omega)
     rw[zBR (by omega)]at c
     have E:=c.isDist.unique (ydw N (by omega))
     subst E;have B:=c.len;simp only[ycdr,ybyp,J,U,yw,ybb,z,go_sem,zA,zB];have e:(ybx g a).length=k:=by omega
     unfold ybc;rw[e];exact Sim.refl _
theorem ycdt{g:Gr}(c:ybj g){a:Nat}(e:a<g.ports.length):Returns zH 90 [grV g,.i .i64 a] (ybc (ybx g a)):=by
 refine Returns.of (ydqu _ _ ?_);have b:=ybcn (ycpy c);rw[(yfx g).2 c]at b;have d:=ybtq c e;have t1:decide ((a:Int)<0)=false:=decide_eq_false (by omega)
 have t2:decide ((a:Int)>=(g.ports.length:Int))=false:=decide_eq_false (by omega)
 simp only[grV,yw]at b d;simp only[c90,ydwz,ydxt,ydyf,ydtl,grV,yw,clash,go_sem,zA,zB,zD];refine b.use ?_;simp only[ybk,t1,t2,clash,go_sem,zA,zB];refine d.use ?_;simp only[go_sem];exact Sim.refl _
theorem ydln(l:List Int)(b:0<l.length)(c:l.length<=100000):Returns zH 144 [ybc l] (.i .i64 (minI l)):=by
 refine Returns.of (ydka _ _ ?_);have t0:decide ((l.length:Int)<1)=false:=decide_eq_false (by omega)
 simp only[c144,ydar,ydfo,ycsp,ydfd,ybc,t0,go_sem,zBO,zA,zB];refine⟨⟨by omega,by omega⟩,?_⟩
 refine ybf (σ:=Nat) (fun k=>⟨[(4,.i .i64 k),(3,.i .i64 (ybjd l k)),(0,ybc l)],[]⟩) (fun k=>1<=k/\k<=l.length) (fun k=>l.length-k) 1 ⟨by omega,by omega⟩ ?_ ?_
 .refine yx ?_;simp only[ybc,ybgd,wk,go_sem,zA];cases l<;>simp at b ⊢
 .intro k ⟨hk1,hk⟩;simp only[ydcm,ycum,ydcz,ydgo,ybc,yci,go_sem,zA,zB];refine⟨fun h=>⟨by omega,ik (by omega) (by omega),?_⟩,fun h=>?_⟩
  .refine yj (k+1) ⟨by omega,by omega⟩ (by omega) ?_
   refine yx ?_;have a:k<l.length:=by omega
   simp only[ybaj hk1 a,getD_at a,wk,go_sem,zA];simp
  .obtain rfl:k=l.length:=by omega
   rfl
theorem ybii{g:Gr}(a:ybj g):Returns zH 88 [grV g] (.i .i64 (ybt g.ids)):=by
 refine Returns.of (ydyd _ _ ?_);have d:=a.1;have e:=a.2.1;have f:=a.2.2.1;have c:=ydln g.ids (by omega) (by omega)
 have b:=ybka g.ids (minI g.ids) (by omega)
 rw[ybtk (by omega)]at b
 simp only[c88,ydve,yegq,grV,clash,go_sem,zA,zB,zI,zD];refine c.use ?_;simp only[ybk,clash,go_sem,zA,zB];refine b.use ?_;simp only[go_sem];exact Sim.refl _
theorem yxt{g:Gr}(a:ybj g):ybt g.ids<g.ports.length:=by
 have b:=a.1;have c:=a.2.2.1;have:ybt g.ids<g.ids.length:=(yih g.ids g.ids.length (by omega) (zJ _)).1
 omega
theorem ycha{g:Gr}(f:GrI g):Returns zH 121 [grV g] (.b (yee g)):=by
 refine ybiy ⟨_,_,zCC,rfl⟩ (fun _=>.b) (fun _=>.simple rfl) fun G m n e h o M w l a i j=>?_;obtain⟨u,rfl,c⟩:=rvl1 h;obtain⟨k,rfl,d⟩:=yha j;exact ygg k g w (ycox e c d a i f)
theorem ycqk{g:Gr}(j:GrI g)(v:Int):Returns zH 87 [grV g,.i .i64 v] (.i .i64 (eccP g v)):=by
 refine ybiy ⟨_,_,zBE,rfl⟩ (fun _=>.i) (fun _=>.simple rfl) fun G m r h k t M w p a l n=>?_;obtain⟨u,s,rfl,b,c⟩:=rvl2 k;obtain⟨o,q,rfl,d,f⟩:=yxm n;cases c.int_inv
 have e:=f.eq_simple rfl;subst e;exact yus o g v w (ycox h b d a l j)
theorem ybrg{g:Gr}(c:GrI g):Returns zH 86 [grV g] (.b (yee g)):=by
 refine Returns.of (ydrl _ _ ?_);have a:=ycha c;simp only[grV]at a;simp only[c86,ydvu,yeff,grV,go_sem,zA,zB,zD];refine a.use ?_;simp only[ybk,yut,go_sem,zA,zB]
end Sh
end
section
def yxl(g:Gr)(v:Nat):List Int:=[g.ids.getD (ybt g.ids) 0,(ybx g (ybt g.ids)).getD v 0,wayP g (ybx g (ybt g.ids)) v]
def yjz(g:Gr)(c:Conf):Bool:=yee g&&yyb g.ports.length (yff g [maxI g.ids,(g.ids.length:Int)-1,-1]) c
def ycb(g:Gr)(c:Conf):Bool:=yjz g c&&(zCR c.length).all fun v=>decide (c.getD v []=yxl g v)
namespace Sh
open Ev Go.RowKit
def clmV(kind:Int)(a silent:Bool)(rounds moves:Int):List SV:=[.i .i64 kind,.b a,.b silent,.i .i64 rounds,.i .i64 moves]
def yxg(g:Gr):SV:=if yee g=true then .ag (clmV 3 false true ((g.ids.length:Int)+eccP g (ybt g.ids)) (-1))else .ag (clmV 0 false false 0 0)
theorem ycrr{g:Gr}(n:ybj g){c:Conf}(C:ycmo c){G:List Int}(B:∀x∈G,I64 x):Returns zH 89 [grV g,ydb c,ybc G] (.b (yyb g.ports.length (yff g G) c)):=by
 refine ybiy ⟨_,_,zCL,rfl⟩ (fun _=>.b) (fun _=>.simple rfl) fun H m J h D o M w l a i E=>?_
 obtain⟨u,d,rfl,p,q⟩:∃u d,J=u::d/\RV H om0 (grV g) u/\RVL H om0 [ydb c,ybc G] d:=by
  cases D with|cons x y=>exact⟨_,_,rfl,x,y⟩
 obtain⟨F,I,rfl,r,s⟩:=rvl2 q
 obtain⟨f,e,rfl,t,v⟩:∃f e,l=f::e/\VR o u f/\VRL o [F,I] e:=by
  cases E with|cons x y=>exact⟨_,_,rfl,x,y⟩
 obtain⟨j,k,rfl,z,A⟩:=yxm v;exact yta f j k g c G w (ycox h p t a i (ycpy n)) (ydnw h r z a i C) (ints_at h s A a i B) n
theorem ybtl{g:Gr}{D:List Int}(d:D.length=g.ports.length)(a:∀x∈D,-1<=x/\x<=24){v:Nat}(h:v<g.ports.length)(f:g.ports.length<=24){l:Int×Int}(e:0<=l.1/\l.1<g.ports.length) :
 Returns zH 91 [.ag [.i .i64 l.1,.i .i64 l.2],.rf [ybc D],.rf [.i .i64 v]] (.b (yrx D v l)):=by
 refine Returns.of (yecj _ _ ?_);have c:-1<=D.getD v 0/\D.getD v 0<=24:=by rw[getD_at (show v<D.length by omega)];exact a _ (zO _)
 simp only[c91,yebz,yegj,ybc,clash,go_sem,zA,zB,zI,zD];refine⟨⟨by omega,by omega⟩,⟨by omega,by omega⟩,ikw (by omega) (by omega),?_⟩
 exact Sim.refl _
theorem ybtm{g:Gr}(T:GrI g){c:Conf}(V:ycmo c)(W:c.length<=1000):Returns zH 29 [grV g,ydb c] (.b (ycb g c)):=by
 refine Returns.of (yegr _ _ ?_);have w:=ybrg T;cases f:yee g with
 | false =>
   have e:ycb g c=false:=by unfold ycb yjz;rw[f];rfl
   rw[f]at w;rw[e];simp only[grV]at w;simp only[c29,ydjp,ydon,grV,clash,go_sem,zA,zB,zD];refine w.use ?_;simp only[ybk,ydiu,clash,go_sem,zA,zB];exact Sim.refl _
 | true =>
   have d:=(yfx g).1 (yla f);have h1:=d.1;have I:=d.2.1;have hid:=d.2.2.1;have O:=ycja g.ids (by omega) (by omega)
   have U:0<=maxI g.ids/\maxI g.ids<=255:=by
    rw[yvn (by omega) fun x H=>(d.2.2.2.1 x H).1]
    exact yec d
   have S:=ycrr d V (G:=[maxI g.ids,(g.ids.length:Int)-1,-1]) (fun x H=>by
    simp at H;rcases H with rfl|rfl|rfl<;>exact ykj (by omega))
   rw[f]at w;simp only[grV,ybc]at w O;simp only[c29,ydjp,ydon,grV,ybc,clash,go_sem,zA,zB,zD];refine w.use ?_;simp only[ybk,clash,go_sem,zA,zB,zI,zD];refine O.use ?_;simp only[ybk,clash,go_sem,zA,zB,zI];have a:∀{q:Nat},q<3->q=0\/q=1\/q=2:=fun {q} h=>by omega
   refine⟨ikw (by omega) (by omega),by decide,.inl ⟨?_,S.useS ?_ ?_⟩⟩
   .intro q t;rcases a t with rfl|rfl|rfl<;>simp only[go_sem]
   .refine⟨Sim.refl (grV g),Sim.refl _,?_,trivial⟩;refine yeb fun q t=>?_;rcases a t with rfl|rfl|rfl<;>(simp only[zBB,zBX,go_sem];exact⟨Sim.refl _,trivial⟩)
   cases o:yyb g.ports.length (yff g [maxI g.ids,(g.ids.length:Int)-1,-1]) c with
   | false =>
     have e:ycb g c=false:=by unfold ycb yjz;rw[o,Bool.and_false];rfl
     rw[e];simp only[ydiu,go_sem];exact⟨by decide,Sim.refl _⟩
   | true =>
     have K:=ybii d;have n:=yxt d;have C:=ycdt d n;have A:=yhm d n;have y:=(ydw d n).bound d n;obtain⟨D,z⟩:∃D,ybx g (ybt g.ids)=D:=⟨_,rfl⟩;rw[z]at C A y;obtain⟨u,R⟩:∃u,ybt g.ids=u:=⟨_,rfl⟩;rw[R]at K n C;simp only[grV,ybc]at K C;obtain⟨m,E⟩:∃m,c.length=m:=⟨_,rfl⟩;simp only[ybk,ydrs,yebf,yedz,clash,go_sem,zA,zB,zD];refine⟨by decide,K.use ?_⟩
     simp only[go_sem];refine C.use ?_;simp only[ydb,E,go_sem,zA]
     refine ybf (σ:=Nat) (fun k=>⟨[(34,.i .i64 k),(33,.i .i64 m),(32,ydb c),(5,.i .i64 u),(6,.pt (6,0) 0 0),(2,.pt (2,0) 0 0)],
      [(2,.one (some ⟨27,true,2,1,fun _=>[ybc g.ids,yw g.ports]⟩)),(6,.one (some ⟨22,true,1,1,fun _=>[ybc D]⟩))]⟩)
      (fun k=>k<=m/\∀j,j<k->c.getD j []=yxl g j) (fun k=>m-k) 0 ⟨zU _,fun j Q=>absurd Q (zAI j)⟩ ?_ ?_
     .refine yx ?_;simp only[ydb,ybc,E,wk,go_sem,zA,zD]
     .rintro k ⟨hk,r⟩;have P:m=g.ports.length:=by rw[<-E];exact((ygi _ _ _).1 o).1
      by_cases Y:k<m
      .have N:decide ((k:Int)<(m:Int))=true:=decide_eq_true (by omega)
       obtain⟨s,F⟩:∃s,c.getD k []=s:=⟨_,rfl⟩
       have B:=ybcx g k (by omega) 91 [.rf [ybc D],.rf [.i .i64 k]] (yrx D k) (by rfl) (by have:=d.deg_lt (v:=k);omega) (fun l X=>by
        have L:g.ports[k]?=some (g.ports.getD k []):=by simp[zK,show k<g.ports.length by omega]
        obtain⟨k1,k2,_⟩:=d.link L X;exact ybtl A y (by omega) I ⟨k1,k2⟩)
       have J:=ycfe s (yxl g k) (by
        have:=((ygi _ _ _).1 o).2 k s (by rw[<-F,getD_at (show k<c.length by omega)];exact zG _)
        have:=this.1;simp[yff]at this;omega)
       simp only[grV,ybc]at B;simp only[ydlq,yegp,yefy,yeby,ydb,ybc,E,F,N,clash,go_sem,zA,zB,zI,zD];refine⟨⟨by omega,by omega⟩,.inl (B.use ?_)⟩
       simp only[ybk,clash,go_sem,zA,zB,zI,zD]
       have M:yxl g k=[g.ids.getD u 0,D.getD k 0,yjm (yrx D k) (g.ports.getD k [])]:=by
        unfold yxl;rw[z,R];rfl
       refine⟨⟨by omega,by omega⟩,⟨by omega,by omega⟩,.inl ⟨fun q t=>by rcases a t with rfl|rfl|rfl<;>simp only[go_sem],J.useS ?_ ?_⟩⟩
       .refine⟨Sim.refl (ybc s),?_,trivial⟩;rw[M];refine yeb fun q t=>?_;rcases a t with rfl|rfl|rfl<;>(simp only[zBB,zBX,go_sem];exact⟨Sim.refl _,trivial⟩)
       by_cases p:s=yxl g k
       .simp only[ycur,p,clash,go_sem,zA,zB];refine⟨by decide,ikw (by omega) (by omega),yj (k+1) ⟨by omega,fun j Q=>?_⟩ (by omega) ?_⟩
        .by_cases q:j=k
         .rw[q,F,p]
         .exact r j (by omega)
        .refine yx ?_;simp only[wk,go_sem,zA,zD];omega
       .have e:ycb g c=false:=by
         unfold ycb;rw[zBS];right
         rw[zCJ];exact⟨k,List.mem_range.2 (by omega),by rw[F];simp[p]⟩
        rw[e];simp only[ycxj,p,go_sem];exact⟨by decide,Sim.refl _⟩
      .obtain rfl:k=m:=by omega
       have N:decide ((k:Int)<(k:Int))=false:=decide_eq_false (by omega)
       have e:ycb g c=true:=by
        unfold ycb yjz;rw[f,o,zAG,zAG,zCO];intro v Z;exact decide_eq_true (r v (by have:=List.mem_range.1 Z;omega))
       rw[e];simp only[ydlq,ydbp,N,go_sem,zA];exact Sim.refl _
theorem ybwx{g:Gr}(f:GrI g):Returns zH 28 [grV g] (yxg g):=by
 refine Returns.of (ydzp _ _ ?_);have d:=ybrg f;unfold yxg;cases b:yee g with
 | false =>
   rw[b]at d;simp only[grV]at d;simp only[c28,ydhy,ydpb,ydmp,ydmi,ydky,grV,clmV,clash,go_sem,zA,zB,zD];refine d.use ?_;simp only[ybk,splice,clash,go_sem,zA,zB];exact Sim.refl _
 | true =>
   have c:=(yfx g).1 (yla b);have i:=c.2.1;have hid:=c.2.2.1;have h:=ybii c;have e:=ycqk f (ybt g.ids)
   have j:-1<=eccP g (ybt g.ids)/\eccP g (ybt g.ids)<=1000:=by
    unfold eccP;split
    .exact⟨yqs _,yug _ _ (by omega) fun x k=>by
      have:=(ydw c (a:=((ybt g.ids:Nat):Int).toNat) (by rw[zM];exact yxt c)).bound c (by rw[zM];exact yxt c) x k
      omega⟩
    .omega
   rw[b]at d;simp only[grV,ybc]at d h e;simp only[c28,ydhy,ydpb,ydmp,ydmi,ydky,grV,ybc,clmV,clash,go_sem,zA,zB,zD];refine d.use ?_;simp only[ybk,splice,clash,go_sem,zA,zB,zI];refine h.use ?_;simp only[go_sem];refine e.use ?_;simp only[go_sem,zA,zB];exact⟨ikw (by omega) (by omega),Sim.refl _⟩
end Sh
end
section
namespace Sh
open Ev Go.RowKit
end Sh
end
section
namespace Sh
open Ev Go.RowKit
end Sh
end
section
namespace Ev
open Go Go.RowKit
def hkL:Hooks:=⟨none,none,some 175,symB,[],none⟩
theorem yegv:HooksOk zH hkL:=⟨fun g h=>(by cases h),fun g h=>(by cases h),fun g h=>(by cases h;exact ybyy),fun c a=>(by cases a),fun g h=>(by cases h)⟩
set_option maxRecDepth 1000000 in
theorem yboi:outV (ev zH hkL 3000 (.call 30 [] mem0))=some (.bool true):=by kernel_rfl
theorem ydnr(w:World)(a:GlW w):Calls zH 30 #[] w fun e b=>e = .returned (.bool true)/\Below w.heap.size w b :=
 ybek mix yur yegv yboi rfl rfl ⟨_,_,zDC,rfl⟩ w a
end Ev
end
section
namespace Sh
open Ev Go.RowKit
theorem ybmb:Returns zH 30 [] (.b true):=by
 refine ybiy ⟨_,_,zDC,rfl⟩ (fun _=>.b) (fun _=>.simple rfl) fun G m i g c j M w f a h d=>?_;cases c
 cases d
 exact ydnr w fun x e=>(a.gl x e).1
end Sh
end
section
namespace Ev
theorem ytm:∀l:List UInt8,ymb l l=true
 |[]=>rfl
 | x::l=>by
   show(zQ x.toNat x.toNat&&ymb l l)=true;rw[zN,ytm l];rfl
theorem ybaw{ρ:Nat->Nat}{a:Addr}(h:a.spot.isNone=true):yyi (renA ρ a) (renA ρ a)=true:=by
 rw[ymk];unfold yyi;simp only[zN,h,Bool.and_self]
theorem ybzc{ρ:Nat->Nat}{v:Value}(b:yuy v=true)(h:eq1 v v=true):eq1 (ren1 ρ v) (ren1 ρ v)=true:=by
 unfold yuy at b;split at b
 .exact ybaw b
 .rename_i a n c
  show(yyi (renA ρ a) (renA ρ a)&&zQ n n&&zQ c c)=true;rw[ybaw b,zN,zN];rfl
 .rename_i d e
  have:ren1 ρ v=v:=by
   unfold ren1;split
   .rename_i a;exact absurd rfl (d a)
   .rename_i a n c;exact absurd rfl (e a n c)
   .rfl
  rw[this];exact h
theorem yvg{ρ:Nat->Nat}:∀{l:List Value},l.all yuy=true->eqL1 l l=true->eqL1 (l.map (ren1 ρ)) (l.map (ren1 ρ))=true
 |[],_,_=>rfl
 | x::l,a,h=>by
   simp only[zCX,zF]at a;have h:(eq1 x x&&eqL1 l l)=true:=h;rw[zF]at h;show(eq1 (ren1 ρ x) (ren1 ρ x)&&eqL1 (l.map (ren1 ρ)) (l.map (ren1 ρ)))=true;rw[ybzc a.1 h.1,yvg a.2 h.2];rfl
theorem ycih{v:Value}(b:∀a,v = .agg a->False)(d:∀g a c,v = .func (.func g) a c->False):eq2 v v=eq1 v v:=by
 cases v with
 |agg a=>exact(b a rfl).elim
 | func f a c=>cases f with
   |func g=>exact(d g a c rfl).elim
   |_=>rfl
 |_=>rfl
theorem ybxg{ρ:Nat->Nat}{v:Value}(b:∀a,v = .agg a->False)(d:∀g a c,v = .func (.func g) a c->False)(e:yuy v=true):ren2 ρ v=ren1 ρ v:=by
 cases v with
 |agg a=>exact(b a rfl).elim
 | func f a c=>cases f with
   |func g=>exact(d g a c rfl).elim
   |_=>cases e
 |_=>rfl
theorem ybbo{ρ:Nat->Nat}{v:Value}(b:yuy v=true):(∀a,ren1 ρ v = .agg a->False)/\∀g a c,ren1 ρ v = .func (.func g) a c->False:=by
 cases v with
 |agg a=>cases b
 |func f a c=>cases b
 |pointer p=>cases p<;>exact⟨fun _ h=>(by cases h),fun _ _ _ h=>(by cases h)⟩
 |slice p n c=>cases p<;>exact⟨fun _ h=>(by cases h),fun _ _ _ h=>(by cases h)⟩
 |_=>exact⟨fun _ h=>(by cases h),fun _ _ _ h=>(by cases h)⟩
theorem ycbe{ρ:Nat->Nat}{v:Value}(b:yoj v=true)(h:eq2 v v=true):eq2 (ren2 ρ v) (ren2 ρ v)=true:=by
 unfold yoj at b;split at b
 .rename_i a
  have h:eqL1 a.toList a.toList=true:=h;show eqL1 (a.toList.map (ren1 ρ)).toArray.toList (a.toList.map (ren1 ρ)).toArray.toList=true;exact yvg b h
 .rename_i g a c
  rw[zF]at b;have h:(zQ g g&&eqL1 a.toList a.toList&&eqL1 c.toList c.toList)=true:=h;simp only[zF]at h;show(zQ g g&&eqL1 (a.toList.map (ren1 ρ)).toArray.toList (a.toList.map (ren1 ρ)).toArray.toList&&eqL1 (c.toList.map (ren1 ρ)).toArray.toList (c.toList.map (ren1 ρ)).toArray.toList)=true;rw[zN,yvg b.1 h.1.2,yvg b.2 h.2];rfl
 .rename_i d e
  rw[ycih d e]at h;rw[ybxg d e b,ycih (ybbo b).1 (ybbo b).2];exact ybzc b h
def reflB(b:BlkL):Bool:=b.l.all (fun v=>eq2 v v&&yoj v)&&zAO b.l.length 1000000
theorem yxy{ρ:Nat->Nat}{b:BlkL}(h:reflB b=true):∀v∈(b.ren ρ).l,eq2 v v=true:=by
 unfold reflB at h;rw[zF]at h;intro v a;obtain⟨x,c,rfl⟩:=List.mem_map.1 a;have:=List.all_eq_true.1 h.1 x c;rw[zF]at this;exact ycbe this.2 this.1
theorem ypw{l:List Value}(h:∀v∈l,eq2 v v=true):∀(k:List Value) (n:Nat),l.drop n=k->ykx (tOf l) n k=true
 |[],_,_=>rfl
 | v :: k,n,e=>by
   have a:n<l.length:=by
    rcases zCD n l.length with q|q
    .exact q
    .rw[zBR q]at e;cases e
   rw[zBL a]at e
   injection e with e1 e2
   unfold ykx;rw[ydn,zG a,e1];simp only;rw[h v (by rw[<-e1];exact zO _),ypw h k (n+1) e2]
   rfl
theorem yte{m:Mem}{b:BlkL}(a:m.b.get b.i=some b.blk)(h:∀v∈b.l,eq2 v v=true)(c:zAO b.l.length 1000000=true):yxa m b=true:=by
 unfold yxa;rw[a];show(zQ b.l.length b.l.length&&zQ b.e b.e&&zQ b.z b.z&&zAO b.l.length 1000000&&ykx (tOf b.l) 0 b.l)=true;rw[zN,zN,zN,c,ypw h b.l 0 (zCT ..)];rfl
theorem yxe:∀{l:List BlkL}{t:T ABlk}{i:Nat},(∀b∈l,b.i≠i)->(yiw t l).get i=t.get i
 |[],_,_,_=>rfl
 | b::l,t,i,h=>by
   unfold yiw;rw[T.strict_eq,yxe fun c a=>h c (zV _ a),T.set_at,if_neg (fun e=>h b zAA e.symm)]
theorem yvw:∀{l:List BlkL}{t:T ABlk},yio (l.map (·.i))=true->∀b∈l,(yiw t l).get b.i=some b.blk
 |[],_,_,b,a=>by cases a
 | c :: l,t,h,b,a=>by
   have h:(!(l.map (·.i)).elem c.i&&yio (l.map (·.i)))=true:=h;rw[zF,zBH]at h;unfold yiw;rw[T.strict_eq];rcases List.mem_cons.1 a with e|a
   .subst e;rw[yxe fun d f e=>?_,T.set_at,if_pos rfl];have:(l.map (·.i)).elem b.i=true:=List.elem_eq_true_of_mem (List.mem_map.2 ⟨d,f,e⟩);rw[this]at h;cases h.1
   .exact yvw h.2 b a
theorem yrm:∀{l:List Nat},l.Nodup->yio l=true
 |[],_=>rfl
 | x :: l,h=>by
   rw[zBP]at h;show(!(l.elem x)&&yio l)=true
   have:l.elem x=false:=by
    cases a:l.elem x with
    |false=>rfl
    |true=>exact absurd (by simpa using a) h.1
   rw[this,yrm h.2];rfl
theorem ybda:∀{l:List Nat},yio l=true->l.Nodup
 |[],_=>zBC
 | x::l,h=>by
   have h:(!(l.elem x)&&yio l)=true:=h;rw[zF,zBH]at h;rw[zBP];refine⟨fun a=>?_,ybda h.2⟩;have:l.elem x=true:=by simpa using a
   rw[this]at h;cases h.1
theorem ybrw{d:Nat}:∀{l:List BlkL}{k:List Nat},(l.map (·.i)).Nodup->l.length=k.length->l.map (fun b=>ybdt l k d b.i)=k
 |[],[],_,_=>rfl
 | b :: l,t::k,a,g=>by
   rw[zAT,zBP]at a;have m:=ybrw (d:=d) a.2 (by simpa using g)
   rw[zAT];have e:ybdt (b::l) (t::k) d b.i=t:=by unfold ybdt;rw[zN];rfl
   rw[e];congr 1;refine zDB (zZ fun c f=>?_) m;show(bif zQ b.i c.i then t else ybdt l k d c.i)=_
   have:zQ b.i c.i=false:=by
    cases j:zQ b.i c.i with
    |false=>rfl
    |true=>exact absurd (List.mem_map.2 ⟨c,f,(zAB j).symm⟩) a.1
   rw[this];rfl
 |[],_::_,_,h=>by cases h
 |_::_,[],_,h=>by cases h
def Fact.still(f:Fact):Bool:=zBD f.next0 f.low&&f.args.all yoj&&ycgf f.v&&f.pre.all (fun b=>zAO b.i f.next0&&reflB b)&&yio (f.pre.map (·.i))&&f.post.all (fun b=>zBD f.next0 b.i&&zAO b.i f.next1&&reflB b)&&yio (f.post.map (·.i))&&zBD f.next0 f.next1
theorem ydfu{a b:Nat}(h:zAO a b=true):a<b:=zAH (zCP _) (zS h)
theorem ybql{a b:Nat}(h:a<b):zAO a b=true:=zAM h
theorem ypn{f:Fact}(h:f.still=true):f.next0<=f.low/\(f.args.all yoj=true/\ycgf f.v=true)/\(∀b∈f.pre,b.i<f.next0/\reflB b=true)/\(f.pre.map (·.i)).Nodup/\(∀b∈f.post,f.next0<=b.i/\b.i<f.next1/\reflB b=true)/\(f.post.map (·.i)).Nodup/\f.next0<=f.next1:=by
 unfold Fact.still at h;simp only[zF]at h;obtain⟨⟨⟨⟨⟨⟨⟨c,d⟩,e⟩,g⟩,j⟩,k⟩,l⟩,m⟩:=h;refine⟨zS c,⟨d,e⟩,fun b a=>?_,ybda j,fun b a=>?_,ybda l,zS m⟩
 .have:=List.all_eq_true.1 g b a;rw[zF]at this;exact⟨ydfu this.1,this.2⟩
 .have:=List.all_eq_true.1 k b a;simp only[zF]at this;exact⟨zS this.1.1,ydfu this.1.2,this.2⟩
theorem yckx{f:Fact}{tgt:List Nat}{n0:Nat}(g:∀b∈f.pre,b.i<f.next0/\reflB b=true)(e:(f.pre.map (·.i)).Nodup)(c:f.pre.length=tgt.length):f.pre.map (fun b=>f.rho tgt n0 b.i)=tgt:=by
 refine zDB (zZ fun b a=>?_) (ybrw (d:=Nat.add n0 (Nat.sub f.next1 f.next0)) e c);unfold Fact.rho;have j:=(g b a).1
 have:(zBD f.next0 b.i&&zAO b.i f.next1)=false:=by
  rw[zBS];left
  cases h:zBD f.next0 b.i with
  |false=>rfl
  |true=>have:=zS h;omega
 rw[this];rfl
theorem ybqw{f:Fact}{tgt:List Nat}{n0 i:Nat}(a:f.next0<=i)(b:i<f.next1):f.rho tgt n0 i=i-f.next0+n0:=by
 unfold Fact.rho;rw[Bool.cond_eq_ite,if_pos (by rw[zAM a,ybql b];rfl)]
 rfl
theorem ybad{P:Program}{f:Fact}{tgt:List Nat}{n0:Nat}(r:yfu P f)(E:f.still=true)(C:f.pre.length=tgt.length)(D:tgt.Nodup)(q:∀t∈tgt,t<n0):yfu P (f.move tgt n0):=by
 refine ykk r ?_;obtain⟨H,⟨I,J⟩,m,K,j,z,L⟩:=ypn E
 have k:(f.move tgt n0).pre.map (·.i)=tgt:=by
  show(f.pre.map (BlkL.ren (f.rho tgt n0))).map (·.i)=tgt;rw[zBA];exact zDB (zZ fun b a=>b.yil) (yckx (n0:=n0) m K C)
 have s:yio ((f.move tgt n0).post.map (·.i))=true:=by
  refine yrm ?_;show((f.post.map (BlkL.ren (f.rho tgt n0))).map (·.i)).Nodup
  have e:(f.post.map (BlkL.ren (f.rho tgt n0))).map (·.i)=(f.post.map (·.i)).map (fun i=>i-f.next0+n0):=by
   rw[zBA,zBA];refine zZ fun b a=>?_;show(b.ren (f.rho tgt n0)).i=b.i-f.next0+n0;rw[b.yil,ybqw (j b a).1 (j b a).2.1]
  rw[e];unfold List.Nodup at z ⊢;rw[zAR];refine List.Pairwise.imp_of_mem (fun {x y} F G h=>?_) z;obtain⟨B,o,rfl⟩:=List.mem_map.1 F;obtain⟨n,p,rfl⟩:=List.mem_map.1 G;have:=(j B o).1;have:=(j n p).1;omega
 have g:yio ((f.move tgt n0).pre.map (·.i))=true:=by rw[k];exact yrm D
 unfold Fact.moves;simp only[zF];refine⟨⟨⟨⟨⟨⟨⟨⟨zAM H,I⟩,J⟩,?_⟩,?_⟩,g⟩,?_⟩,?_⟩,zAM L⟩
 .refine List.all_eq_true.2 fun b a=>?_;have:=(m b a).2;unfold reflB at this;rw[zF]at this;rw[ybql (m b a).1,zAG];exact List.all_eq_true.2 fun v u=>by have:=List.all_eq_true.1 this.1 v u;rw[zF]at this;exact this.2
 .refine List.all_eq_true.2 fun b a=>?_;have:=(j b a).2.2;unfold reflB at this;rw[zF]at this;rw[ybql (j b a).2.1,zAG];exact List.all_eq_true.2 fun v u=>by have:=List.all_eq_true.1 this.1 v u;rw[zF]at this;exact this.2
 .refine List.all_eq_true.2 fun A c=>?_;obtain⟨b,a,rfl⟩:=List.mem_map.1 c;have d:=(m b a).2;have w:(b.ren (f.rho tgt n0)).i∈(f.move tgt n0).pre.map (·.i):=List.mem_map.2 ⟨_,c,rfl⟩;rw[k]at w;rw[ybql (q _ w),zAG];refine yte (yvw g _ c) (yxy d) ?_;show zAO (b.l.map _).length 1000000=true;rw[zW];unfold reflB at d;rw[zF]at d;exact d.2
 .refine List.all_eq_true.2 fun A c=>?_;obtain⟨b,a,rfl⟩:=List.mem_map.1 c;have d:=(j b a).2.2;refine yte (yvw s _ c) (yxy d) ?_;show zAO (b.l.map _).length 1000000=true;rw[zW];unfold reflB at d;rw[zF]at d;exact d.2
end Ev
end
section
namespace Sh
open Go Ev
def Lies(B:List BlkL)(v:Value)(F:AM)(u:Value):Prop :=
 ∃ρ:Nat->Nat,(∀b∈B,∀c∈B,ρ b.i=ρ c.i->b.i=c.i)/\(∀b∈B,F (ρ b.i)=some (b.ren ρ).blk)/\u=ren1 ρ v
theorem Lies.mono{B:List BlkL}{v:Value}(F G:AM)(u:Value)(h:Le F G)(k:Lies B v F u):Lies B v G u:=by
 obtain⟨ρ,a,c,d⟩:=k;exact⟨ρ,a,fun b e=>h _ _ (c b e),d⟩
def yeii(B:List BlkL)(j:Nat):Option BlkL:=B.find? fun b=>zQ b.i j
def ycmu(p:Nat->Bool):Nat->Bool
 |0=>true
 |n+1=>p n&&ycmu p n
theorem ybrt{p:Nat->Bool}:∀{n:Nat},ycmu p n=true->∀k,k<n->p k=true
 |0,_,k,h=>absurd h (zAI k)
 | n+1,h,k,hk=>by
   have h:(p n&&ycmu p n)=true:=h;rw[zF]at h
   by_cases q:k=n
   .rw[q];exact h.1
   .exact ybrt h.2 k (by omega)
def yblc(B:List BlkL)(z n:Nat)(row:Nat->List Value->Bool):Value->Bool
 | .slice (some a) m _=>a.spot.isNone&&zQ m n&&(match yeii B a.block with
   |some b=>zQ b.z z&&zBD (a.off+n*z) b.l.length&&ycmu (fun k=>row k ((b.l.drop (a.off+k*z)).take z)) n
   |none=>false)
 |.slice none 0 0=>zQ n 0
 |_=>false
theorem yvz {B:List BlkL}{F:AM}{ρ:Nat->Nat}{z n:Nat}{row:Nat->List Value->Bool}{v:Value}{g:Nat->List SV}(D:∀b∈B,F (ρ b.i)=some (b.ren ρ).blk) (h:yblc B z n row v=true)
 (I:∀k L,k<n->row k L=true->L.length=z/\RVL F om0 (g k) (L.map (ren2 ρ))/\(g k).all one1=true):RV F om0 (.sl z n g) (ren1 ρ v):=by
 unfold yblc at h;split at h
 .rename_i a m c
  simp only[zF]at h;obtain⟨⟨x,y⟩,f⟩:=h;split at f
  .rename_i b u
   simp only[zF]at f;obtain⟨⟨f,s⟩,C⟩:=f;have H:m=n:=zAB y;have J:=zAB f;have s:=zS s;have q:=List.mem_of_find?_eq_some u;have E:b.i=a.block:=zAB (List.find?_some (p:=fun b:BlkL=>zQ b.i a.block) u);have r:=D b q;rw[E]at r;show RV F om0 _ (.slice (some (renA ρ a)) m c);rw[ymk];subst H;obtain⟨A,o,K⟩:=a;have t:K=none:=by simpa using x
   subst t;have r:F (ρ A)=some (.cells (tOf (b.l.map (ren2 ρ))) (b.l.map (ren2 ρ)).length b.e b.z):=r;have d:∀k,k<m->_:=fun k hk=>I k _ hk (ybrt C k hk);refine .sl (L:=fun k=>((b.l.drop (o+k*z)).take z).map (ren2 ρ)) r (.inl J) (by rw[zW];exact s) ?_ ?_ (fun k hk=>(d k hk).2.1) (fun k hk=>(d k hk).2.2)
   .intro k hk;rw[zW];exact(d k hk).1
   .intro k hk j G;rw[ydn];simp only[zCI,List.getElem?_take,zCF,G,if_true]
  .cases f
 .have h:zQ n 0=true:=h;have w:=zAB h;subst w;exact .sl0 (.inl rfl)
 .cases h
def isI(v:Value)(n:Int):Bool:=match v with
 |.int .i64 m=>ybha m n
 |_=>false
def isS(v:Value)(s:ByteArray):Bool:=match v with
 |.string t=>ymb t.data.toList s.data.toList
 |_=>false
theorem ytk{F:AM}{ρ:Nat->Nat}{v:Value}{n:Int}(h:isI v n=true):RV F om0 (.i .i64 n) (ren2 ρ v):=by
 unfold isI at h;split at h
 .rw[yvr h];exact .i
 .cases h
theorem ydbb{F:AM}{ρ:Nat->Nat}{v:Value}{s:ByteArray}(h:isS v s=true):RV F om0 (.a (.string s)) (ren2 ρ v):=by
 unfold isS at h;split at h
 .rename_i t
  have e:=ytg h
  have:t=s:=by
   cases t;cases s
   congr 1;exact Array.toList_inj.1 e
  rw[this];exact .a rfl
 .cases h
def yeau(ls:List (Int×Int))(k:Nat):List Value->Bool
 |[x,y]=>isI x (ls.getD k (0,0)).1&&isI y (ls.getD k (0,0)).2
 |_=>false
def ydbh(l:List VarR)(k:Nat):List Value->Bool
 |[s,a,b,c,d,e]=>isS s (l.getD k default).name&&isI a (l.getD k default).kind&&isI b (l.getD k default).lo&&isI c (l.getD k default).hi&&isI d (l.getD k default).perNode&&isI e (l.getD k default).perID
 |_=>false
def ybeh(B:List BlkL)(ls:List (Int×Int))(v:Value):Bool:=yblc B 2 ls.length (yeau ls) v
def isSl:Value->Bool
 |.slice _ _ _=>true
 |_=>false
def yckk(B:List BlkL)(l:List SetR)(k:Nat):List Value->Bool
 |[a,v]=>isI a (l.getD k default).var&&isSl v&&ybeh B (l.getD k default).val v
 |_=>false
def ybxw(B:List BlkL)(l:List RuleR)(k:Nat):List Value->Bool
 |[s,v,w]=>isS s (l.getD k default).name&&isSl v&&ybeh B (l.getD k default).guard v&&isSl w&&yblc B 2 (l.getD k default).sets.length (yckk B (l.getD k default).sets) w
 |_=>false
def ycfv(B:List BlkL)(v:Value)(l:List VarR):Bool:=yblc B 6 l.length (ydbh l) v
def ybqn(B:List BlkL)(v:Value)(l:List RuleR):Bool:=yblc B 3 l.length (ybxw B l) v
section
variable {B:List BlkL}{F:AM}{ρ:Nat->Nat}
theorem ybog{v:Value}(h:isSl v=true):ren2 ρ v=ren1 ρ v:=by
 unfold isSl at h;split at h
 .rfl
 .cases h
theorem yww(c:∀b∈B,F (ρ b.i)=some (b.ren ρ).blk){ls:List (Int×Int)}{v:Value}(h:ybeh B ls v=true):RV F om0 (ybb ls) (ren1 ρ v):=by
 refine yvz c h fun k L hk a=>?_;unfold yeau at a;split at a
 .simp only[zF]at a;exact⟨rfl,.cons (ytk a.1) (.cons (ytk a.2) .nil),rfl⟩
 .cases a
theorem ybve(m:∀b∈B,F (ρ b.i)=some (b.ren ρ).blk){l:List VarR}{v:Value}(h:ycfv B v l=true):RV F om0 (yfp l) (ren1 ρ v):=by
 refine yvz m h fun k L hk a=>?_;unfold ydbh at a;split at a
 .simp only[zF]at a;obtain⟨⟨⟨⟨⟨c,d⟩,e⟩,f⟩,g⟩,j⟩:=a;exact⟨rfl,.cons (ydbb c) (.cons (ytk d) (.cons (ytk e) (.cons (ytk f) (.cons (ytk g) (.cons (ytk j) .nil))))),rfl⟩
 .cases a
theorem ybul(c:∀b∈B,F (ρ b.i)=some (b.ren ρ).blk){l:List SetR}{v:Value}(h:yblc B 2 l.length (yckk B l) v=true):RV F om0 (yko l) (ren1 ρ v):=by
 refine yvz c h fun k L hk a=>?_;unfold yckk at a;split at a
 .simp only[zF]at a;obtain⟨⟨d,e⟩,f⟩:=a;refine⟨rfl,.cons (ytk d) (.cons ?_ .nil),rfl⟩;rw[ybog e];exact yww c f
 .cases a
theorem yblx(c:∀b∈B,F (ρ b.i)=some (b.ren ρ).blk){l:List RuleR}{v:Value}(h:ybqn B v l=true):RV F om0 (ydr l) (ren1 ρ v):=by
 refine yvz c h fun k L hk a=>?_;unfold ybxw at a;split at a
 .simp only[zF]at a;obtain⟨⟨⟨⟨d,e⟩,f⟩,g⟩,j⟩:=a;refine⟨rfl,.cons (ydbb d) (.cons ?_ (.cons ?_ .nil)),rfl⟩
  .rw[ybog e];exact yww c f
  .rw[ybog g];exact ybul c j
 .cases a
end
structure LaidP(fp:Fact)(t:ByteArray)(p:ProgR)(vv vr:Value)(Bv Br:List BlkL):Prop where
 args:fp.args=[.string t]
 pre:fp.pre=[]
 v:fp.v = .agg #[.string p.name,vv,vr]
 still:fp.still=true
 bv:∀b∈Bv,b∈fp.post
 br:∀b∈Br,b∈fp.post
 vars:ycfv Bv vv p.vars=true
 rules:ybqn Br vr p.rules=true
theorem ycny{P:Program}{fp:Fact}{t:ByteArray}{p:ProgR}{N M:Value}{Q O:List BlkL}(I:yfu P fp)(h:LaidP fp t p N M Q O):Returns P fp.g [.a (.string t)] (.ag (ygc (Lies Q N) (Lies O M) p)):=by
 intro G m Z L T K
 have V:Z=[.string t]:=by
  cases K with
  |cons a b=>cases a with|a _=>cases b with|nil=>rfl
 subst V;obtain⟨s1,⟨s2,s3⟩,s4,s5,q,R,s8⟩:=ypn h.still;have E:=ybad (tgt:=[]) (n0:=m.next) I h.still (by rw[h.pre];rfl) zBC (fun t U=>by cases U)
 obtain⟨ρ,o⟩:∃ρ,fp.rho [] m.next=ρ:=⟨_,rfl⟩
 have n:(fp.move [] m.next).post=fp.post.map (BlkL.ren ρ):=by rw[<-o];rfl
 have W:(fp.move [] m.next).v = .agg #[.string p.name,ren1 ρ N,ren1 ρ M]:=by
  show renV (fp.rho [] m.next) fp.v=_
  rw[o,h.v];rfl
 have l:(fp.move [] m.next).pre=[]:=by
  show fp.pre.map _=[];rw[h.pre];rfl
 have r:(fp.move [] m.next).fits fp.g [.string t] m=true:=by
  unfold Fact.fits;rw[l];show(zQ fp.g fp.g&&zQ m.next m.next&&eqL2 (fp.args.map (ren2 _)) [.string t]&&true)=true
  rw[zN,zN,h.args];show(true&&true&&(ymb t.data.toList t.data.toList&&true)&&true)=true;rw[ytm];rfl
 have f:∀b∈fp.post,ρ b.i=b.i-fp.next0+m.next:=fun b d=>by rw[<-o];exact ybqw (q b d).1 (q b d).2.1
 have H:yio ((fp.post.map (BlkL.ren ρ)).map (·.i))=true:=by
  refine yrm ?_
  have e:(fp.post.map (BlkL.ren ρ)).map (·.i)=(fp.post.map (·.i)).map (fun i=>i-fp.next0+m.next):=by
   rw[zBA,zBA];refine zZ fun b d=>?_;show(b.ren ρ).i=_;rw[b.yil,f b d];rfl
  rw[e];unfold List.Nodup at R ⊢;rw[zAR];refine List.Pairwise.imp_of_mem (fun {x y} X Y h=>?_) R;obtain⟨S,z,rfl⟩:=List.mem_map.1 X;obtain⟨u,C,rfl⟩:=List.mem_map.1 Y;have:=(q S z).1;have:=(q u C).1;omega
 have J:=ybdi E r;unfold Fact.out at J;rw[W,l,n]at J;refine⟨_,_,_,J,zJ _,?_,rfl,?_⟩
 .intro i b d;show(yiw m.b (fp.post.map (BlkL.ren ρ))).get i=some b;rw[yxe fun c j=>?_]
  .exact d
  .obtain⟨c,D,rfl⟩:=List.mem_map.1 j;have:=L i b d;rw[c.yil,f c D];omega
 .have s:∀b∈fp.post,frsh m.next ⟨(fp.move [] m.next).next1,yiw m.b (fp.post.map (BlkL.ren ρ)),(fp.move [] m.next).low⟩ G (ρ b.i)=some (b.ren ρ).blk:=fun b d=>by
   unfold frsh;rw[if_pos (by rw[f b d];omega)]
   have:=yvw (t:=m.b) H _ (List.mem_map.2 ⟨b,d,rfl⟩);rw[b.yil]at this;exact this
  have k:∀b∈fp.post,∀c∈fp.post,ρ b.i=ρ c.i->b.i=c.i:=fun b d c j e=>by
   rw[f b d,f c j]at e;have:=(q b d).1;have:=(q c j).1;omega
  refine .ag (.cons (.a rfl) (.cons (.ex ?_ (fun A B w=>Lies.mono A B w) ?_) (.cons (.ex ?_ (fun A B w=>Lies.mono A B w) ?_) .nil)))
  .exact⟨ρ,fun b d c j=>k b (h.bv b d) c (h.bv c j),fun b d=>s b (h.bv b d),rfl⟩
  .exact ybve (fun b d=>s b (h.bv b d)) h.vars
  .exact⟨ρ,fun b d c j=>k b (h.br b d) c (h.br c j),fun b d=>s b (h.br b d),rfl⟩
  .exact yblx (fun b d=>s b (h.br b d)) h.rules
def inB(B:List BlkL):Value->Bool
 |.slice (some a) _ _=>(B.map (·.i)).elem a.block
 |.pointer (some a)=>(B.map (·.i)).elem a.block
 |.agg _=>false
 |.func _ _ _=>false
 |_=>true
theorem yjy{B:List BlkL}{ρ σ:Nat->Nat}(h:∀b∈B,ρ b.i=σ b.i){v:Value}(d:inB B v=true):ren1 ρ v=ren1 σ v:=by
 have hk:∀j,(B.map (·.i)).elem j=true->ρ j=σ j:=fun j g=>by
  have:j∈B.map (·.i):=by simpa using g
  obtain⟨b,e,rfl⟩:=List.mem_map.1 this;exact h b e
 cases v with
 | slice p n c=>cases p with
   |none=>rfl
   | some a =>
     show Value.slice (some (renA ρ a)) n c = .slice (some (renA σ a)) n c;rw[ymk,ymk,hk _ d]
 | pointer p=>cases p with
   |none=>rfl
   | some a =>
     show Value.pointer (some (renA ρ a)) = .pointer (some (renA σ a));rw[ymk,ymk,hk _ d]
 |agg a=>cases d
 |func f a c=>cases d
 |_=>rfl
theorem ybsh{B:List BlkL}{d:Nat->Nat}{v:Value}(b:inB B v=true):ren2 d v=ren1 d v:=by
 cases v with
 |agg a=>cases b
 |func f a c=>cases b
 |_=>rfl
theorem ybvo{B:List BlkL}{ρ σ:Nat->Nat}(h:∀b∈B,ρ b.i=σ b.i){v:Value}(a:inB B v=true):ren2 ρ v=ren2 σ v:=by
 rw[ybsh a,ybsh a];exact yjy h a
def ybla(B:List BlkL):Bool:=B.all fun b=>b.l.all (inB B)
theorem ybjl{B:List BlkL}{ρ σ:Nat->Nat}(f:ybla B=true)(h:∀b∈B,ρ b.i=σ b.i){b:BlkL}(c:b∈B):b.ren ρ=b.ren σ:=by
 have d:=List.all_eq_true.1 (List.all_eq_true.1 f b c)
 have e:∀a:Nat->Nat,b.ren a=⟨a b.i,b.e,b.z,b.l.map (ren2 a)⟩:=fun a=>by
  unfold BlkL.ren;rw[ybr]
 rw[e,e,h b c];congr 1;exact zZ fun v g=>ybvo h (d v g)
theorem ybcl{low:Nat}:∀{l:List BlkL}{t:T ABlk},(∀b∈l,b.i<low)->ymw t low l=t
 |[],_,_=>rfl
 | b :: l,t,h=>by
   have d:=h b zAA;unfold ymw
   have e:zBD low b.i=false:=by
    cases q:zBD low b.i with
    |false=>rfl
    |true=>have:=zS q;omega
   rw[e,ybh,if_neg (by simp)]
   exact ybcl fun c a=>h c (zV _ a)
structure GoodV(fv:Fact)(p:ProgR)(vv vr:Value)(Bv Br:List BlkL):Prop where
 args:fv.args=[.agg #[.string p.name,vv,vr]]
 pre:∀b∈fv.pre,b∈Bv\/b∈Br
 bv:∀b∈Bv,b∈fv.pre
 br:∀b∈Br,b∈fv.pre
 v:fv.v = .bool true
 post:fv.post=[]
 still:fv.still=true
 apart:(Bv.all fun b=>Br.all fun c=>!(zQ b.e c.e) && !(zQ b.i c.i))=true
 cv:ybla Bv=true
 cr:ybla Br=true
 iv:inB Bv vv=true
 ir:inB Br vr=true
 refl:eq2 (.agg #[.string p.name,vv,vr]) (.agg #[.string p.name,vv,vr])=true
theorem ycoy{P:Program}{fv:Fact}{p:ProgR}{w u:Value}{Bv z:List BlkL}(a7:yfu P fv)(h:GoodV fv p w u Bv z):Returns P fv.g [.ag (ygc (Lies Bv w) (Lies z u) p)] (.b true):=by
 intro G m us a9 L a8
 obtain⟨f,j,hu,a1,a2,a3,a4⟩:∃f j:Nat->Nat,us=[.agg #[.string p.name,ren1 f w,ren1 j u]]/\(∀b∈Bv,∀c∈Bv,f b.i=f c.i->b.i=c.i)/\(∀b∈Bv,G (f b.i)=some (b.ren f).blk) /\
  (∀b∈z,∀c∈z,j b.i=j c.i->b.i=c.i)/\∀b∈z,G (j b.i)=some (b.ren j).blk:=by
  cases a8 with
  | cons a b =>
    cases b
    cases a with
    | ag K =>
      cases K with
      | cons x1 K =>
        cases x1
        cases K with
        | cons x2 K =>
          cases x2 with
          | ex q2 _ _ =>
            cases K with
            | cons x3 K =>
              cases x3 with
              | ex q3 _ _ =>
                cases K
                obtain⟨f,b1,b2,rfl⟩:=q2;obtain⟨j,b3,b4,rfl⟩:=q3;exact⟨f,j,rfl,b1,b2,b3,b4⟩
 subst hu;obtain⟨s1,⟨s2,s3⟩,s4,S,s6,s7,s8⟩:=ypn h.still
 have V:∀b∈Bv,∀c∈z,b.e≠c.e/\b.i≠c.i:=fun b k c A=>by
  have:=List.all_eq_true.1 (List.all_eq_true.1 h.apart b k) c A;simp only[zF,zBH]at this;exact⟨fun e=>(by rw[e,zN]at this;exact absurd this.1 (by decide)),fun e=>(by rw[e,zN]at this;exact absurd this.2 (by decide))⟩
 let R:Nat->Nat:=fun i=>if (Bv.map (·.i)).elem i then f i else j i
 have o:∀b∈Bv,∀c∈z,f b.i≠j c.i:=fun b k c A e=>by
  have U:=a2 b k;have e2:=a4 c A;rw[e,e2]at U
  injection U with U
  unfold BlkL.blk at U
  injection U with _ _ e3 _
  exact(V b k c A).1 e3.symm
 have hG:∀i b,G i=some b->i<m.next:=fun i b k=>a9 i b (L i b k)
 have T:∀b∈Bv,R b.i=f b.i:=fun b k=>if_pos (by simpa using⟨b,k,rfl⟩)
 have sr:∀b∈z,R b.i=j b.i:=fun b k=>by
  refine if_neg fun q=>?_;have:b.i∈Bv.map (·.i):=by simpa using q
  obtain⟨d,hd,a5⟩:=List.mem_map.1 this;exact(V d hd b k).2 a5
 have s:∀b∈fv.pre,R b.i<m.next:=fun b k=>by
  rcases h.pre b k with q|q
  .rw[T b q];exact hG _ _ (a2 b q)
  .rw[sr b q];exact hG _ _ (a4 b q)
 have Z:∀b∈fv.pre,∀c∈fv.pre,R b.i=R c.i->b.i=c.i:=fun b k c A e=>by
  rcases h.pre b k with q|q<;>rcases h.pre c A with E|E
  .rw[T b q,T c E]at e;exact a1 b q c E e
  .rw[T b q,sr c E]at e;exact absurd e (o b q c E)
  .rw[sr b q,T c E]at e;exact absurd e.symm (o c E b q)
  .rw[sr b q,sr c E]at e;exact a3 b q c E e
 obtain⟨n,r⟩:∃t,fv.pre.map (fun b=>R b.i)=t:=⟨_,rfl⟩
 have b0:∀t∈n,t<m.next:=fun t ht=>by
  rw[<-r]at ht;obtain⟨b,k,rfl⟩:=List.mem_map.1 ht;exact s b k
 have b5:n.Nodup:=by
  rw[<-r];have S:=S;unfold List.Nodup at S ⊢;rw[zAR]at S ⊢;exact List.Pairwise.imp_of_mem (fun {x y} hx hy h e=>h (Z x hx y hy e)) S
 have I:fv.pre.length=n.length:=by rw[<-r,zW]
 have a6:=ybad (n0:=m.next) a7 h.still I b5 b0
 have H:=yckx (n0:=m.next) s4 S I
 obtain⟨ρ,Q⟩:∃ρ,fv.rho n m.next=ρ:=⟨_,rfl⟩
 rw[Q,<-r]at H;have N:∀b∈fv.pre,ρ b.i=R b.i:=List.map_inj_left.1 H;have D:∀b∈Bv,ρ b.i=f b.i:=fun b k=>by rw[N b (h.bv b k),T b k]
 have C:∀b∈z,ρ b.i=j b.i:=fun b k=>by rw[N b (h.br b k),sr b k]
 have J:(fv.move n m.next).args=[.agg #[.string p.name,ren1 f w,ren1 j u]]:=by
  show fv.args.map (ren2 (fv.rho n m.next))=_
  rw[Q,h.args,<-yjy D h.iv,<-yjy C h.ir];rfl
 have O:eqL2 [.agg #[.string p.name,ren1 f w,ren1 j u]] [.agg #[.string p.name,ren1 f w,ren1 j u]]=true:=by
  have hf:yoj (.agg #[.string p.name,w,u])=true:=by
   have:=s2;rw[h.args]at this
   simpa using this
  have e:=ycbe (ρ:=ρ) hf h.refl;rw[show ren2 ρ (.agg #[.string p.name,w,u]) = .agg #[.string p.name,ren1 ρ w,ren1 ρ u]from rfl,yjy D h.iv,yjy C h.ir]at e
  show(eq2 _ _&&true)=true;rw[e];rfl
 have Y:∀b∈fv.pre,m.b.get (ρ b.i)=some (b.ren ρ).blk:=fun b k=>by
  rcases h.pre b k with q|q
  .rw[ybjl h.cv D q,D b q];exact L _ _ (a2 b q)
  .rw[ybjl h.cr C q,C b q];exact L _ _ (a4 b q)
 have hp:(fv.move n m.next).pre=fv.pre.map (BlkL.ren ρ):=by rw[<-Q];rfl
 have X:(fv.move n m.next).fits fv.g [.agg #[.string p.name,ren1 f w,ren1 j u]] m=true:=by
  unfold Fact.fits;rw[J,O];show(zQ fv.g fv.g&&zQ m.next m.next&&true&&(fv.move n m.next).pre.all (yxa m))=true
  rw[zN,zN,hp];show List.all _ _=true;refine List.all_eq_true.2 fun b' a0=>?_;obtain⟨b,k,rfl⟩:=List.mem_map.1 a0;have h2:=(s4 b k).2;refine yte ?_ (yxy h2) ?_
  .rw[b.yil];exact Y b k
  .show zAO (b.l.map _).length 1000000=true;rw[zW];unfold reflB at h2;rw[zF]at h2;exact h2.2
 have hs:=ybdi a6 X;unfold Fact.out at hs
 have hv:(fv.move n m.next).v = .bool true:=by
  show renV (fv.rho n m.next) fv.v=_
  rw[h.v];rfl
 have M:(fv.move n m.next).post=[]:=by
  show fv.post.map _=[];rw[h.post];rfl
 rw[hv,M]at hs;refine⟨_,_,_,hs,zJ _,?_,rfl,.b⟩;intro i b k;show(ymw m.b m.next (fv.move n m.next).pre).get i=some b
 rw[ybcl fun c A=>?_]
 .exact k
 .rw[hp]at A;obtain⟨c,W,rfl⟩:=List.mem_map.1 A;rw[c.yil,N c W];exact s c W
end Sh
end
end Go.Proofs.YthclbjjgfcgbgaaGreatDoor
