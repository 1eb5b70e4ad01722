/- Joined. -/
import Derived.Test.YthclbjjgfcgbgaaGreatDoorPkCn8
import Derived.Test.YthclbjjgfcgbgaaGreatDoorPkCn6
import Derived.Lib.TrailingZeros
set_option linter.unusedSimpArgs false
set_option linter.unusedVariables false
set_option maxRecDepth 1000000
open Nat renaming reduceEqDiff->zA,reduceAdd->zB,reduceLT->zD,reduceLeDiff->zG,beq_refl->zH,beq->zI,le_of_ble_eq_true->zK,add_comm->zN,reduceBEq->zT,eq_of_beq_eq_true->zW,zero_add->zY,not_lt_zero->zZ,ble_eq_true_of_le->zAC,le_refl->zAD,blt->zAE,ble->zAO,testBit_two_pow_mul_add->zAQ,lt_pow_two_of_testBit->zAS,zero_le->zBA,pow_lt_pow_right->zBE,reduceMul->zBH,testBit_two_pow->zBJ,sub_self->zBK,lt_of_lt_of_le->zBM,testBit_succ->zBS,two_pow_pos->zBV,testBit_or->zBY,add_zero->zCG
open Bool renaming and_eq_true->zC,true_and->zL,not_eq_true'->zX,false_ne_true->zAB,or_eq_true->zBU,false_and->zBZ
open Go.Proofs.Tryz renaming prog->zF,ntmps173->zCE,func173->zCH,func172->zCI,func46->zCL
open List renaming range->zJ,getD_eq_getElem?_getD->zM,getElem?_eq_getElem->zO,length_map->zQ,map_congr_left->zU,mem_cons_self->zV,length_append->zAA,pairwise_map->zAG,not_mem_nil->zAH,length_singleton->zAI,getElem?_eq_none->zAK,length_nil->zAL,mem_cons_of_mem->zAM,map_map->zAN,filter_append->zAP,drop_eq_getElem_cons->zAT,getElem_mem->zAV,getElem_map->zAW,range_succ->zAX,nodup_cons->zAY,nil_append->zAZ,nodup_nil->zBD,mem_of_mem_take->zBF,mem_of_mem_drop->zBG,map_cons->zBI,foldl_append->zBN,getElem?_map->zBO,length->zBP,length_cons->zBQ,all_eq_true->zBR,mem_filter->zBT,mem_range->zBX,drop_drop->zCA,take->zCB,drop->zCC,all_cons->zCD,getD->zCN
open Go.Lib renaming hid->zS,ctz->zAJ,ctzFrom->zCM
open Int renaming eq_ofNat_of_zero_le->zAF,toNat_natCast->zAR,add_mul_ediv_right->zBB,ediv_eq_zero_of_lt->zBC,reduceToNat->zBW,add_comm->zCJ,zero_add->zCK
open Classical renaming byContradiction->zAU
open And renaming intro->zBL
open Eq renaming trans->zCF
open Go
namespace Go.Proofs.YthclbjjgfcgbgaaGreatDoor
section
structure NetR where
 n:Int
 links:List Int
 weights:List Int
 ids:List Int
 apart:Bool
 back:Bool
def NetR.ok(x:NetR):Prop:=Sh.inK .i64 x.n/\(∀k,Sh.inK .i64 (x.links.getD k 0))/\(∀k,Sh.inK .i64 (x.weights.getD k 0))/\(∀k,Sh.inK .i64 (x.ids.getD k 0))
def ybhk(x:NetR)(ids:List Int):Prop:=x.ids=[]->∀y∈ids,y<(ids.length:Int)
theorem ybnx(a r:Nat)(d:r<=256):((zJ r).map fun i=>(((a+i)%256:Nat):Int)).Nodup:=by
 unfold List.Nodup;rw[zAG];refine List.Pairwise.imp_of_mem (R:=(· < ·)) (fun {i j} b c h=>?_) List.pairwise_lt_range;have b:=List.mem_range.1 b;have c:=List.mem_range.1 c;intro e;omega
theorem ybsd{a r:Nat}{l:List Int}(c:r<=256)(h:∀i,i<r->(((a+i)%256:Nat):Int)∈l):r<=l.length:=by
 have:=List.Nodup.length_le_of_subset (ybnx a r c) (l₂:=l) fun x d=>by
  obtain⟨i,b,rfl⟩:=List.mem_map.1 d;exact h i (List.mem_range.1 b)
 simpa using this
namespace Sh
open Ev Go.RowKit
def netC(x:NetR):List SV:=[.i .i64 x.n,ybb x.links,ybb x.weights,ybb x.ids,.b x.apart,.b x.back]
theorem wrap64_in(z:Int):inK .i64 (IntKind.wrap .i64 z):=by
 unfold inK;have a:IntKind.i64.min = -9223372036854775808:=rfl;have b:IntKind.i64.max=9223372036854775807:=rfl;have c:=Int.emod_nonneg z (show(18446744073709551616:Int)≠0 by decide)
 have d:=Int.emod_lt_of_pos z (show(0:Int)<18446744073709551616 by decide)
 rw[a,b]
 have e:IntKind.wrap .i64 z=if z%18446744073709551616>=9223372036854775808 then z%18446744073709551616-18446744073709551616 else z%18446744073709551616:=by
  show(if (true&&decide (z%18446744073709551616>=9223372036854775808))=true then z%18446744073709551616-18446744073709551616 else z%18446744073709551616)=_
  simp only[zL,decide_eq_true_eq]
 rw[e];split<;>omega
theorem ycin{x:NetR}(hx:x.ok){most:Nat}(I:1<=most/\most<=24) :
 Cm zF 47 [] [] [.ag (netC x),.i .i64 most] fun r o=>∃ids:List Int,(1<=ids.length/\ids.length<=most/\(ids.length:Int)=1+yei (IntKind.wrap .i64 (x.n-1)) most/\ybhk x ids)/\(∀y∈ids,0<=y/\y<=255)/\ids.Nodup/\r = .ag [.os (148,0) 0 ids.length true,.os (17,0) 0 ids.length true] /\
  o=[(17,.one (some ⟨135,false,1,ids.length,fun _=>[.a (.slice none 0 0)]⟩)),(148,.one (some ⟨3,false,1,ids.length,fun k=>[.i .i64 (ids.getD k 0)]⟩))]:=by
 refine yduf [] [] _ _ _ ?_;obtain⟨a2,a3,a4,N⟩:=hx;have w:=yon (v:=IntKind.wrap .i64 (x.n-1)) (m:=(most:Int)) (by omega)
 obtain⟨k,hk⟩:∃k:Nat,yei (IntKind.wrap .i64 (x.n-1)) most=k:=zAF w.1;have O:=yol (IntKind.wrap .i64 (x.n-1)) most (by omega) (wrap64_in _)
 rw[hk]at O w;obtain⟨n,Z⟩:∃n:Nat,(1:Int)+(k:Int)=(n:Int):=⟨1+k,by omega⟩
 have L:1<=n/\n<=most/\(n:Int)=1+yei (IntKind.wrap .i64 (x.n-1)) most:=by omega
 simp only[c47,yeda,yegb,netC,go_sem,zA,zB,zG,zD];refine O.use ?_;simp only[ybj,ydvy,ydyd,Z,clash,go_sem,zA,zB,zD];refine⟨ikw (by omega) (by omega),⟨by omega,by omega,by omega⟩,?_⟩
 refine ybe (σ:=List Int) (fun l=>⟨[(7,.i .i64 l.length),(5,.i .i64 n),(2,.pt (2,0) 0 0),(6,.pt (6,0) 0 0),(4,.pt (4,0) 0 0)],
  [(2,.one (some ⟨24,true,6,1,fun _=>netC x⟩)),(4,.one (some ⟨27,true,2,1,fun _=>[.a (.slice none 0 0),.a (.slice none 0 0)]⟩)),
   (6,.one (some ⟨27,true,2,1,fun _=>[.os (148,0) 0 l.length true,.os (17,0) 0 n true]⟩)),(17,.one (some ⟨135,false,1,n,fun _=>[.a (.slice none 0 0)]⟩)),
   (148,.one (some ⟨3,false,1,l.length,fun k=>[.i .i64 (l.getD k 0)]⟩))]⟩)
  (fun l=>l.length<=n/\(∀y∈l,0<=y/\y<=255)/\l.Nodup/\ybhk x l) (fun l=>n-l.length) [] ⟨zBA _,fun y d=>(zAH d).elim,zBD,fun _ y d=>(zAH d).elim⟩ ?_ ?_
 .refine yca [] [148] [] ?_;simp only[netC,wk,go_sem,zA,zD,zT];exact fun i _=>⟨(148,0),rfl,rfl,rfl⟩
 .rintro l ⟨X,A,B,C⟩;obtain⟨v,h⟩:∃v,l.length=v:=⟨_,rfl⟩;rw[h]at X;have T:=at_ret x.ids v;have t:=yon (v:=atP x.ids v) (m:=256) (by omega)
  obtain⟨a,U⟩:∃a:Nat,yei (atP x.ids v) 256=a:=zAF t.1;have p:=yol (atP x.ids v) 256 (by omega) (N v)
  rw[U]at p t;simp only[yebo,yegw,ydwq,ydiy,netC,h,splice,clash,go_sem,zA,zB,zG];refine⟨fun Y=>?_,fun W=>?_⟩
  .refine T.use ?_;simp only[ybj,clash,go_sem,zA,zB];refine p.use ?_
   refine ybe (σ:=Nat×Nat) (fun q=>⟨[(9,.i .i64 q.2),(8,.i .i64 ((a+q.1)%256:Nat)),(7,.i .i64 v),(5,.i .i64 n),(2,.pt (2,0) 0 0),(6,.pt (6,0) 0 0),(4,.pt (4,0) 0 0)],
    [(2,.one (some ⟨24,true,6,1,fun _=>netC x⟩)),(4,.one (some ⟨27,true,2,1,fun _=>[.a (.slice none 0 0),.a (.slice none 0 0)]⟩)),
     (6,.one (some ⟨27,true,2,1,fun _=>[.os (148,0) 0 v true,.os (17,0) 0 n true]⟩)),(17,.one (some ⟨135,false,1,n,fun _=>[.a (.slice none 0 0)]⟩)),
     (148,.one (some ⟨3,false,1,v,fun k=>[.i .i64 (l.getD k 0)]⟩))]⟩)
    (fun q=>q.2<=v/\(∀i,i<q.1->(((a+i)%256:Nat):Int)∈l)/\q.1<=256/\∀j,j<q.2->l.getD j 0≠(((a+q.1)%256:Nat):Int)) (fun q=>(v-q.1)*(v+2)+(v-q.2)) (0,0) ⟨zBA _,fun i K=>absurd K (zZ i),by omega,fun j f=>absurd f (zZ j)⟩ ?_ ?_
   .refine yj ?_;simp only[netC,wk,go_sem,zA,zD];rw[Nat.mod_eq_of_lt (by omega)]
   .rintro⟨r,u⟩ ⟨S,F,c,g⟩;obtain⟨b,s⟩:∃b,(a+r)%256=b:=⟨_,rfl⟩;have J:b<256:=by omega
    simp only[yeds,ydxh,ydfj,ydec,ydjb,yegi,netC,s,splice,clash,go_sem,zA,zB,zG,zD];have S:u<=v:=S;have F:∀i,i<r->(((a+i)%256:Nat):Int)∈l:=F;have c:r<=256:=c;have g:∀j,j<u->l.getD j 0≠(b:Int):=fun j f=>by rw[<-s];exact g j f
    have a1:r<=v:=by rw[<-h];exact ybsd c F
    refine⟨fun Q=>⟨⟨by omega,by omega⟩,by omega,fun V=>⟨ikw (by omega) (by omega),by decide,ikw (by omega) (by omega),?_⟩,fun M=>⟨ikw (by omega) (by omega),?_⟩⟩,fun P=>?_⟩
    .have D:(b:Int)∈l:=by
      rw[<-V,getD_at (show u<l.length by omega)]
      exact zAV _
     have G:∀i,i<r+1->(((a+i)%256:Nat):Int)∈l:=fun i K=>by
      by_cases q:i=r
      .rw[q,s];exact D
      .exact F i (by omega)
     have R:r+1<=v:=by rw[<-h];exact ybsd (by omega) G
     refine yu (r+1,0) ⟨zBA _,G,by show r+1<=256;omega,fun j f=>absurd f (zZ j)⟩ ?_ ?_
     .show(v-(r+1))*(v+2)+(v-0)<(v-r)*(v+2)+(v-u);obtain⟨m,I⟩:∃m,v-r=m+1:=⟨v-r-1,by omega⟩
      rw[show v-(r+1)=m by omega,I,Nat.succ_mul]
      generalize m*(v+2)=z
      omega
     .refine yj ?_;simp only[wk,go_sem,zA,zD];refine⟨by omega,?_⟩
      rw[Int.tmod_eq_emod_of_nonneg (by omega)]
      omega
    .refine yu (r,u+1) ⟨by show u+1<=v;omega,F,c,fun j f=>?_⟩ ?_ ?_
     .show l.getD j 0≠(((a+r)%256:Nat):Int);rw[s]
      by_cases q:j=u
      .rw[q];exact M
      .exact g j (by have:j<u+1:=f;omega)
     .show(v-r)*(v+2)+(v-(u+1))<(v-r)*(v+2)+(v-u)
      generalize (v-r)*(v+2)=z
      omega
     .refine yj ?_;simp only[s,wk,go_sem,zA,zD];omega
    .obtain rfl:u=v:=by omega
     refine⟨⟨by omega,by omega⟩,ikw (by omega) (by omega),?_⟩
     have E:(b:Int)∉l:=fun I=>by
      obtain⟨j,f,e⟩:=List.getElem_of_mem I;exact g j (by omega) (by rw[getD_at f,e])
     refine yu (l++[(b:Int)]) ⟨by rw[zAA,zAI];omega,fun y d=>?_,?_,?_⟩ (by rw[zAA,zAI];omega) ?_
     .rcases List.mem_append.1 d with d|d
      .exact A y d
      .rw[List.mem_singleton.1 d];omega
     .rw[List.nodup_append];exact⟨B,by simp,fun y d z hz=>by rw[List.mem_singleton.1 hz];exact fun e=>E (e▸d)⟩
     .intro H y d;rw[zAA,zAI];rcases List.mem_append.1 d with d|d
      .have:=C H y d;omega
      .have a0:a=0:=by
        have:yei (atP x.ids u) 256=0:=by rw[H];rfl
        omega
       rw[List.mem_singleton.1 d];omega
     refine yca [(148,fun i=>(48,i))] [] [] ?_;simp only[zAA,h,wk,go_sem,zA,zD];refine⟨by omega,fun i K=>?_⟩
     rw[yegm,h]
     by_cases q:i<u
     .simp only[if_pos q];simp only[wk,go_sem]
     .obtain rfl:i=u:=by omega
      simp only[if_neg q,zBK];simp only[wk,go_sem]
  .obtain rfl:v=n:=by omega
   simp only[yhq,go_sem];refine⟨.ag [.os (148,0) 0 v true,.os (17,0) 0 v true],[(17,.one (some ⟨135,false,1,v,fun _=>[.a (.slice none 0 0)]⟩)),(148,.one (some ⟨3,false,1,v,fun k=>[.i .i64 (l.getD k 0)]⟩))],?_,?_,l,⟨by omega,by omega,by rw[h];exact L.2.2,C⟩,A,B,by rw[h],by rw[h]⟩
   .refine yj ?_;simp only[wk,go_sem,zA,zD]
   .simp only[ycl,yfk,wk,go_sem,zA]
theorem ycqp{x:NetR}(j:x.ok){most:Nat}(g:1<=most/\most<=24) :
 Cm zF 47 [] [] [.ag (netC x),.i .i64 most] fun r o=>∃ids:List Int,(1<=ids.length/\ids.length<=most/\(ids.length:Int)=1+yei (IntKind.wrap .i64 (x.n-1)) most/\ybhk x ids)/\(∀y∈ids,0<=y/\y<=255)/\ids.Nodup/\r = .ag [ybb ids,.os (17,0) 0 ids.length true] /\
  o=[(17,.one (some ⟨135,false,1,ids.length,fun _=>[.a (.slice none 0 0)]⟩))] :=
 (ycin j g).weak fun r k ⟨ids,d,e,f,b,c⟩=>by
   subst b c;obtain⟨v,h⟩:∃v,ids.length=v:=⟨_,rfl⟩;refine⟨.ag [ybb ids,.os (17,0) 0 ids.length true],[(17,.one (some ⟨135,false,1,ids.length,fun _=>[.a (.slice none 0 0)]⟩))],?_,?_,ids,d,e,f,rfl,rfl⟩
   .refine yca [] [] [(148,0)] ?_;simp only[ybb,h,wk,go_sem,zA,zD]
   .simp only[ycl,yfk,wk,go_sem]
end Sh
end
section
def yll(back:Bool)(g:Gr)(a b:Nat)(w:Int):Gr:=if a=b\/yqd (g.ports.getD a []) b=true then g else ycz back g a b w
namespace Sh
open Ev Go.RowKit
def rowO(l:List (Int×Int)):OB:=⟨68,false,2,l.length,fun k=>[.i .i64 (l.getD k (0,0)).1,.i .i64 (l.getD k (0,0)).2]⟩
def yib(ports:List (List (Int×Int))):Own:=[(211,.one (some ⟨135,false,1,ports.length,fun v=>[.os (212,v) 0 (ports.getD v []).length true]⟩)),
 (212,.many fun v=>if v<ports.length then some (rowO (ports.getD v []))else none)]
def yxh(g:Gr):SV:=.ag [ybb g.ids,.os (211,0) 0 g.ports.length true]
theorem yls{i n:Nat}{x b:OB}(h:(if i<n then some x else none)=some b):i<n/\b=x:=by
 split at h
 .cases h;exact⟨by assumption,rfl⟩
 .cases h
theorem yci(back:Bool)(L:List (Int×Int))(x:Int×Int):(addL back L x).length=L.length+1:=by
 unfold addL;cases back<;>simp
theorem ybjw(L:List (Int×Int))(x:Int×Int){k:Nat}(hk:k<L.length+1):(if k<L.length then[SV.i .i64 (L.getD k (0,0)).1,SV.i .i64 (L.getD k (0,0)).2]else zCB 2 (zCC ((k-L.length)*2) [SV.i .i64 x.1,SV.i .i64 x.2]))=[SV.i .i64 ((addL false L x).getD k (0,0)).1,SV.i .i64 ((addL false L x).getD k (0,0)).2]:=by
 show _=[SV.i .i64 ((L++[x]).getD k (0,0)).1,SV.i .i64 ((L++[x]).getD k (0,0)).2];rw[yegm]
 by_cases h:k<L.length
 .rw[if_pos h,if_pos h]
 .obtain rfl:k=L.length:=by omega
  rw[if_neg h,if_neg h,if_pos rfl,zBK];rfl
theorem yrf(L:List (Int×Int))(x:Int×Int)(k:Nat):(if k<1 then zCB 2 (zCC (k*2) [SV.i .i64 x.1,SV.i .i64 x.2])else[SV.i .i64 (L.getD (k-1) (0,0)).1,SV.i .i64 (L.getD (k-1) (0,0)).2])=[SV.i .i64 ((addL true L x).getD k (0,0)).1,SV.i .i64 ((addL true L x).getD k (0,0)).2]:=by
 show _=[SV.i .i64 ((x::L).getD k (0,0)).1,SV.i .i64 ((x::L).getD k (0,0)).2];cases k with
 |zero=>rfl
 |succ k=>rw[if_neg (by omega)];rfl
theorem cells_one(L:List (Int×Int))(h:L.length=0)(x:Int×Int){k:Nat}(hk:k<1):zCB 2 (zCC (k*2) [SV.i .i64 x.1,SV.i .i64 x.2])=[SV.i .i64 ((addL true L x).getD k (0,0)).1,SV.i .i64 ((addL true L x).getD k (0,0)).2]:=by
 obtain rfl:k=0:=by omega
 rfl
theorem yld {n:Nat}{o:Own}{P':List (List (Int×Int))}(D:P'.length=n) (A:Nat->Nm) {R:Nat->List SV}(m:lookO o (211,0)=some ⟨135,false,1,n,R⟩) (C:∀v,v<n->R v=[.os (A v) 0 (P'.getD v []).length true])
 (B:∀v,v<n->∃q,lookO o (A v)=some ⟨68,false,2,(P'.getD v []).length,q⟩/\∀k,k<(P'.getD v []).length->q k=[.i .i64 ((P'.getD v []).getD k (0,0)).1,.i .i64 ((P'.getD v []).getD k (0,0)).2])
 (t:∀u v,u<n->v<n->A u=A v->u=v) (z:∀v,v<n->A v≠(211,0)) :
 ∃r l,Weak [(211,0)] ⟨[(0,.tp [])],o⟩ ⟨[(0,r)],l⟩/\(cln (live l) 5 r=true/\allQ (fun p=>ycl (live l) p.2) l/\allQ (fun G=>live l G=true) [(211,0)])/\r = .tp []/\l=yib P':=by
 subst D
 have d:∀i,(if i<P'.length then some (rowO (P'.getD i []))else none).isSome=true->i<P'.length:=fun i h=>by
  by_cases q:i<P'.length
  .exact q
  .rw[if_neg q]at h;cases h
 have f:∀i,i<P'.length->live (yib P') (212,i)=true:=fun i t=>by
  show(if i<P'.length then some (rowO (P'.getD i []))else none).isSome=true
  rw[if_pos t];rfl
 refine⟨.tp [],yib P',ybmy [(212,A)] [] [] trivial ⟨.inr ⟨.inr fun e=>⟨rfl,rfl⟩,.inr fun j y e=>?_,trivial⟩,.inr ⟨.inr fun i c e=>?_,.inr fun i c j y e=>⟨rfl,?_⟩,trivial⟩,trivial⟩ ⟨?_,trivial⟩ ⟨?_,fun i b s=>?_,trivial⟩ ⟨⟨rfl,rfl,rfl⟩,trivial⟩,⟨rfl,⟨?_,?_,trivial⟩,rfl,trivial⟩,rfl,rfl⟩
 .exact absurd e.symm (z j (d j y))
 .exact absurd e (z i (d i c))
 .exact t i j (d i c) (d j y) e
 .exact⟨_,rfl,.inl ⟨trivial,Sim.refl _,rfl⟩⟩
 .refine⟨_,m,⟨rfl,rfl,rfl,rfl,rfl⟩,fun e=>absurd (show false=true from e) zAB,fun i c=>?_⟩
  have c:i<P'.length:=c;show telL _ _ _ _ _ (R i) _;rw[C i c];refine⟨.inl ⟨by simp only[go_sem],Sim.refl _,?_⟩,rfl,trivial⟩
  show(live (yib P') (212,i) && !(List.elem 212 []))=true;rw[f i c];rfl
 .obtain⟨c,rfl⟩:=yls s;obtain⟨q,E,F⟩:=B i c;refine⟨_,E,⟨rfl,rfl,rfl,rfl,rfl⟩,fun e=>absurd (show false=true from e) zAB,fun k hk=>?_⟩
  show telL _ _ _ _ _ (q k) _;rw[F k hk];exact⟨.inl ⟨trivial,Sim.refl _,rfl⟩,rfl,.inl ⟨trivial,Sim.refl _,rfl⟩,rfl,trivial⟩
 .intro k hk;have:live (yib P') (212,k)=true:=f k hk;simp only[yib,zCD,List.all_nil,Bool.and_true]at this ⊢;exact this
 .intro i b s k hk;obtain⟨c,rfl⟩:=yls s;rfl
section
variable {x:NetR}{g:Gr}{a b:Nat}{w:Int}
theorem ydoh (A:a<g.ports.length)(C:b<g.ports.length)(M:g.ports.length<=24)(E:∀v,(g.ports.getD v []).length<=1000) :
 Cm zF 48 [(211,0)] (yib g.ports) [.ag (netC x),yxh g,.i .i64 a,.i .i64 b,.i .i64 w] fun r o=>r = .tp []/\o=yib (yll x.back g a b w).ports:=by
 refine ydnu [(211,0)] [] _ _ _ ?_;obtain⟨L,p⟩:∃O,yib (yll x.back g a b w).ports=O:=⟨_,rfl⟩;rw[p]
 by_cases d:a=b
 .subst d;have B:yll x.back g a a w=g:=if_pos (.inl rfl);rw[B]at p;simp only[c48,ydon,ydni,netC,yxh,yib,yhq,go_sem,zA,zB,zD,↓reduceIte,reduceCtorEq];subst p;exact yld rfl (fun v=>(212,v)) rfl (fun v m=>rfl) (fun v m=>⟨_,if_pos m,fun k hk=>rfl⟩) (fun u v _ _ e=>congrArg Prod.snd e) (fun v _ e=>by cases e)
 .have F:((a:Int)==(b:Int))=false:=by rw[beq_eq_false_iff_ne];omega
  have I:=ybuj (ids:=g.ids) (ports:=g.ports) (b:=b) A (by have:=E a;omega)
  simp only[c48,ydon,ydni,netC,yxh,yib,F,clash,go_sem,zA,zB,zD,↓reduceIte,reduceCtorEq];refine .inl ⟨fun q H=>by rw[if_pos H];exact⟨zAD _,fun k hk=>by simp only[rowO,go_sem]⟩,I.useS ?_ ?_⟩
  .refine⟨ybsc ⟨Sim.refl _,?_,trivial⟩,Sim.refl _,Sim.refl _,trivial⟩;refine yej fun q H=>?_;rw[if_pos H];simp only[rowO,yx,go_sem];exact⟨Sim.refl _,trivial⟩
  cases D:yqd (g.ports.getD a []) b with
  | true =>
    have B:yll x.back g a b w=g:=if_pos (.inr D);rw[B]at p;simp only[ybj,clash,yhq,go_sem,zA,zB,↓reduceIte];subst p;exact yld rfl (fun v=>(212,v)) rfl (fun v m=>rfl) (fun v m=>⟨_,if_pos m,fun k hk=>rfl⟩) (fun u v _ _ e=>congrArg Prod.snd e) (fun v _ e=>by cases e)
  | false =>
    have B:yll x.back g a b w=ycz x.back g a b w:=if_neg (fun q=>by rcases q with q|q;exact d q;rw[D]at q;cases q)
    rw[B]at p;subst p;have s:¬b=a:=fun e=>d e.symm;have l:(ycz x.back g a b w).ports.length=g.ports.length:=by simp[ycz]
    have f:=yez x.back g w A C;obtain⟨G',z⟩:∃G,(ycz x.back g a b w).ports=G:=⟨_,rfl⟩;rw[z]at l ⊢;have f:∀v,G'.getD v []=if v=b then addL x.back (g.ports.getD b []) (a,w)else if v=a then addL x.back (g.ports.getD a []) (b,w)else g.ports.getD v []:=fun v=>by rw[<-z];exact f v
    clear z B
    obtain⟨N,P,Q,R,S,back⟩:=x;have J:=E a;have K:=E b;cases back with
    | false =>
      simp only[ybj,clash,ybxi,ybyl,yedj,rowO,if_pos A,if_pos C,d,s,yhq,and_false,go_sem,zA,zB,zG,zD,↓reduceIte,reduceCtorEq];refine⟨⟨by omega,by omega⟩,by omega,⟨by omega,by omega⟩,by decide,⟨by omega,by omega⟩,by omega,⟨by omega,by omega⟩,by decide,⟨by omega,by omega⟩,by omega,by decide,⟨by omega,by omega⟩,by omega,by decide,?_⟩
      refine yld l (fun v=>if v=b then(74,0)else if v=a then(66,0)else(212,v)) rfl (fun v m=>?_) (fun v m=>?_) (fun u v _ _ e=>?_) (fun v _ e=>?_)
      .rw[f v]
       by_cases q:v=b
       .simp only[if_pos q,yci]
       .by_cases c:v=a
        .simp only[if_neg q,if_pos c,yci]
        .simp only[if_neg q,if_neg c]
      .rw[f v]
       by_cases q:v=b
       .simp only[if_pos q,yci];exact⟨_,rfl,fun k hk=>ybjw _ (_,_) hk⟩
       .by_cases c:v=a
        .simp only[if_neg q,if_pos c,yci];exact⟨_,rfl,fun k hk=>ybjw _ (_,_) hk⟩
        .simp only[if_neg q,if_neg c];refine⟨fun k=>[.i .i64 ((g.ports.getD v []).getD k (0,0)).1,.i .i64 ((g.ports.getD v []).getD k (0,0)).2],?_,fun k hk=>rfl⟩;show(if v=b then none else if v=a then none else if v<g.ports.length then some _ else none)=some _
         rw[if_neg q,if_neg c,if_pos m]
      .by_cases q:u=b<;>by_cases c:u=a<;>by_cases t:v=b<;>by_cases y:v=a<;>simp[q,c,t,y,d]at e ⊢<;>omega
      .by_cases q:v=b<;>by_cases c:v=a<;>simp[q,c,d]at e
    | true =>
      by_cases j:(g.ports.getD a []).length=0
      .by_cases h:(g.ports.getD b []).length=0
       .simp only[ybj,clash,ybxi,ybyl,ybzl,ycdr,rowO,if_pos A,if_pos C,s,yhq,and_false,j,h,go_sem,zA,zB,zG,zD,zBH,↓reduceIte,reduceCtorEq]
        repeat' apply zBL
        all_goals first|omega|decide|skip
        refine yld l (fun v=>if v=b then(45,0)else if v=a then(33,0)else(212,v)) rfl (fun v m=>?_) (fun v m=>?_) (fun u v _ _ e=>?_) (fun v _ e=>?_)
        .rw[f v]
         by_cases q:v=b
         .simp only[if_pos q,yci,h,zY]
         .by_cases c:v=a
          .simp only[if_neg q,if_pos c,yci,j,zY]
          .simp only[if_neg q,if_neg c]
        .rw[f v]
         by_cases q:v=b
         .simp only[if_pos q,yci,h,zY];exact⟨_,rfl,fun k hk=>cells_one _ h (_,_) hk⟩
         .by_cases c:v=a
          .simp only[if_neg q,if_pos c,yci,j,zY];exact⟨_,rfl,fun k hk=>cells_one _ j (_,_) hk⟩
          .simp only[if_neg q,if_neg c];refine⟨fun k=>[.i .i64 ((g.ports.getD v []).getD k (0,0)).1,.i .i64 ((g.ports.getD v []).getD k (0,0)).2],?_,fun k hk=>rfl⟩;show(if v<g.ports.length then some _ else none)=some _
           rw[if_pos m]
        .by_cases q:u=b<;>by_cases c:u=a<;>by_cases t:v=b<;>by_cases y:v=a<;>simp[q,c,t,y,d]at e ⊢<;>omega
        .by_cases q:v=b<;>by_cases c:v=a<;>simp[q,c,d]at e
       .simp only[ybj,clash,ybxi,ybyl,ybzl,ycdr,rowO,if_pos A,if_pos C,s,yhq,and_false,j,h,go_sem,zA,zB,zG,zD,zBH,↓reduceIte,reduceCtorEq]
        repeat' apply zBL
        all_goals first|omega|decide|skip
        refine yld l (fun v=>if v=b then(51,0)else if v=a then(33,0)else(212,v)) rfl (fun v m=>?_) (fun v m=>?_) (fun u v _ _ e=>?_) (fun v _ e=>?_)
        .rw[f v]
         by_cases q:v=b
         .simp only[if_pos q,yci,zN]
         .by_cases c:v=a
          .simp only[if_neg q,if_pos c,yci,j,zY,zN]
          .simp only[if_neg q,if_neg c]
        .rw[f v]
         by_cases q:v=b
         .simp only[if_pos q,yci];exact⟨_,congrArg some (congrArg (fun n=>OB.mk _ _ _ n _) (zN _ _)),fun k hk=>yrf _ (_,_) k⟩
         .by_cases c:v=a
          .simp only[if_neg q,if_pos c,yci,j,zY];exact⟨_,rfl,fun k hk=>cells_one _ j (_,_) hk⟩
          .simp only[if_neg q,if_neg c];refine⟨fun k=>[.i .i64 ((g.ports.getD v []).getD k (0,0)).1,.i .i64 ((g.ports.getD v []).getD k (0,0)).2],?_,fun k hk=>rfl⟩;show(if v<g.ports.length then some _ else none)=some _
           rw[if_pos m]
        .by_cases q:u=b<;>by_cases c:u=a<;>by_cases t:v=b<;>by_cases y:v=a<;>simp[q,c,t,y,d]at e ⊢<;>omega
        .by_cases q:v=b<;>by_cases c:v=a<;>simp[q,c,d]at e
      .by_cases h:(g.ports.getD b []).length=0
       .simp only[ybj,clash,ybxi,ybyl,ybzl,ycdr,rowO,if_pos A,if_pos C,s,yhq,and_false,j,h,go_sem,zA,zB,zG,zD,zBH,↓reduceIte,reduceCtorEq]
        repeat' apply zBL
        all_goals first|omega|decide|skip
        refine yld l (fun v=>if v=b then(45,0)else if v=a then(39,0)else(212,v)) rfl (fun v m=>?_) (fun v m=>?_) (fun u v _ _ e=>?_) (fun v _ e=>?_)
        .rw[f v]
         by_cases q:v=b
         .simp only[if_pos q,yci,h,zY,zN]
         .by_cases c:v=a
          .simp only[if_neg q,if_pos c,yci,zN]
          .simp only[if_neg q,if_neg c]
        .rw[f v]
         by_cases q:v=b
         .simp only[if_pos q,yci,h,zY];exact⟨_,rfl,fun k hk=>cells_one _ h (_,_) hk⟩
         .by_cases c:v=a
          .simp only[if_neg q,if_pos c,yci];exact⟨_,congrArg some (congrArg (fun n=>OB.mk _ _ _ n _) (zN _ _)),fun k hk=>yrf _ (_,_) k⟩
          .simp only[if_neg q,if_neg c];refine⟨fun k=>[.i .i64 ((g.ports.getD v []).getD k (0,0)).1,.i .i64 ((g.ports.getD v []).getD k (0,0)).2],?_,fun k hk=>rfl⟩;show(if v<g.ports.length then some _ else none)=some _
           rw[if_pos m]
        .by_cases q:u=b<;>by_cases c:u=a<;>by_cases t:v=b<;>by_cases y:v=a<;>simp[q,c,t,y,d]at e ⊢<;>omega
        .by_cases q:v=b<;>by_cases c:v=a<;>simp[q,c,d]at e
       .simp only[ybj,clash,ybxi,ybyl,ybzl,ycdr,rowO,if_pos A,if_pos C,s,yhq,and_false,j,h,go_sem,zA,zB,zG,zD,↓reduceIte,reduceCtorEq]
        repeat' apply zBL
        all_goals first|omega|decide|skip
        refine yld l (fun v=>if v=b then(51,0)else if v=a then(39,0)else(212,v)) rfl (fun v m=>?_) (fun v m=>?_) (fun u v _ _ e=>?_) (fun v _ e=>?_)
        .rw[f v]
         by_cases q:v=b
         .simp only[if_pos q,yci,zN]
         .by_cases c:v=a
          .simp only[if_neg q,if_pos c,yci,zN]
          .simp only[if_neg q,if_neg c]
        .rw[f v]
         by_cases q:v=b
         .simp only[if_pos q,yci];exact⟨_,congrArg some (congrArg (fun n=>OB.mk _ _ _ n _) (zN _ _)),fun k hk=>yrf _ (_,_) k⟩
         .by_cases c:v=a
          .simp only[if_neg q,if_pos c,yci];exact⟨_,congrArg some (congrArg (fun n=>OB.mk _ _ _ n _) (zN _ _)),fun k hk=>yrf _ (_,_) k⟩
          .simp only[if_neg q,if_neg c];refine⟨fun k=>[.i .i64 ((g.ports.getD v []).getD k (0,0)).1,.i .i64 ((g.ports.getD v []).getD k (0,0)).2],?_,fun k hk=>rfl⟩;show(if v<g.ports.length then some _ else none)=some _
           rw[if_pos m]
        .by_cases q:u=b<;>by_cases c:u=a<;>by_cases t:v=b<;>by_cases y:v=a<;>simp[q,c,t,y,d]at e ⊢<;>omega
        .by_cases q:v=b<;>by_cases c:v=a<;>simp[q,c,d]at e
end
end Sh
end
section
theorem ybwy{back:Bool}{g:Gr}{a b:Nat}{w:Int}(c:ybi g)(d:a<g.ports.length)(f:b<g.ports.length)(j:1<=w/\w<=15):ybi (yll back g a b w)/\(yll back g a b w).ids=g.ids/\(yll back g a b w).ports.length=g.ports.length:=by
 unfold yll
 by_cases h:a=b\/yqd (g.ports.getD a []) b=true
 .rw[if_pos h];exact⟨c,rfl,rfl⟩
 .rw[if_neg h];refine⟨ybis c d f (fun e=>h (.inl e)) j fun l i e=>h (.inr (List.any_eq_true.2 ⟨l,i,decide_eq_true e⟩)),rfl,by simp[ycz]⟩
theorem ybzz{back:Bool}{g:Gr}{a b:Nat}{w:Int}(c:a<g.ports.length)(d:b<g.ports.length){m:Nat}(h:Tre g m):Tre (yll back g a b w) m:=by
 unfold yll;split
 .exact h
 .exact h.add c d
theorem ycim{back:Bool}{g:Gr}{a b:Nat}{w:Int}(d:a<g.ports.length)(f:b<g.ports.length)(c:a≠b):adj (yll back g a b w) a b:=by
 unfold yll;split
 .rename_i h
  rcases h with h|h
  .exact absurd h c
  .obtain⟨l,i,e⟩:=List.any_eq_true.1 h;exact ypk.2 ⟨l,i,of_decide_eq_true e⟩
 .exact yblv d f c
theorem ybpt:∀(l:List Nat) (i x:Nat) (h:i<l.length),(l.set i x).sum+l[i]=l.sum+x
 |a::l,0,x,_=>by simp;omega
 | a::l,i+1,x,h=>by
   have:=ybpt l i x (by simpa using h)
   simp only[List.set_cons_succ,List.sum_cons,List.getElem_cons_succ];omega
theorem ybwq{back:Bool}{g:Gr}{a b:Nat}{w:Int}(e:a<g.ports.length)(f:b<g.ports.length)(c:a≠b):yit (ycz back g a b w)=yit g+2:=by
 unfold yit ycz;simp only[List.map_set,Sh.yci];have h:=ybpt (g.ports.map zBP) a ((g.ports.getD a []).length+1) (by simpa using e)
 have i:=ybpt ((g.ports.map zBP).set a ((g.ports.getD a []).length+1)) b ((g.ports.getD b []).length+1) (by simpa using f)
 rw[List.getElem_set_ne c,zAW,<-Sh.getD_at f (d:=[])]at i;rw[zAW,<-Sh.getD_at e (d:=[])]at h;omega
def WtF(x:NetR)(g:Gr):Prop:=∀v l,l∈g.ports.getD v []->∃i,l.2=1+yei (atP x.weights i) 15
theorem ycsd{x:NetR}{back:Bool}{g:Gr}{a b:Nat}{w:Int}(e:a<g.ports.length)(f:b<g.ports.length)(d:∃i,w=1+yei (atP x.weights i) 15)(h:WtF x g):WtF x (yll back g a b w):=by
 unfold yll;split
 .exact h
 .intro v l c;rw[yez back g w e f]at c;split at c
  .rcases yfm.1 c with rfl|c
   .exact d
   .exact h _ _ c
  .split at c
   .rcases yfm.1 c with rfl|c
    .exact d
    .exact h _ _ c
   .exact h _ _ c
structure TreeTo(x:NetR)(v:Nat)(g:Gr):Prop where
 tre:Tre g v
 wt:WtF x g
 none_:∀u,v<=u->g.ports.getD u []=[]
 count:yit g+2=2*v
theorem ytp(ids:List Int)(v:Nat):(bare ids).ports.getD v []=[]:=by
 unfold bare;rw[zM,List.getElem?_replicate];split<;>rfl
theorem TreeTo.zero(x:NetR)(ids:List Int):TreeTo x 1 (bare ids):=by
 refine⟨fun v b c=>by omega,fun v l a=>?_,fun u _=>ytp ids u,?_⟩
 .rw[ytp]at a;exact absurd a zAH
 .have:yit (bare ids)=0:=by
   unfold yit bare;simp
  omega
theorem TreeTo.succ{x:NetR}{v:Nat}{g:Gr}(n:ybi g)(h:TreeTo x v g)(f:v<g.ports.length)(s:1<=v){a:Nat}(m:a<v){w:Int}(r:∃i,w=1+yei (atP x.weights i) 15):TreeTo x (v+1) (yll x.back g a v w):=by
 have c:=ycim (back:=x.back) (g:=g) (a:=a) (b:=v) (w:=w) (by omega) (by omega) (by omega)
 have j:¬(a=v\/yqd (g.ports.getD a []) v=true):=by
  rintro(e|e)
  .omega
  .obtain⟨l,o,e⟩:=List.any_eq_true.1 e;have e:=of_decide_eq_true e;have:adj g v a:=n.adj_symm (ypk.2 ⟨l,o,e⟩);obtain⟨t,d,_⟩:=ypk.1 this;rw[h.none_ v (zAD _)]at d;exact absurd d zAH
 have e:yll x.back g a v w=ycz x.back g a v w:=by unfold yll;rw[if_neg j]
 refine⟨fun u k p=>?_,ycsd (by omega) f r h.wt,fun u p=>?_,?_⟩
 .by_cases q:u=v
  .subst q;exact⟨a,m,c⟩
  .exact ybzz (by omega) f h.tre u k (by omega)
 .rw[e,yez x.back g w (by omega) f,if_neg (by omega),if_neg (by omega)]
  exact h.none_ u (by omega)
 .rw[e,ybwq (by omega) f (by omega)]
  have:=h.count;omega
namespace Sh
open Ev Go.RowKit
theorem ycoh{n:Nat}{P:List (List (Int×Int))}{f:SV->SV}(a:∀k z,f (.i k z) = .i k z){i:Nat}(c:i<n):(match (if i<n then some (rowO (P.getD i []))else none)with|some b=>some (⟨b.e,b.bx,b.z,b.n,fun k=>(b.g k).map f⟩:OB)|none=>none)=some (rowO (P.getD i [])):=by
 rw[if_pos c];simp[rowO,a]
theorem ydmi{x:NetR}(T:x.ok){most:Nat}(hm:1<=most/\most<=24) :
 Cm zF 10 [] [] [.ag (netC x),.i .i64 most] fun r o=>∃g,ybi g/\TreeTo x g.ports.length g/\(g.ports.length<=most/\(g.ports.length:Int)=1+yei (IntKind.wrap .i64 (x.n-1)) most/\ybhk x g.ids)/\r=yxh g/\o=yib g.ports:=by
 refine ydog [] [47,48] _ _ _ ?_;have R:=ycqp T hm;obtain⟨a1,O,P,a2⟩:=T;simp only[netC]at R;simp only[c10,yedw,yeje,netC,go_sem,zA,zB,zD,↓reduceIte,reduceCtorEq];refine yek R [(17,117)] 0 [2,4] [2,4] ?_ ?_
 .simp only[to1,okN,ycl,yfk,yee,ydu,wk,go_sem,zA,zB,zT,↓reduceIte,reduceCtorEq]
 rintro r o' ⟨c,Q,X,Y,rfl,rfl⟩;obtain⟨n,J⟩:∃n,c.length=n:=⟨_,rfl⟩;rw[J]at Q;simp only[J,yoy,ymh,nuF,nu,difN,yee,ydu,Fam.ren,OB.ren,dim,yehe,yczb,ykv,go_sem,zA,zB,zD,zT,↓reduceIte];simp only[yegf,go_sem]
 refine ybe (σ:=Nat×Gr) (fun q=>⟨[(6,.i .i64 q.1),(5,.pt (5,0) 0 0),(2,.pt (2,0) 0 0),(4,.pt (4,0) 0 0)],
  (5,.one (some ⟨27,true,2,1,fun _=>[ybb q.2.ids,.os (211,0) 0 n true]⟩))::(2,.one (some ⟨24,true,6,1,fun _=>netC x⟩))::(4,.one (some ⟨27,true,2,1,fun _=>[.a (.slice none 0 0),.a (.slice none 0 0)]⟩))::yib q.2.ports⟩)
  (fun q=>ybi q.2/\q.2.ports.length=n/\TreeTo x q.1 q.2/\1<=q.1/\q.1<=n/\q.2.ids=c) (fun q=>n-q.1) (1,bare c) ⟨ybzg (by omega) (by omega) X Y,by simp[bare,J],TreeTo.zero x c,by omega,by omega,rfl⟩ ?_ ?_
 .refine yca [(211,fun i=>(117,i))] [212] [] ?_;have U:(bare c).ids=c:=rfl;have V:(bare c).ports.length=n:=by simp[bare,J]
  have W:∀v,(bare c).ports.getD v []=[]:=ytp c;simp only[netC,yib,rowO,U,V,W,zAL,wk,go_sem,zA,zD,zT,↓reduceIte,reduceCtorEq];refine⟨rfl,fun i d=>⟨(212,i),rfl,rfl,by simp[d]⟩,fun i b p=>?_⟩
  obtain⟨_,rfl⟩:=yls p;exact⟨rfl,rfl⟩
 .rintro⟨v,g⟩ ⟨z,h,s,y,I,E⟩;have z:ybi g:=z;have h:g.ports.length=n:=h;have s:TreeTo x v g:=s;have y:1<=v:=y;have I:v<=n:=I
  by_cases a0:v<n
  .have N:decide ((v:Int)<(n:Int))=true:=decide_eq_true (by omega)
   have H:(v:Int)-1=((v-1:Nat):Int):=by omega
   have K:=at_ret x.links (v-1);have L:=at_ret x.weights (v-1);have F:=yon (v:=atP x.links (v-1)) (m:=(v:Int)) (by omega)
   have M:=yon (v:=atP x.weights (v-1)) (m:=15) (by omega)
   have C:=yol (atP x.links (v-1)) v (by omega) (O _)
   have D:=yol (atP x.weights (v-1)) 15 (by omega) (P _)
   obtain⟨a,ha⟩:∃a:Nat,yei (atP x.links (v-1)) v=a:=zAF F.1;obtain⟨w,S⟩:∃w:Int,yei (atP x.weights (v-1)) 15=w:=⟨_,rfl⟩;rw[ha]at C F;rw[S]at D M;have hL:=ydoh (x:=x) (g:=g) (a:=a) (b:=v) (w:=1+w) (by omega) (by omega) (by omega) (fun u=>by have:=z.deg_lt (v:=u);omega)
   simp only[ydte,yeao,ydzj,netC,yib,N,H,clash,go_sem,zA,zB,zG,zT,↓reduceIte,reduceCtorEq];refine⟨ikw (by omega) (by omega),K.use ?_⟩
   simp only[ybj,clash,go_sem,zA,zB,zG,zT,↓reduceIte,reduceCtorEq];refine C.use ?_;simp only[H,go_sem];refine⟨ikw (by omega) (by omega),L.use ?_⟩
   simp only[go_sem,↓reduceIte];refine D.use ?_;simp only[go_sem,zA,zT,↓reduceIte];refine⟨ikw (by omega) (by omega),yek hL [(211,211),(212,212)] 0 [2,4,5,6] [2,4,5] ?_ ?_⟩
   .simp only[netC,yxh,yib,h,to1,okN,ycl,yfk,yee,ydu,wk,go_sem,zA,zB,zD,zT,↓reduceIte,reduceCtorEq];refine⟨⟨fun i _ j _ e=>e,fun i d=>by rw[if_pos d],fun i b p=>?_⟩,by decide⟩
    obtain⟨d,rfl⟩:=yls p;exact⟨_,if_pos d,⟨rfl,rfl,rfl,rfl⟩,fun e=>absurd (show false=true from e) zAB,fun k hk=>by simp only[rowO,wk,go_sem,reduceCtorEq]⟩
   .rintro r o' ⟨rfl,rfl⟩;simp only[yib,yoy,ymh,nuF,nu,difN,yee,ydu,Fam.ren,OB.ren,dim,yqw,ykv,go_sem,zA,zB,zT,↓reduceIte,reduceCtorEq];obtain⟨A,t,l⟩:=ybwy (back:=x.back) (a:=a) (b:=v) (w:=1+w) z (by omega) (by omega) (by omega)
    have B:=s.succ z (by omega) y (a:=a) (by omega) (w:=1+w) ⟨v-1,by rw[S]⟩
    obtain⟨G,Z⟩:∃G,yll x.back g a v (1+w)=G:=⟨_,rfl⟩;rw[Z]at A t l B ⊢;rw[h]at l;refine⟨ikw (by omega) (by omega),yu (v+1,G) ⟨A,l,B,by omega,by omega,t.trans E⟩ (by show n-(v+1)<n-v;omega) ?_⟩
    .refine yj ?_;simp only[l,t,wk,go_sem,zA,zD,↓reduceIte,reduceCtorEq];refine⟨fun i _ j _ e=>e,by omega,fun i d=>by rw[if_pos d],fun i b p=>?_⟩
     obtain⟨d,rfl⟩:=yls p;refine⟨_,ycoh (f:=ren (nu [(211,211),(212,212)] 0) 5) (fun _ _=>rfl) d,⟨rfl,rfl,rfl,rfl⟩,fun e=>absurd (show false=true from e) zAB,fun k hk=>?_⟩
     simp only[rowO,wk,go_sem,reduceCtorEq]
  .obtain rfl:v=n:=by omega
   have N:decide ((v:Int)<(v:Int))=false:=decide_eq_false (by omega)
   simp only[ydte,yeey,netC,yib,N,clash,splice,yhq,go_sem,zA,zB,↓reduceIte,reduceCtorEq];refine⟨yxh g,yib g.ports,?_,?_,g,z,by rw[h];exact s,⟨by omega,by omega,by rw[show g.ids=c from E];exact Q.2.2.2⟩,rfl,rfl⟩
   .refine yj ?_;simp only[yib,yxh,h,wk,go_sem,zA,zD,↓reduceIte,reduceCtorEq];refine⟨fun i _ j _ e=>e,fun i d=>by rw[if_pos d],fun i b p=>?_⟩
    obtain⟨d,rfl⟩:=yls p;exact⟨_,if_pos d,⟨rfl,rfl,rfl,rfl⟩,fun e=>absurd (show false=true from e) zAB,fun k hk=>by simp only[rowO,wk,go_sem,reduceCtorEq]⟩
   .simp only[yib,yxh,ycl,yfk,wk,go_sem,zA,↓reduceIte];refine⟨fun i d=>by rw[if_pos d],fun i b p k hk=>?_⟩
    obtain⟨d,rfl⟩:=yls p;simp only[rowO,go_sem]
end Sh
end
section
namespace Sh
open Ev Go.RowKit
end Sh
end
section
namespace Sh
open Ev Go.RowKit
theorem ycrz(l:List Nat):one1 (usV l)=true:=rfl
theorem ycnf{n:Nat}(l:List Nat):owned (n+1) (usV l)=false:=rfl
theorem ybup{n:Nat}(l:List Nat):scalar (n+1) (usV l)=false:=rfl
theorem ycsa{n:Nat}(o:Own)(l:List Nat):view o (n+1) (usV l)=usV l:=rfl
theorem ydrr{n:Nat}(o:Own)(l:List Nat):vok o (n+1) (usV l)=True:=rfl
theorem ydud{n:Nat}(h:Nm->Nm)(l:List Nat):ren h (n+1) (usV l)=usV l:=rfl
theorem ydmd{n:Nat}(D:Nm->Bool)(l:List Nat):cln D (n+1) (usV l)=true:=rfl
theorem ycmc{n:Nat}(a:List Nm)(o:Own)(l:List Nat):ydw a o (n+1) (usV l)=usV l:=rfl
theorem ydrc{n:Nat}(a:List Nm)(o:Own)(l:List Nat):pok a o (n+1) (usV l)=True:=rfl
theorem ycfr(l:List Nat):SV.cells (usV l)=[usV l]:=rfl
theorem ybnz(l:List Conf):one1 (yjj l)=true:=rfl
theorem ybgr{n:Nat}(l:List Conf):owned (n+1) (yjj l)=false:=rfl
theorem ybfv{n:Nat}(l:List Conf):scalar (n+1) (yjj l)=false:=rfl
theorem ybms{n:Nat}(o:Own)(l:List Conf):view o (n+1) (yjj l)=yjj l:=rfl
theorem ybye{n:Nat}(o:Own)(l:List Conf):vok o (n+1) (yjj l)=True:=rfl
theorem ybxn{n:Nat}(h:Nm->Nm)(l:List Conf):ren h (n+1) (yjj l)=yjj l:=rfl
theorem ybxr{n:Nat}(D:Nm->Bool)(l:List Conf):cln D (n+1) (yjj l)=true:=rfl
theorem ybhq{n:Nat}(a:List Nm)(o:Own)(l:List Conf):ydw a o (n+1) (yjj l)=yjj l:=rfl
theorem ybus{n:Nat}(a:List Nm)(o:Own)(l:List Conf):pok a o (n+1) (yjj l)=True:=rfl
theorem yblb(l:List Conf):SV.cells (yjj l)=[yjj l]:=rfl
theorem ybve(l:List Cnt):one1 (ysf l)=true:=rfl
theorem ybmr{n:Nat}(l:List Cnt):owned (n+1) (ysf l)=false:=rfl
theorem ybkq{n:Nat}(l:List Cnt):scalar (n+1) (ysf l)=false:=rfl
theorem ybwu{n:Nat}(o:Own)(l:List Cnt):view o (n+1) (ysf l)=ysf l:=rfl
theorem ycjj{n:Nat}(o:Own)(l:List Cnt):vok o (n+1) (ysf l)=True:=rfl
theorem yckq{n:Nat}(h:Nm->Nm)(l:List Cnt):ren h (n+1) (ysf l)=ysf l:=rfl
theorem ycgd{n:Nat}(D:Nm->Bool)(l:List Cnt):cln D (n+1) (ysf l)=true:=rfl
theorem ybpm{n:Nat}(a:List Nm)(o:Own)(l:List Cnt):ydw a o (n+1) (ysf l)=ysf l:=rfl
theorem ycmb{n:Nat}(a:List Nm)(o:Own)(l:List Cnt):pok a o (n+1) (ysf l)=True:=rfl
theorem ybnq(l:List Cnt):SV.cells (ysf l)=[ysf l]:=rfl
theorem ycot(l:List Bool):one1 (blV l)=true:=rfl
theorem ycba{n:Nat}(l:List Bool):owned (n+1) (blV l)=false:=rfl
theorem ybvo{n:Nat}(l:List Bool):scalar (n+1) (blV l)=false:=rfl
theorem ycsj{n:Nat}(o:Own)(l:List Bool):view o (n+1) (blV l)=blV l:=rfl
theorem ydrn{n:Nat}(o:Own)(l:List Bool):vok o (n+1) (blV l)=True:=rfl
theorem ydrb{n:Nat}(h:Nm->Nm)(l:List Bool):ren h (n+1) (blV l)=blV l:=rfl
theorem ydrs{n:Nat}(D:Nm->Bool)(l:List Bool):cln D (n+1) (blV l)=true:=rfl
theorem yccb{n:Nat}(a:List Nm)(o:Own)(l:List Bool):ydw a o (n+1) (blV l)=blV l:=rfl
theorem ydqp{n:Nat}(a:List Nm)(o:Own)(l:List Bool):pok a o (n+1) (blV l)=True:=rfl
theorem ycmn(l:List Bool):SV.cells (blV l)=[blV l]:=rfl
attribute [go_sem] ycrz ycnf ybup ycsa ydrr ydud ydmd ycmc ydrc ycfr ybnz ybgr ybfv ybms ybye ybxn ybxr ybhq ybus yblb ybve ybmr ybkq ybwu ycjj yckq ycgd ybpm ycmb ybnq ycot ycba ybvo ycsj ydrn ydrb ydrs yccb ydqp ycmn
theorem Ct.found{P:Program}{g:FuncId}{args:List SV}{f:Type}{R:SV->f->Prop}{V:f->SV}{Q:SV->Prop}(h:Ct P g args fun r=>∃x,R r x)(n:∀r x,R r x->Sim r (V x))(l:∀r x,R r x->Q (V x)):Ct P g args Q:=fun G m p i j k=>by
 obtain⟨v,o,r,a,b,c,⟨x,d⟩,e⟩:=h G m p i j k;exact⟨v,o,V x,a,b,c,l r x d,n r x d _ _ _ e⟩
structure RunD(S:Sys)(res:Nat->Nat->Nat)(ws:List Nat)(c:Conf)(n:Nat)(Cs:List Conf)(Ks:List Cnt):Prop where
 cs:(S.runs res ws c).map (·.1)=Cs
 ks:(S.runs res ws c).map (·.2)=Ks
 len:(S.runs res ws c).length=n
 pos:0<n
 le:n<=ws.length+1
end Sh
end
section
namespace Sh
end Sh
end
section
section
variable {nm np na nb nw:ByteArray}{g:Gr}{c:Conf}{u v s:Nat}
end
end
section
section
variable {nm np na nb nw:ByteArray}{g:Gr}{c:Conf}{u v s:Nat}
def yemk(g:Gr)(s:Nat):List Nat:=(zJ g.ids.length).filter s.testBit
theorem ybpz{a:Type}(f:a->Bool)(l:List a)(x:a):((l++[x]).filter f).length=(l.filter f).length+(f x).toNat:=by
 rw[zAP,zAA];cases h:f x<;>simp[h]
theorem yvi(s:Nat):∀n,yhs s n=((zJ n).filter s.testBit).length
 |0=>rfl
 | n+1=>by
   rw[zAX,ybpz,<-yvi s n];rfl
structure MtJ(nm np na nb nw:ByteArray)(g:Gr)(c:Conf)(k:Cnt):Prop where
 valid:yfe (yeaz nm np na nb nw) g c=true
 moves:∃I,PtI g (toP g c) I/\2*k.moves+potN g (toP g c) I<=2*g.ports.length+2*yit g
end
end
section
theorem ydns{s n:Nat}:yhs s n=1↔∃v,v<n/\∀i,i<n->(s.testBit i=true↔i=v):=by
 rw[yvi];have mem:∀i,i∈(zJ n).filter s.testBit↔i<n/\s.testBit i=true:=fun i=>by rw[zBT,zBX]
 constructor
 .intro h;obtain⟨a,f⟩:=List.length_eq_one_iff.1 h;rw[f]at mem;have b:=(mem a).1 zV;refine⟨a,b.1,fun i j=>⟨fun g=>?_,fun e=>by rw[e];exact b.2⟩⟩
  have:=(mem i).2 ⟨j,g⟩
  simpa using this
 .rintro⟨v,c,h⟩
  have d:=ykh (l1:=(zJ n).filter s.testBit) (l2:=[v]) (List.nodup_range.filter _) fun x k=>by
   have:=(mem x).1 k;rw[(h x this.1).1 this.2];exact zV
  have l:=List.length_pos_of_mem ((mem v).2 ⟨c,(h v c).2 rfl⟩);simp only[zBQ,zAL]at d;omega
def ledB(c:Conf)(k:Nat):Nat:=(zJ k).foldl (fun s v=>s|||(lAt c v).toNat*2^v) 0
theorem ycam{c:Conf}(n:Nat)(d:∀v,v<n->lAt c v=0\/lAt c v=1):∀k,k<=n->∀i,(ledB c k).testBit i=true↔i<k/\lAt c i=1
 |0,_,i=>⟨fun h=>by simp[ledB]at h,fun h=>absurd h.1 (zZ _)⟩
 | k + 1,hk,i=>by
   have e:ledB c (k+1)=ledB c k|||(lAt c k).toNat*2^k:=by unfold ledB;rw[zAX,zBN];rfl
   rw[e,zBY,zBU,ycam n d k (by omega) i]
   rcases d k (by omega)with q|q
   .rw[q];simp only[Int.toNat_zero,Nat.zero_mul,Nat.zero_testBit,Bool.false_eq_true,or_false];constructor
    .rintro⟨a,b⟩;exact⟨by omega,b⟩
    .rintro⟨a,b⟩;refine⟨?_,b⟩
     by_cases r:i=k
     .subst r;omega
     .omega
   .rw[q];have:(1:Int).toNat*2^k=2^k:=by rw[show(1:Int).toNat=1 from rfl,Nat.one_mul]
    rw[this,zBJ,decide_eq_true_iff];constructor
    .rintro(⟨a,b⟩|a)
     .exact⟨by omega,b⟩
     .subst a;exact⟨by omega,q⟩
    .rintro⟨a,b⟩
     by_cases r:k=i
     .exact .inr r
     .exact .inl ⟨by omega,b⟩
theorem ycpu{g:Gr}(h:Tr g){c:Conf}(n:ElC g c)(m:yhv g c):(yhs (ledB c g.ids.length) 32=1/\∀i,(ledB c g.ids.length).testBit i=true->i<g.ports.length/\Peak g i)↔yua g c:=by
 have p:=h.good.2.2.1;have l:=h.good.2.1;have a:=ycam g.ids.length (c:=c) (fun v f=>(n.row v f).2.2) g.ids.length (zAD _);rw[ydns];constructor
 .rintro⟨⟨v,f,j⟩,k⟩;have b:=(j v f).2 rfl;have d:=(a v).1 b;exact⟨m,v,d.1,(k v b).2,d.2,fun u q e=>(j u (by omega)).1 ((a u).2 ⟨q,e⟩)⟩
 .rintro⟨_,v,f,o,j,k⟩;refine⟨⟨v,by omega,fun i r=>⟨fun b=>?_,fun e=>?_⟩⟩,fun i b=>?_⟩
  .have:=(a i).1 b;exact k i this.1 this.2
  .rw[e];exact(a v).2 ⟨f,j⟩
  .have:=(a i).1 b;rw[k i this.1 this.2];exact⟨by omega,o⟩
end
section
def yho(g:Gr)(c:Conf):Bool:=yeb g&&yxr g.ports.length (yeg g [(g.ids.length:Int),1]) c
def ycmx(g:Gr)(c:Conf):Bool:=(zJ c.length).all fun v=>!(hAt c v != htP g v)
def ycew(g:Gr)(c:Conf):Bool:=((popP (ledB c c.length):Int)==1)&&((difB (ledB c c.length) (ykr (htP g) g):Int)==0)
def ygy(g:Gr)(c:Conf):Bool:=yho g c&&(ycmx g c&&ycew g c)
theorem yya{g:Gr}{c:Conf}(h:yho g c=true):yeb g=true/\c.length=g.ports.length/\∀v,v<c.length->(c.getD v []).length=2/\(0<=hAt c v/\hAt c v<=g.ids.length)/\(lAt c v=0\/lAt c v=1):=by
 unfold yho at h;rw[zC]at h;have b:=(ygh _ _ _).1 h.2;refine⟨h.1,b.1,fun v i=>?_⟩;have a:=b.2 v _ (zO i);have e:c[v]=c.getD v []:=by rw[Sh.getD_at i]
 rw[e]at a;have d:¬(g.ids.length:Int) = -1:=by omega
 have j:yeg g [(g.ids.length:Int),1] v=[(0,(g.ids.length:Int)),(0,1)]:=by simp[yeg,d]
 rw[j]at a;have l:(c.getD v []).length=2:=a.1;have f:=a.2 0 (0,(g.ids.length:Int)) (hAt c v) rfl (by unfold hAt;rw[Sh.getD_at (show 0<(c.getD v []).length by omega)];exact zO _)
 have k:=a.2 1 (0,1) (lAt c v) rfl (by unfold lAt;rw[Sh.getD_at (show 1<(c.getD v []).length by omega)];exact zO _)
 simp only at f k;exact⟨l,f,by omega⟩
theorem yeig{g:Gr}{c:Conf}(b:ybi g)(h:yho g c=true):ElC g c:=by
 obtain⟨_,e,a⟩:=yya h;have d:=b.2.2.1;exact⟨by omega,fun v f=>a v (by omega)⟩
section
variable {nm nh nl nf nd nt ni:ByteArray}{g:Gr}
theorem ydxa(h:Tr g)(hit:yeb g=true){c:Conf}(t:yfe (yby nm nh nl nf nd nt ni) g c=true):yho g c=true:=by
 have j:=ymx t;have l:=h.good.2.2.1;unfold yho;rw[hit,zL,ygh];refine⟨by rw[j.len,l],fun v s q=>?_⟩
 obtain⟨m,e⟩:=List.getElem?_eq_some_iff.1 q;have e:c.getD v []=s:=by simp[zCN,q]
 obtain⟨o,d,f⟩:=j.row v (by rw[<-j.len];exact m)
 unfold hAt at d;unfold lAt at f;rw[e]at o d f;have k:¬(g.ids.length:Int) = -1:=by omega
 have r:yeg g [(g.ids.length:Int),1] v=[(0,(g.ids.length:Int)),(0,1)]:=by simp[yeg,k]
 rw[r];refine⟨o,fun i b x a u=>?_⟩;have p:=(List.getElem?_eq_some_iff.1 a).1;have p:i<2:=by simpa using p
 have n:s.getD i 0=x:=by simp[zCN,u]
 rcases(show i=0\/i=1 by omega)with rfl|rfl
 .have a:some (0,(g.ids.length:Int))=some b:=a;cases a
  rw[n]at d;exact d
 .have a:some (0,1)=some b:=a;cases a
  rw[n]at f;show 0<=x/\x<=1;omega
theorem ybem(h:Tr g){c:Conf}(k:yho g c=true):ygy g c=true↔yua g c:=by
 obtain⟨_,s,_⟩:=yya k;have o:=yeig h.good k;have p:=h.good.2.2.1;have n:=h.good.2.1;have j:c.length=g.ids.length:=by omega
 unfold ygy ycmx ycew;rw[k,zL,zC,zC,zBR,beq_iff_eq,beq_iff_eq,j]
 have d:(∀x∈zJ g.ids.length,(!(hAt c x != htP g x))=true)↔yhv g c:=by
  constructor
  .intro q v l;have:=q v (List.mem_range.2 l);rw[zX,bne_eq_false_iff_eq]at this;exact this
  .intro q v l;rw[zX,bne_eq_false_iff_eq];exact q v (List.mem_range.1 l)
 rw[d]
 have m:∀H:yhv g c,(((popP (ledB c g.ids.length):Int))=1/\((difB (ledB c g.ids.length) (ykr (htP g) g):Nat):Int)=0)↔yua g c:=fun H=>by
  rw[<-ycpu h o H];refine and_congr ?_ ?_
  .unfold popP;omega
  .have e:((difB (ledB c g.ids.length) (ykr (htP g) g):Nat):Int)=0↔difB (ledB c g.ids.length) (ykr (htP g) g)=0:=by omega
   rw[e,yfl];constructor
   .intro q i f;have:=q i;rw[ynv,f,zL,Bool.not_eq_false']at this;exact(yym h.good).1 this
   .intro q i;rw[ynv];cases f:(ledB c g.ids.length).testBit i with
    |false=>rfl
    |true=>rw[(yym h.good).2 (q i f)];rfl
 exact⟨fun⟨a,b⟩=>(m a).1 b,fun r=>⟨r.1,(m r.1).2 r⟩⟩
theorem ypg(h:Tr g)(hit:yeb g=true){c:Conf}(a:yfe (yby nm nh nl nf nd nt ni) g c=true):ybq (yby nm nh nl nf nd nt ni) g c=0↔ygy g c=true:=(ybsa h a).trans (ybem h (ydxa h hit a)).symm
def elN(g:Gr):Nat:=(ymj g/2+1).toNat
theorem ydhx(h:Tr g):∀v,v<g.ids.length->htP g v<(elN g:Int):=fun v a=>by
 have:=h.ht_le_diam (v:=v) (by have:=h.good.2.2.1;omega)
 have:=yio (g:=g) g.ports.length;unfold elN ymj at *;omega
end
end
section
namespace Sh
open Go Ev
def ydyv:LO:=[o3 (.mv (.const (.string (ByteArray.mk #[])))) 0 0]
def yecu:LO:=[o3 (.mv (.const (.string (ByteArray.mk #[112,114,111,103,114,97,109,32,101,108,101,99,116,105,111,110,59,10,118,97,114,32,104,32,58,32,48,32,46,46,32,110,59,10,118,97,114,32,108,32,58,32,98,111,111,108,59,10,114,117,108,101,32,102,105,120,58,32,104,32,33,61,32,40,100,101,103,32,60,32,50,32,63,32,48,32,58,32,40,115,101,99,111,110,100,40,113,46,104,41,32,60,32,110,32,63,32,115,101,99,111,110,100,40,113,46,104,41,32,43,32,49,32,58,32,110,41,41,32,45,62,32,104,32,58,61,32,40,100,101,103,32,60,32,50,32,63,32,48,32,58,32,40,115,101,99,111,110,100,40,113,46,104,41,32,60,32,110,32,63,32,115,101,99,111,110,100,40,113,46,104,41,32,43,32,49,32,58,32,110,41,41,59,10,114,117,108,101,32,100,114,111,112,58,32,108,32,38,38,32,33,97,108,108,40,113,46,104,32,60,61,32,104,41,32,45,62,32,108,32,58,61,32,102,97,108,115,101,59,10,114,117,108,101,32,116,97,107,101,58,32,33,108,32,38,38,32,97,108,108,40,113,46,104,32,60,32,104,41,32,45,62,32,108,32,58,61,32,116,114,117,101,59,10,114,117,108,101,32,116,105,101,58,32,104,32,60,32,110,32,38,38,32,97,108,108,40,113,46,104,32,60,61,32,104,41,32,38,38,32,115,111,109,101,40,113,46,104,32,61,61,32,104,32,38,38,32,113,46,108,32,61,61,32,108,41,32,45,62,32,108,32,58,61,32,33,108,59,10])))) 0 0]
def c43:SC:=(sr ydyv <| sr yecu <| .ret)
theorem ydxd:Fn 43 c43 [.t 0]:=fn_0 Tryz.func43
def ydgz:LO:=[bx' 27 0 1 0,mb false 2 0]
def ydfr:LO:=[la' 2 1 3 0,cl' 146 [3] 4 1,mv' 4 2 3]
def c110:SC:=(sr ydgz <| sr ydfr <| .ret)
theorem ydtd:Fn 110 c110 [.t 2]:=fn_0 Tryz.func110
def ydtj:LO:=[bx' 27 0 2 0,mb false 4 0]
def ydnq:LO:=[la' 2 2 10 0,cl' 110 [10] 11 1,o3 (.un .not (.tmp 11)) 12 3,mv' 12 13 7,gf (.load true 2 (.tmp 2)) 14 13 15,gf (.mv (.tmp 1)) 15 13 15,gf (.faddr 0 1 (.tmp 2)) 16 13 15,gf (.load false 1 (.tmp 16)) 17 13 79,gf (.len (.tmp 17)) 18 13 207,gf (.bslice 3 1 2 [.i .i64 0,.i .i64 0] [(0,1,(.tmp 18)),(1,1,(ci' 1))]) 19 13 463,gf (.call (.func 89) [(.tmp 14),(.tmp 15),(.tmp 19)]) 20 13 1023,gf (.un .not (.tmp 20)) 21 13 2047,pk' 13 21 22 4095]
def ydpd:LO:=[mb false 4 0]
def yehd:LO:=[la' 2 2 23 0,cl' 102 [23] 24 1,o3 (.alloc 22 1 [.a (.slice none 0 0)]) 5 0,sto 1 5 24 7]
def ydwb:LO:=[o3 (.mv (.const (.int .u32 0))) 6 0]
def yefn:LO:=[mv' 1 25 0,ln' 25 26 1,mc 0 27 0]
def ycsx:LO:=[bn' .lss 27 26 28 0]
def ydtg:LO:=[mv' 27 29 0,ix' 1 25 27 30 0,ld' 1 30 31 2,mv' 29 7 7,mv' 31 8 15]
def ydpy:LO:=[mv' 8 32 0,o3 (.idx 1 (.tmp 32) (ci' 0)) 33 1,ld' 1 33 34 3,ld' 1 5 35 0,mv' 7 36 0,ix' 1 35 36 37 24,ld' 1 37 38 56,bn' .neq 34 38 39 127]
def ydzl:LO:=[mb false 4 0]
def ydbr:LO:=[mv' 6 40 0,mv' 8 41 0,o3 (.idx 1 (.tmp 41) (ci' 1)) 42 2,ld' 1 42 43 6,o3 (.conv .u32 (.tmp 43)) 44 14,mv' 7 45 0,bn' .shl 44 45 46 62,bn' .or 40 46 47 127,mv' 47 6 255]
def ydeq:LO:=[bc .add 27 1 48 0,mv' 48 27 1]
def ydgb:LO:=[la' 2 2 49 0,o3 (.mkfn 112 [] [(.tmp 5)]) 50 0,cl' 111 [49,50] 51 3,mv' 51 9 7]
def ydgt:LO:=[mv' 6 52 0,cl' 113 [52] 53 1,bc .eql 53 1 54 3,mv' 54 55 7,gt (.mv (.tmp 6)) 56 55 15,gt (.mv (.tmp 9)) 57 55 15,gt (.bin .andNot (.tmp 56) (.tmp 57)) 58 55 63,gt (.bin .eql (.tmp 58) (.const (.int .u32 0))) 59 55 127,o3 (.pick (.tmp 55) (.tmp 59) (.const (.bool false))) 60 255,mv' 60 4 511]
def c45:SC:=(sr ydtj <| .seq (sr ydnq <| cn 22 (sr ydpd <| .ret) .skip) (sr yehd <| sr ydwb <| .seq (sr yefn <| .block 0 (.loop (sr ycsx <| .seq (cn 28 .skip (.exit 0)) (.seq (.block 1 (sr ydtg <| .seq (.seq (.reg true ydpy) (cn 39 (sr ydzl <| .ret) .skip)) (.reg false ydbr))) (.reg false ydeq))))) (sr ydgb <| sr ydgt <| .ret)))
theorem yead:Fn 45 c45 [.t 4]:=fn_0 Tryz.func45
def yddu:LO:=[mc 0 3 0]
def ycwa:LO:=[ld' 1 1 4 0,mv' 0 5 0,ix' 1 4 5 6 3,ld' 1 6 7 7,mv' 7 3 15]
def c112:SC:=(sr yddu <| sr ycwa <| .ret)
theorem ydrx:Fn 112 c112 [.t 3]:=fn_0 Tryz.func112
def ydnn:LO:=[bx' 27 0 1 0,o3 (.alloc 36 1 [.i .i64 0,.b false,.b false,.i .i64 0,.i .i64 0]) 2 0]
def ydry:LO:=[la' 2 1 3 0,cl' 110 [3] 4 1,o3 (.un .not (.tmp 4)) 5 3]
def ydzv:LO:=[o3 (.build [.i .i64 0,.b false,.b false,.i .i64 0,.i .i64 0] []) 6 0,sto 5 2 6 1]
def ydvk:LO:=[la' 2 1 7 0,cl' 100 [7] 8 1,bc .quo 8 2 9 3,bc .add 9 2 10 7,o3 (.build [.i .i64 0,.b false,.b false,.i .i64 0,.i .i64 0] [(0,1,(ci' 2)),(2,1,(.const (.bool true))),(3,1,(.tmp 10)),(4,1,(.const (.int .i64 (-1))))]) 11 15,sto 5 2 11 31]
def c44:SC:=(sr ydnn <| .seq (sr ydry <| cn 5 (sr ydzv <| .ret) .skip) (sr ydvk <| .ret))
theorem yegn:Fn 44 c44 [.c 2 true 5]:=fn_0 Tryz.func44
end Sh
end
section
namespace Sh
open Go Ev
def ydgw:LO:=[bx' 77 0 1 0,o3 (.mv (.const (.nilFunc))) 2 0]
def ycze:LO:=[o3 (.mkfn 172 [] [(.tmp 1)]) 3 0,mv' 3 2 1]
def c129:SC:=(sr ydgw <| sr ycze <| .ret)
theorem yctq:FnM 129 c129 [.t 2]:=fn_m Tryz.func129
def ycxs:LO:=[bx' 83 0 2 0,bx' 77 1 3 0,o3 (.alloc 4 1 [.b false]) 4 0]
def ydfq:LO:=[ld' 1 3 6 0,cl' 129 [6] 7 1]
def ycls:LO:=[mv' 8 5 0]
def ycic:LO:=[ld' 1 2 9 0,mv' 5 10 0,ix' 1 9 10 11 3,ld' 1 11 12 7,ld' 1 3 13 0,bn' .and 12 13 14 31,o3 (.bin .neq (.tmp 14) (.const (.int .u32 0))) 15 63]
def ydku:LO:=[o0 (.store 1 (.tmp 4) (.const (.bool false))) 0]
def ydaz:LO:=[o0 (.store 1 (.tmp 4) (.const (.bool true))) 0]
def c206:SC:=(sr ycxs <| .seq (sr ydfq <| .block 0 (.range (.tmp 7) [8] (.reg false ycls) (.block 1 (.seq (.reg true ycic) (cn 15 (sr ydku <| .ret) .skip))))) (sr ydaz <| .ret))
theorem ycss:FnU 206 c206 [.c 4 false 1]:=fn_u Tryz.func206
end Sh
end
section
def ybmi(g:Gr):Sh.SV:=if yeb g=true then .ag (Sh.clmV 2 false true (ymj g/2+2) (-1))else .ag (Sh.clmV 0 false false 0 0)
theorem ybjb(c:Conf)(k:Nat):ledB c (k+1)=ledB c k|||(lAt c k).toNat*2^k:=by
 unfold ledB;rw[zAX,zBN];rfl
theorem ycij{c:Conf}(b:∀v,v<c.length->lAt c v=0\/lAt c v=1)(a:c.length<=24):∀k,k<=c.length->ledB c k<2^24
 |0,_=>zBV 24
 | k+1,hk=>by
   rw[ybjb];refine Nat.or_lt_two_pow (ycij b a k (by omega)) ?_
   have d:2^k<2^24:=zBE (by omega) (by omega)
   rcases b k (by omega)with e|e
   .rw[e];simp
   .rw[e];show 1*2^k<_;omega
theorem ycrt{b v:Nat}(h:b*2^v<2^32):IntKind.wrap .u32 ((b:Int)*2^(v:Int).toNat)=((b*2^v:Nat):Int):=by
 have e:((b:Int)*2^(v:Int).toNat)=((b*2^v:Nat):Int):=by
  rw[zAR]
  push_cast
  rfl
 rw[e];exact yjl h
theorem ycsn{g:Gr}(a:ybi g)(f:Nat->Int):ykr f g<2^24:=by
 have b:=a.2.1;refine zAS _ fun i c=>?_;cases h:(ykr f g).testBit i with
 |false=>rfl
 |true=>have:=((yym a).1 h).1;omega
namespace Sh
open Ev Go.RowKit
theorem ybsn{g:Gr}(c:GrI g):Returns zF 110 [grV g] (.b (yeb g)):=by
 refine Returns.of (ydtd _ _ ?_);have a:=ycms c;simp only[grV]at a;simp only[c110,ydgz,ydfr,grV,go_sem,zA,zB,zD];refine a.use ?_;simp only[ybj,ybat,go_sem,zA,zB]
theorem ybit{H:List Int}{v:Nat}(b:v<H.length)(a:H.length<=1000):Returns zF 112 [.i .i64 v,.rf [ybb H]] (.i .i64 (H.getD v 0)):=by
 refine Returns.of (ydrx _ _ ?_);simp only[c112,yddu,ycwa,ybb,clash,go_sem,zA,zB];exact⟨⟨by omega,by omega⟩,Sim.refl _⟩
set_option maxHeartbeats 2000000 in
theorem ybul{g:Gr}(hI:GrI g){c:Conf}(hR:ycsh c)(he:yeb g=true->Tr g):Returns zF 45 [grV g,ydi c] (.b (ygy g c)):=by
 refine Returns.of (yead _ _ ?_);have A:=ybsn hI;unfold ygy;cases P:yeb g with
 | false =>
   have e:yho g c=false:=by unfold yho;rw[P];rfl
   rw[e,zBZ];rw[P]at A;simp only[grV]at A;simp only[c45,ydtj,ydnq,ydpd,grV,clash,go_sem,zA,zB,zD];refine A.use ?_;simp only[ybj,clash,go_sem,zA,zB];exact Sim.refl _
 | true =>
   have Y:=he P;have J:=Y.good;have R:=J.2.1;have a4:=J.2.2.1
   have hC:=ycph J hR (G:=[(g.ids.length:Int),1]) (fun x B=>by
    simp at B;rcases B with rfl|rfl<;>exact yhk (by omega))
   rw[P]at A;simp only[grV]at A;simp only[c45,ydtj,ydnq,grV,ybb,clash,go_sem,zA,zB,zD];refine A.use ?_;simp only[ybj,splice,clash,go_sem,zA,zB,zG,zD];have Q:∀{q:Nat},q<2->q=0\/q=1:=fun {q} h=>by omega
   refine .inl ⟨fun q hq=>by rcases Q hq with rfl|rfl<;>simp only[go_sem],hC.useS ?_ ?_⟩
   .refine⟨Sim.refl (grV g),Sim.refl _,?_,trivial⟩;refine yej fun q hq=>?_;rcases Q hq with rfl|rfl<;>(simp only[List.getD_cons_zero,List.getD_cons_succ,go_sem];exact⟨Sim.refl _,trivial⟩)
   have eC:yho g c=yxr g.ports.length (yeg g [(g.ids.length:Int),1]) c:=by unfold yho;rw[P,zL]
   rw[<-eC];cases Z:yho g c with
   | false =>
     simp only[ydpd,go_sem];exact Sim.refl _
   | true =>
     obtain⟨_,u,I⟩:=yya Z;have C:=ybob Y;have a3:=fun v p=>Y.ht_le (v:=v) p;have d:=ycij (c:=c) (fun v p=>(I v p).2.2) (by omega)
     have E:=ybjb c;have D:ledB c 0=0:=rfl;have X:=ycsn J (htP g);obtain⟨n,hn⟩:∃n,g.ports.length=n:=⟨_,rfl⟩
     have F:=yckw J (f:=htP g) (h:=112) (cp:=[.rf [ybb (mapR n (htP g))]]) (by rfl) (fun v p=>by
      have:=ybit (H:=mapR n (htP g)) (v:=v) (by rw[ywq];omega) (by rw[ywq];omega)
      rw[gmR _ _ _ _ (show v<n by omega)]at this
      exact this)
     have r:ycmx g c=(zJ c.length).all fun v=>!(hAt c v != htP g v):=rfl;have l:ycew g c=(((popP (ledB c c.length):Int)==1)&&((difB (ledB c c.length) (ykr (htP g) g):Int)==0)):=rfl;rw[hn]at R C u;rw[u]at r l d;have O:=ywq n (htP g);have N:∀v,v<n->(mapR n (htP g)).getD v 0=htP g v:=fun v p=>gmR _ _ _ _ p;obtain⟨H,S⟩:∃H,mapR n (htP g)=H:=⟨_,rfl⟩;rw[S]at C O N F;obtain⟨Pk,W⟩:∃x,ykr (htP g) g=x:=⟨_,rfl⟩
     rw[W]at F l X;obtain⟨L,U⟩:∃L:Nat->Nat,(fun k=>ledB c k)=L:=⟨_,rfl⟩;have T:∀k,ledB c k=L k:=fun k=>by rw[<-U]
     simp only[T]at d E D l;simp only[grV]at C F;simp only[ybb,O]at C F;rw[zL];simp only[ybj,yehd,clash,go_sem,zA,zB,zD];refine C.use ?_;simp only[ydwb,yefn,ydi,u,clash,go_sem,zA,zB]
     refine ybe (σ:=Nat) (fun k=>⟨[(27,.i .i64 k),(26,.i .i64 n),(25,.sl 1 n fun v=>[ybb (c.getD v [])]),(6,.i .u32 (L k)),(2,.pt (2,0) 0 0),(5,.pt (5,0) 0 0)],
      [(2,.one (some ⟨27,true,2,1,fun _=>[ybb g.ids,yg g.ports]⟩)),(5,.one (some ⟨22,true,1,1,fun _=>[.sl 1 n fun v=>[.i .i64 (H.getD v 0)]]⟩))]⟩)
        (fun k=>k<=n/\∀j,j<k->hAt c j=htP g j) (fun k=>n-k) 0 ⟨zBA _,fun j hj=>absurd hj (zZ j)⟩ ?_ ?_
     .refine yj ?_;simp only[D,wk,go_sem,zA,zD];exact fun _ _=>Sim.refl _
     rintro k ⟨hk,o⟩
     by_cases M:k<n
     .have t1:decide ((k:Int)<(n:Int))=true:=decide_eq_true (by omega)
      obtain⟨z,a5,a0⟩:=I k (by omega)
      have K:=N k M;have V:=d k (by omega)
      have t:=E k;have m:hAt c k=(c.getD k []).getD 0 0:=rfl;have y:lAt c k=(c.getD k []).getD 1 0:=rfl
      obtain⟨b,hb,a1⟩:∃b:Nat,lAt c k=(b:Int)/\b<=1:=by
       rcases a0 with e|e
       .exact⟨0,e,by omega⟩
       .exact⟨1,e,by omega⟩
      obtain⟨s,hs⟩:∃s,c.getD k []=s:=⟨_,rfl⟩;rw[hs]at z m y;obtain⟨x,B⟩:∃x,s.getD 0 0=x:=⟨_,rfl⟩;rw[B]at m;rw[hb]at y t
      by_cases w:x=htP g k
      .have t2:(x != htP g k)=false:=by rw[w];simp
       have cv:=yjl (a:=b) (by omega)
       have a2:b*2^k<2^24:=by
        have h1:2^k<2^24:=zBE (by omega) (by omega)
        rcases(show b=0\/b=1 by omega)with e|e
        .rw[e];simp
        .rw[e];omega
       have sh:=ycrt (b:=b) (v:=k) (by omega)
       have ov:=u32_or (a:=L k) (b:=b*2^k) (by omega) (by omega)
       rw[zAR]at t;rw[<-t]at ov;simp only[IntKind.bits,zAR]at sh ov;simp only[ycsx,ydtg,ydpy,ydbr,ydeq,ybb,hs,z,<-y,K,B,t1,t2,cv,sh,ov,clash,go_sem,zBW,zA,zB]
       repeat (refine⟨by omega,?_⟩)
       refine⟨ikw (by omega) (by omega),?_⟩
       refine yu (k+1) ⟨by omega,fun j hj=>?_⟩ (by omega) ?_
       .by_cases q:j=k
        .rw[q,m];exact w
        .exact o j (by omega)
       .refine yj ?_;simp only[go_sem,wk,go_sem,zA,zD];omega
      .have t2:(x != htP g k)=true:=by rw[bne_iff_ne];exact w
       have e:(zJ n).all (fun v=>!(hAt c v != htP g v))=false:=by
        rw[List.all_eq_false];exact⟨k,List.mem_range.2 M,by rw[m,t2];decide⟩
       rw[r,e,zBZ];simp only[ycsx,ydtg,ydpy,ydzl,ybb,hs,z,K,B,t1,t2,clash,go_sem,zBW,zA,zB]
       repeat (refine⟨by omega,?_⟩)
       exact Sim.refl _
     .obtain rfl:k=n:=by omega
      have t1:decide ((k:Int)<(k:Int))=false:=decide_eq_false (by omega)
      have e:(zJ k).all (fun v=>!(hAt c v != htP g v))=true:=by
       rw[zBR];intro v p;rw[zX,bne_eq_false_iff_eq];exact o v (List.mem_range.1 p)
      have V:=d k (by omega)
      have hO:=ybfh (s:=L k) (by omega)
      have an:=u32_andNot (a:=L k) (b:=Pk) (by omega) (by omega)
      simp only[IntKind.bits]at an;rw[r,e,zL,l];simp only[ycsx,ydgb,t1,clash,go_sem,zA,zB,zG];refine .inl (F.use ?_);simp only[ybj,ydgt,clash,go_sem,zA,zB];refine hO.use ?_;cases o1:((popP (L k):Int)==1)with
      | false =>
        simp only[o1,clash,go_sem,zA,zB];exact Sim.refl _
      | true =>
        simp only[o1,an,clash,go_sem,zA,zB];exact Sim.refl _
theorem ybxm{g:Gr}(d:GrI g):Returns zF 44 [grV g] (ybmi g):=by
 refine Returns.of (yegn _ _ ?_);have a:=ybsn d;unfold ybmi;cases b:yeb g with
 | false =>
   rw[b]at a;simp only[grV]at a;simp only[c44,ydnn,ydry,ydzv,grV,clmV,clash,go_sem,zA,zB,zD];refine a.use ?_;simp only[ybj,splice,clash,go_sem,zA,zB];exact Sim.refl _
 | true =>
   have c:=ycbt d;rw[if_pos (yzh b)]at c;have e:=ybod b;have f:=e.2.1;have d1:=yio (g:=g) g.ports.length;have d2:=ybop e g.ports.length (zAD _);have d3:(ymj g).tdiv 2=ymj g/2:=Int.tdiv_eq_ediv_of_nonneg d1;have d1:0<=ymj g:=d1;have d2:ymj g<=24:=d2;rw[b]at a;simp only[grV]at a c;simp only[c44,ydnn,ydry,ydvk,grV,clmV,clash,go_sem,zA,zB,zD];refine a.use ?_;simp only[ybj,splice,clash,go_sem,zA,zB,zG]
   refine c.use ?_;simp only[d3,go_sem,zA,zB];exact⟨⟨by decide,ikw (by omega) (by omega)⟩,ikw (by omega) (by omega),Sim.refl _⟩
end Sh
end
section
theorem TreeTo.tr{x:NetR}{g:Gr}(a:ybi g)(h:TreeTo x g.ports.length g):Tr g:=by
 have b:=Tre.conn a h.tre;refine⟨a,b,yehk a b ?_⟩;have:=h.count;have:=a.1;omega
namespace Sh
open Ev Go.RowKit
theorem ybgq(g:Gr):vok (yib g.ports) 5 (yxh g)/\Sim (view (yib g.ports) 5 (yxh g)) (grV g):=by
 obtain⟨P,b⟩:∃P,g.ports=P:=⟨_,rfl⟩;simp only[yxh,yib,grV,b,go_sem,zA];refine⟨fun q a=>?_,?_⟩
 .simp only[if_pos a];exact⟨zAD _,fun k hk=>by simp only[rowO,go_sem]⟩
 .refine ybsc ⟨Sim.refl _,?_,trivial⟩;refine yej fun q a=>?_;simp only[if_pos a];simp only[rowO,yx,go_sem];exact⟨Sim.refl _,trivial⟩
theorem ycdd{x:NetR}(j:x.ok){most:Nat}(f:1<=most/\most<=24) :
 Ct zF 10 [.ag (netC x),.i .i64 most] fun r=>∃g,Tr g/\yeb g=true/\(g.ports.length<=most/\(g.ports.length:Int)=1+yei (IntKind.wrap .i64 (x.n-1)) most/\ybhk x g.ids)/\Sim r (grV g) :=
 (ydmi j f).ct fun r k ⟨g,b,c,h,d,e⟩=>by
   subst d e;have a:=c.tr b;refine⟨(ybgq g).1,g,a,?_,h,(ybgq g).2⟩;unfold yeb;rw[a.conn];have:=c.count;have:=b.1;simp only[zL,decide_eq_true_eq];omega
theorem ycpe{x:NetR}(f:x.ok){most:Nat}(e:1<=most/\most<=24) :
 Ct zF 10 [.ag (netC x),.i .i64 most] fun r=>∃g,Tr g/\yeb g=true/\g.ports.length<=most/\Sim r (grV g) :=
 (ycdd f e).mono fun _ ⟨g,a,b,c,d⟩=>⟨g,a,b,c.1,d⟩
end Sh
end
section
namespace Ev
def Nzb0:BlkL:=⟨4,135,1,[.slice (some ⟨17,0,none⟩) 1 CU,.slice (some ⟨19,0,none⟩) 1 CU]⟩
def Nzb1:BlkL:=⟨1257,251,2,[.int .i64 36,.int .i64 0,.int .i64 5,.int .i64 0,.int .i64 43,.int .i64 0,.int .i64 37,.int .i64 0,.int .i64 9,.int .i64 0,.int .i64 1,.int .i64 2,.int .i64 1,.int .i64 0,.int .i64 43,.int .i64 0,.int .i64 37,.int .i64 0,.int .i64 28,.int .i64 0,.int .i64 12,.int .i64 0,.int .i64 6,.int .i64 0,.int .i64 33,.int .i64 0,.int .i64 28,.int .i64 0,.int .i64 12,.int .i64 0,.int .i64 1,.int .i64 1,.int .i64 6,.int .i64 0]⟩
def Nzb2:BlkL:=⟨1413,251,2,[.int .i64 43,.int .i64 0,.int .i64 37,.int .i64 0,.int .i64 9,.int .i64 0,.int .i64 1,.int .i64 2,.int .i64 1,.int .i64 0,.int .i64 43,.int .i64 0,.int .i64 37,.int .i64 0,.int .i64 28,.int .i64 0,.int .i64 12,.int .i64 0,.int .i64 6,.int .i64 0,.int .i64 33,.int .i64 0,.int .i64 28,.int .i64 0,.int .i64 12,.int .i64 0,.int .i64 1,.int .i64 1,.int .i64 6,.int .i64 0]⟩
def Nzb3:BlkL:=⟨1422,203,2,[.int .i64 0,.slice (some ⟨1413,0,none⟩) 15 CU]⟩
def Nzb4:BlkL:=⟨1495,251,2,[.int .i64 41,.int .i64 0,.int .i64 5,.int .i64 1,.int .i64 19,.int .i64 0,.int .i64 20,.int .i64 0,.int .i64 38,.int .i64 0,.int .i64 12,.int .i64 0,.int .i64 5,.int .i64 0]⟩
def Nzb5:BlkL:=⟨1508,251,2,[.int .i64 3,.int .i64 0]⟩
def Nzb6:BlkL:=⟨1515,203,2,[.int .i64 1,.slice (some ⟨1508,0,none⟩) 1 1]⟩
def Nzb7:BlkL:=⟨1588,251,2,[.int .i64 41,.int .i64 0,.int .i64 19,.int .i64 0,.int .i64 5,.int .i64 1,.int .i64 20,.int .i64 0,.int .i64 37,.int .i64 0,.int .i64 12,.int .i64 0,.int .i64 5,.int .i64 0]⟩
def Nzb8:BlkL:=⟨1601,251,2,[.int .i64 2,.int .i64 0]⟩
def Nzb9:BlkL:=⟨1608,203,2,[.int .i64 1,.slice (some ⟨1601,0,none⟩) 1 1]⟩
def yvt:BlkL:=⟨1766,251,2,[.int .i64 41,.int .i64 0,.int .i64 41,.int .i64 0,.int .i64 37,.int .i64 0,.int .i64 5,.int .i64 0,.int .i64 6,.int .i64 0,.int .i64 20,.int .i64 0,.int .i64 38,.int .i64 0,.int .i64 12,.int .i64 0,.int .i64 5,.int .i64 0,.int .i64 21,.int .i64 0,.int .i64 41,.int .i64 0,.int .i64 35,.int .i64 0,.int .i64 12,.int .i64 0,.int .i64 5,.int .i64 0,.int .i64 35,.int .i64 0,.int .i64 12,.int .i64 1,.int .i64 5,.int .i64 1]⟩
def yvp:BlkL:=⟨1785,251,2,[.int .i64 19,.int .i64 0,.int .i64 5,.int .i64 1]⟩
def yvo:BlkL:=⟨1792,203,2,[.int .i64 1,.slice (some ⟨1785,0,none⟩) 2 CU]⟩
def yyl:BlkL:=⟨2927,22,1,[.slice (some ⟨2925,0,none⟩) 2 2,.slice (some ⟨2926,0,none⟩) 2 2]⟩
def ybqf:BlkL:=⟨4110,22,1,[.slice (some ⟨4116,0,none⟩) 1 CU,.slice (some ⟨4121,0,none⟩) 1 CU]⟩
def ybqe:BlkL:=⟨4124,92,1,[.slice (some ⟨4125,0,none⟩) 2 2,.slice (some ⟨4141,0,none⟩) 2 2]⟩
def ybol:BlkL:=⟨4125,91,2,[.int .i64 0,.int .i64 2,.int .i64 0,.int .i64 1]⟩
def ybmw:BlkL:=⟨4141,91,2,[.int .i64 0,.int .i64 2,.int .i64 0,.int .i64 1]⟩
def ydpz:BlkL:=⟨4158,82,0,[.pointer (some ⟨4157,0,none⟩)]⟩
def ydqx:BlkL:=⟨4159,46,0,[.slice (some ⟨2927,0,none⟩) 2 2]⟩
def yejm:BlkL:=⟨4322,22,1,[.slice (some ⟨4406,0,none⟩) 2 CU,.slice (some ⟨4324,0,none⟩) 2 CU]⟩
end Ev
end
section
namespace Ev
def Nzm1:Fact:=ybfy.move [1083,1257,1413,1422,1495,1508,1515,1588,1601,1608,1766,1785,1792,1796] 2934
theorem yduq:yel zF Nzm1:=yfg (ybh.at_ ybkf 0 rfl) (by kernel_rfl)
/- selfstab/domain.Fits -/
def yefd:Fact:=⟨62,[.agg #[.string (by8 [101,108,101,99,116,105,111,110]),.slice (some ⟨1083,0,none⟩) 2 CU,.slice (some ⟨1796,0,none⟩) 4 CU],.agg #[.slice (some ⟨9,0,none⟩) 2 CU,.slice (some ⟨4,0,none⟩) 2 2]],2932,[Nzb0,⟨9,3,1,[.int .i64 0,.int .i64 1]⟩,⟨17,68,2,[.int .i64 1,.int .i64 1]⟩,⟨19,68,2,[.int .i64 0,.int .i64 1]⟩,⟨1083,160,6,[.string (by8 [104]),.int .i64 1,.int .i64 0,.int .i64 0,.int .i64 1,.int .i64 0,.string (by8 [108]),.int .i64 2,.int .i64 0,.int .i64 0,.int .i64 0,.int .i64 0]⟩,Nzb1,Nzb2,Nzb3,Nzb4,Nzb5,Nzb6,Nzb7,Nzb8,Nzb9,yvt,yvp,yvo,⟨1796,193,3,[.string (by8 [102,105,120]),.slice (some ⟨1257,0,none⟩) 17 CU,.slice (some ⟨1422,0,none⟩) 1 CU,.string (by8 [100,114,111,112]),.slice (some ⟨1495,0,none⟩) 7 CU,.slice (some ⟨1515,0,none⟩) 1 CU,.string (by8 [116,97,107,101]),.slice (some ⟨1588,0,none⟩) 7 CU,.slice (some ⟨1608,0,none⟩) 1 CU,.string (by8 [116,105,101]),.slice (some ⟨1766,0,none⟩) 17 CU,.slice (some ⟨1792,0,none⟩) 1 CU]⟩],.int .i64 0,4071,[],2932⟩
/- selfstab/memory.Check -/
def ycgo:Fact:=⟨138,[.agg #[.string (by8 [101,108,101,99,116,105,111,110]),.slice (some ⟨1083,0,none⟩) 2 CU,.slice (some ⟨1796,0,none⟩) 4 CU],.agg #[.slice (some ⟨9,0,none⟩) 2 CU,.slice (some ⟨4,0,none⟩) 2 2],.slice (some ⟨2927,0,none⟩) 2 2],2930,[Nzb0,⟨9,3,1,[.int .i64 0,.int .i64 1]⟩,⟨17,68,2,[.int .i64 1,.int .i64 1]⟩,⟨19,68,2,[.int .i64 0,.int .i64 1]⟩,⟨1083,160,6,[.string (by8 [104]),.int .i64 1,.int .i64 0,.int .i64 0,.int .i64 1,.int .i64 0,.string (by8 [108]),.int .i64 2,.int .i64 0,.int .i64 0,.int .i64 0,.int .i64 0]⟩,Nzb1,Nzb2,Nzb3,Nzb4,Nzb5,Nzb6,Nzb7,Nzb8,Nzb9,yvt,yvp,yvo,⟨1796,193,3,[.string (by8 [102,105,120]),.slice (some ⟨1257,0,none⟩) 17 CU,.slice (some ⟨1422,0,none⟩) 1 CU,.string (by8 [100,114,111,112]),.slice (some ⟨1495,0,none⟩) 7 CU,.slice (some ⟨1515,0,none⟩) 1 CU,.string (by8 [116,97,107,101]),.slice (some ⟨1588,0,none⟩) 7 CU,.slice (some ⟨1608,0,none⟩) 1 CU,.string (by8 [116,105,101]),.slice (some ⟨1766,0,none⟩) 17 CU,.slice (some ⟨1792,0,none⟩) 1 CU]⟩,⟨2925,3,1,[.int .i64 0,.int .i64 0]⟩,⟨2926,3,1,[.int .i64 0,.int .i64 0]⟩,yyl],.int .i64 0,4106,[],2930⟩
/- (*selfstab/step.Mover).Rule -/
def ydgh:Fact:=⟨126,[.pointer (some ⟨4157,0,none⟩),.slice (some ⟨2927,0,none⟩) 2 2,.int .i64 0],4160,[Nzb0,⟨9,3,1,[.int .i64 0,.int .i64 1]⟩,⟨17,68,2,[.int .i64 1,.int .i64 1]⟩,⟨19,68,2,[.int .i64 0,.int .i64 1]⟩,⟨1083,160,6,[.string (by8 [104]),.int .i64 1,.int .i64 0,.int .i64 0,.int .i64 1,.int .i64 0,.string (by8 [108]),.int .i64 2,.int .i64 0,.int .i64 0,.int .i64 0,.int .i64 0]⟩,Nzb1,Nzb2,Nzb3,Nzb4,Nzb5,Nzb6,Nzb7,Nzb8,Nzb9,yvt,yvp,yvo,⟨1796,193,3,[.string (by8 [102,105,120]),.slice (some ⟨1257,0,none⟩) 17 CU,.slice (some ⟨1422,0,none⟩) 1 CU,.string (by8 [100,114,111,112]),.slice (some ⟨1495,0,none⟩) 7 CU,.slice (some ⟨1515,0,none⟩) 1 CU,.string (by8 [116,97,107,101]),.slice (some ⟨1588,0,none⟩) 7 CU,.slice (some ⟨1608,0,none⟩) 1 CU,.string (by8 [116,105,101]),.slice (some ⟨1766,0,none⟩) 17 CU,.slice (some ⟨1792,0,none⟩) 1 CU]⟩,⟨2925,3,1,[.int .i64 0,.int .i64 0]⟩,⟨2926,3,1,[.int .i64 0,.int .i64 0]⟩,yyl,ybqf,⟨4111,235,0,[.string (by8 [101,108,101,99,116,105,111,110]),.slice (some ⟨1083,0,none⟩) 2 CU,.slice (some ⟨1796,0,none⟩) 4 CU,.slice (some ⟨9,0,none⟩) 2 CU,.slice (some ⟨4,0,none⟩) 2 2,.int .i64 1,.slice (some ⟨4110,0,none⟩) 2 2]⟩,⟨4116,3,1,[.int .i64 0]⟩,⟨4121,3,1,[.int .i64 0]⟩,ybqe,ybol,ybmw,⟨4157,200,0,[.string (by8 [101,108,101,99,116,105,111,110]),.slice (some ⟨1083,0,none⟩) 2 CU,.slice (some ⟨1796,0,none⟩) 4 CU,.pointer (some ⟨4111,0,none⟩),.slice (some ⟨4124,0,none⟩) 2 2]⟩],.int .i64 3,4241,[],4160⟩
/- (*selfstab/step.Mover).Enabled$1 -/
def yeja:Fact:=⟨183,[.int .i64 0,.pointer (some ⟨4158,0,none⟩),.pointer (some ⟨4159,0,none⟩)],4160,[Nzb0,⟨9,3,1,[.int .i64 0,.int .i64 1]⟩,⟨17,68,2,[.int .i64 1,.int .i64 1]⟩,⟨19,68,2,[.int .i64 0,.int .i64 1]⟩,⟨1083,160,6,[.string (by8 [104]),.int .i64 1,.int .i64 0,.int .i64 0,.int .i64 1,.int .i64 0,.string (by8 [108]),.int .i64 2,.int .i64 0,.int .i64 0,.int .i64 0,.int .i64 0]⟩,Nzb1,Nzb2,Nzb3,Nzb4,Nzb5,Nzb6,Nzb7,Nzb8,Nzb9,yvt,yvp,yvo,⟨1796,193,3,[.string (by8 [102,105,120]),.slice (some ⟨1257,0,none⟩) 17 CU,.slice (some ⟨1422,0,none⟩) 1 CU,.string (by8 [100,114,111,112]),.slice (some ⟨1495,0,none⟩) 7 CU,.slice (some ⟨1515,0,none⟩) 1 CU,.string (by8 [116,97,107,101]),.slice (some ⟨1588,0,none⟩) 7 CU,.slice (some ⟨1608,0,none⟩) 1 CU,.string (by8 [116,105,101]),.slice (some ⟨1766,0,none⟩) 17 CU,.slice (some ⟨1792,0,none⟩) 1 CU]⟩,⟨2925,3,1,[.int .i64 0,.int .i64 0]⟩,⟨2926,3,1,[.int .i64 0,.int .i64 0]⟩,yyl,ybqf,⟨4111,235,0,[.string (by8 [101,108,101,99,116,105,111,110]),.slice (some ⟨1083,0,none⟩) 2 CU,.slice (some ⟨1796,0,none⟩) 4 CU,.slice (some ⟨9,0,none⟩) 2 CU,.slice (some ⟨4,0,none⟩) 2 2,.int .i64 1,.slice (some ⟨4110,0,none⟩) 2 2]⟩,⟨4116,3,1,[.int .i64 0]⟩,⟨4121,3,1,[.int .i64 0]⟩,ybqe,ybol,ybmw,⟨4157,200,0,[.string (by8 [101,108,101,99,116,105,111,110]),.slice (some ⟨1083,0,none⟩) 2 CU,.slice (some ⟨1796,0,none⟩) 4 CU,.pointer (some ⟨4111,0,none⟩),.slice (some ⟨4124,0,none⟩) 2 2]⟩,ydpz,ydqx],.bool true,4241,[],4160⟩
/- (*selfstab/step.Mover).Rule -/
def ydxy:Fact:=⟨126,[.pointer (some ⟨4157,0,none⟩),.slice (some ⟨2927,0,none⟩) 2 2,.int .i64 1],4241,[Nzb0,⟨9,3,1,[.int .i64 0,.int .i64 1]⟩,⟨17,68,2,[.int .i64 1,.int .i64 1]⟩,⟨19,68,2,[.int .i64 0,.int .i64 1]⟩,⟨1083,160,6,[.string (by8 [104]),.int .i64 1,.int .i64 0,.int .i64 0,.int .i64 1,.int .i64 0,.string (by8 [108]),.int .i64 2,.int .i64 0,.int .i64 0,.int .i64 0,.int .i64 0]⟩,Nzb1,Nzb2,Nzb3,Nzb4,Nzb5,Nzb6,Nzb7,Nzb8,Nzb9,yvt,yvp,yvo,⟨1796,193,3,[.string (by8 [102,105,120]),.slice (some ⟨1257,0,none⟩) 17 CU,.slice (some ⟨1422,0,none⟩) 1 CU,.string (by8 [100,114,111,112]),.slice (some ⟨1495,0,none⟩) 7 CU,.slice (some ⟨1515,0,none⟩) 1 CU,.string (by8 [116,97,107,101]),.slice (some ⟨1588,0,none⟩) 7 CU,.slice (some ⟨1608,0,none⟩) 1 CU,.string (by8 [116,105,101]),.slice (some ⟨1766,0,none⟩) 17 CU,.slice (some ⟨1792,0,none⟩) 1 CU]⟩,⟨2925,3,1,[.int .i64 0,.int .i64 0]⟩,⟨2926,3,1,[.int .i64 0,.int .i64 0]⟩,yyl,ybqf,⟨4111,235,0,[.string (by8 [101,108,101,99,116,105,111,110]),.slice (some ⟨1083,0,none⟩) 2 CU,.slice (some ⟨1796,0,none⟩) 4 CU,.slice (some ⟨9,0,none⟩) 2 CU,.slice (some ⟨4,0,none⟩) 2 2,.int .i64 1,.slice (some ⟨4110,0,none⟩) 2 2]⟩,⟨4116,3,1,[.int .i64 0]⟩,⟨4121,3,1,[.int .i64 0]⟩,ybqe,ybol,ybmw,⟨4157,200,0,[.string (by8 [101,108,101,99,116,105,111,110]),.slice (some ⟨1083,0,none⟩) 2 CU,.slice (some ⟨1796,0,none⟩) 4 CU,.pointer (some ⟨4111,0,none⟩),.slice (some ⟨4124,0,none⟩) 2 2]⟩],.int .i64 3,4322,[],4241⟩
/- (*selfstab/step.Mover).Enabled$1 -/
def yeas:Fact:=⟨183,[.int .i64 1,.pointer (some ⟨4158,0,none⟩),.pointer (some ⟨4159,0,none⟩)],4241,[Nzb0,⟨9,3,1,[.int .i64 0,.int .i64 1]⟩,⟨17,68,2,[.int .i64 1,.int .i64 1]⟩,⟨19,68,2,[.int .i64 0,.int .i64 1]⟩,⟨1083,160,6,[.string (by8 [104]),.int .i64 1,.int .i64 0,.int .i64 0,.int .i64 1,.int .i64 0,.string (by8 [108]),.int .i64 2,.int .i64 0,.int .i64 0,.int .i64 0,.int .i64 0]⟩,Nzb1,Nzb2,Nzb3,Nzb4,Nzb5,Nzb6,Nzb7,Nzb8,Nzb9,yvt,yvp,yvo,⟨1796,193,3,[.string (by8 [102,105,120]),.slice (some ⟨1257,0,none⟩) 17 CU,.slice (some ⟨1422,0,none⟩) 1 CU,.string (by8 [100,114,111,112]),.slice (some ⟨1495,0,none⟩) 7 CU,.slice (some ⟨1515,0,none⟩) 1 CU,.string (by8 [116,97,107,101]),.slice (some ⟨1588,0,none⟩) 7 CU,.slice (some ⟨1608,0,none⟩) 1 CU,.string (by8 [116,105,101]),.slice (some ⟨1766,0,none⟩) 17 CU,.slice (some ⟨1792,0,none⟩) 1 CU]⟩,⟨2925,3,1,[.int .i64 0,.int .i64 0]⟩,⟨2926,3,1,[.int .i64 0,.int .i64 0]⟩,yyl,ybqf,⟨4111,235,0,[.string (by8 [101,108,101,99,116,105,111,110]),.slice (some ⟨1083,0,none⟩) 2 CU,.slice (some ⟨1796,0,none⟩) 4 CU,.slice (some ⟨9,0,none⟩) 2 CU,.slice (some ⟨4,0,none⟩) 2 2,.int .i64 1,.slice (some ⟨4110,0,none⟩) 2 2]⟩,⟨4116,3,1,[.int .i64 0]⟩,⟨4121,3,1,[.int .i64 0]⟩,ybqe,ybol,ybmw,⟨4157,200,0,[.string (by8 [101,108,101,99,116,105,111,110]),.slice (some ⟨1083,0,none⟩) 2 CU,.slice (some ⟨1796,0,none⟩) 4 CU,.pointer (some ⟨4111,0,none⟩),.slice (some ⟨4124,0,none⟩) 2 2]⟩,ydpz,ydqx],.bool true,4322,[],4241⟩
/- selfstab/step.nodes -/
def ydvj:Fact:=⟨182,[.int .i64 2,.func (.func 183) #[] #[.pointer (some ⟨4158,0,none⟩),.pointer (some ⟨4159,0,none⟩)]],4160,[Nzb0,⟨9,3,1,[.int .i64 0,.int .i64 1]⟩,⟨17,68,2,[.int .i64 1,.int .i64 1]⟩,⟨19,68,2,[.int .i64 0,.int .i64 1]⟩,⟨1083,160,6,[.string (by8 [104]),.int .i64 1,.int .i64 0,.int .i64 0,.int .i64 1,.int .i64 0,.string (by8 [108]),.int .i64 2,.int .i64 0,.int .i64 0,.int .i64 0,.int .i64 0]⟩,Nzb1,Nzb2,Nzb3,Nzb4,Nzb5,Nzb6,Nzb7,Nzb8,Nzb9,yvt,yvp,yvo,⟨1796,193,3,[.string (by8 [102,105,120]),.slice (some ⟨1257,0,none⟩) 17 CU,.slice (some ⟨1422,0,none⟩) 1 CU,.string (by8 [100,114,111,112]),.slice (some ⟨1495,0,none⟩) 7 CU,.slice (some ⟨1515,0,none⟩) 1 CU,.string (by8 [116,97,107,101]),.slice (some ⟨1588,0,none⟩) 7 CU,.slice (some ⟨1608,0,none⟩) 1 CU,.string (by8 [116,105,101]),.slice (some ⟨1766,0,none⟩) 17 CU,.slice (some ⟨1792,0,none⟩) 1 CU]⟩,⟨2925,3,1,[.int .i64 0,.int .i64 0]⟩,⟨2926,3,1,[.int .i64 0,.int .i64 0]⟩,yyl,ybqf,⟨4111,235,0,[.string (by8 [101,108,101,99,116,105,111,110]),.slice (some ⟨1083,0,none⟩) 2 CU,.slice (some ⟨1796,0,none⟩) 4 CU,.slice (some ⟨9,0,none⟩) 2 CU,.slice (some ⟨4,0,none⟩) 2 2,.int .i64 1,.slice (some ⟨4110,0,none⟩) 2 2]⟩,⟨4116,3,1,[.int .i64 0]⟩,⟨4121,3,1,[.int .i64 0]⟩,ybqe,ybol,ybmw,⟨4157,200,0,[.string (by8 [101,108,101,99,116,105,111,110]),.slice (some ⟨1083,0,none⟩) 2 CU,.slice (some ⟨1796,0,none⟩) 4 CU,.pointer (some ⟨4111,0,none⟩),.slice (some ⟨4124,0,none⟩) 2 2]⟩,ydpz,ydqx],.int .u32 3,4322,[],4160⟩
/- (*selfstab/step.Mover).Enabled -/
def ycjb:Fact:=⟨139,[.pointer (some ⟨4157,0,none⟩),.slice (some ⟨2927,0,none⟩) 2 2],4158,[Nzb0,⟨9,3,1,[.int .i64 0,.int .i64 1]⟩,⟨17,68,2,[.int .i64 1,.int .i64 1]⟩,⟨19,68,2,[.int .i64 0,.int .i64 1]⟩,⟨1083,160,6,[.string (by8 [104]),.int .i64 1,.int .i64 0,.int .i64 0,.int .i64 1,.int .i64 0,.string (by8 [108]),.int .i64 2,.int .i64 0,.int .i64 0,.int .i64 0,.int .i64 0]⟩,Nzb1,Nzb2,Nzb3,Nzb4,Nzb5,Nzb6,Nzb7,Nzb8,Nzb9,yvt,yvp,yvo,⟨1796,193,3,[.string (by8 [102,105,120]),.slice (some ⟨1257,0,none⟩) 17 CU,.slice (some ⟨1422,0,none⟩) 1 CU,.string (by8 [100,114,111,112]),.slice (some ⟨1495,0,none⟩) 7 CU,.slice (some ⟨1515,0,none⟩) 1 CU,.string (by8 [116,97,107,101]),.slice (some ⟨1588,0,none⟩) 7 CU,.slice (some ⟨1608,0,none⟩) 1 CU,.string (by8 [116,105,101]),.slice (some ⟨1766,0,none⟩) 17 CU,.slice (some ⟨1792,0,none⟩) 1 CU]⟩,⟨2925,3,1,[.int .i64 0,.int .i64 0]⟩,⟨2926,3,1,[.int .i64 0,.int .i64 0]⟩,yyl,ybqf,⟨4111,235,0,[.string (by8 [101,108,101,99,116,105,111,110]),.slice (some ⟨1083,0,none⟩) 2 CU,.slice (some ⟨1796,0,none⟩) 4 CU,.slice (some ⟨9,0,none⟩) 2 CU,.slice (some ⟨4,0,none⟩) 2 2,.int .i64 1,.slice (some ⟨4110,0,none⟩) 2 2]⟩,⟨4116,3,1,[.int .i64 0]⟩,⟨4121,3,1,[.int .i64 0]⟩,ybqe,ybol,ybmw,⟨4157,200,0,[.string (by8 [101,108,101,99,116,105,111,110]),.slice (some ⟨1083,0,none⟩) 2 CU,.slice (some ⟨1796,0,none⟩) 4 CU,.pointer (some ⟨4111,0,none⟩),.slice (some ⟨4124,0,none⟩) 2 2]⟩],.int .u32 3,4322,[],4158⟩
def yelh:List Fact:=[yefd,ycgo,ydgh,yeja,ydxy,yeas,ydvj,ycjb]
theorem yqu:ybh yelh:=ybh.seq (ybh.cons (f:=Nzm1) yduq ybh.nil) (by kernel_rfl)
end Ev
end
section
namespace Ev
def Nzm2:Fact:=ydgh.move [4,9,17,19,1083,1257,1413,1422,1495,1508,1515,1588,1601,1608,1766,1785,1792,1796,2925,2926,2927,4110,4111,4116,4121,4124,4125,4141,4157] 4325
theorem ydnw:yel zF Nzm2:=yfg (ybh.at_ yqu 2 rfl) (by kernel_rfl)
def Nzm3:Fact:=ycgo.move [4,9,17,19,1083,1257,1413,1422,1495,1508,1515,1588,1601,1608,1766,1785,1792,1796,2925,2926,2927] 4451
theorem ydoi:yel zF Nzm3:=yfg (ybh.at_ yqu 1 rfl) (by kernel_rfl)
def Nzm4:Fact:=ycjb.move [4,9,17,19,1083,1257,1413,1422,1495,1508,1515,1588,1601,1608,1766,1785,1792,1796,2925,2926,2927,5631,5632,5637,5642,5645,5646,5662,5678] 5679
theorem ydqf:yel zF Nzm4:=yfg (ybh.at_ yqu 7 rfl) (by kernel_rfl)
/- (*selfstab/step.Mover).Step -/
def yeir:Fact:=⟨140,[.pointer (some ⟨4157,0,none⟩),.slice (some ⟨2927,0,none⟩) 2 2,.int .u32 1],4322,[Nzb0,⟨9,3,1,[.int .i64 0,.int .i64 1]⟩,⟨17,68,2,[.int .i64 1,.int .i64 1]⟩,⟨19,68,2,[.int .i64 0,.int .i64 1]⟩,⟨1083,160,6,[.string (by8 [104]),.int .i64 1,.int .i64 0,.int .i64 0,.int .i64 1,.int .i64 0,.string (by8 [108]),.int .i64 2,.int .i64 0,.int .i64 0,.int .i64 0,.int .i64 0]⟩,Nzb1,Nzb2,Nzb3,Nzb4,Nzb5,Nzb6,Nzb7,Nzb8,Nzb9,yvt,yvp,yvo,⟨1796,193,3,[.string (by8 [102,105,120]),.slice (some ⟨1257,0,none⟩) 17 CU,.slice (some ⟨1422,0,none⟩) 1 CU,.string (by8 [100,114,111,112]),.slice (some ⟨1495,0,none⟩) 7 CU,.slice (some ⟨1515,0,none⟩) 1 CU,.string (by8 [116,97,107,101]),.slice (some ⟨1588,0,none⟩) 7 CU,.slice (some ⟨1608,0,none⟩) 1 CU,.string (by8 [116,105,101]),.slice (some ⟨1766,0,none⟩) 17 CU,.slice (some ⟨1792,0,none⟩) 1 CU]⟩,⟨2925,3,1,[.int .i64 0,.int .i64 0]⟩,⟨2926,3,1,[.int .i64 0,.int .i64 0]⟩,yyl,ybqf,⟨4111,235,0,[.string (by8 [101,108,101,99,116,105,111,110]),.slice (some ⟨1083,0,none⟩) 2 CU,.slice (some ⟨1796,0,none⟩) 4 CU,.slice (some ⟨9,0,none⟩) 2 CU,.slice (some ⟨4,0,none⟩) 2 2,.int .i64 1,.slice (some ⟨4110,0,none⟩) 2 2]⟩,⟨4116,3,1,[.int .i64 0]⟩,⟨4121,3,1,[.int .i64 0]⟩,ybqe,ybol,ybmw,⟨4157,200,0,[.string (by8 [101,108,101,99,116,105,111,110]),.slice (some ⟨1083,0,none⟩) 2 CU,.slice (some ⟨1796,0,none⟩) 4 CU,.pointer (some ⟨4111,0,none⟩),.slice (some ⟨4124,0,none⟩) 2 2]⟩],.slice (some ⟨4322,0,none⟩) 2 2,4413,[yejm,⟨4324,3,1,[.int .i64 0,.int .i64 0]⟩,⟨4406,3,1,[.int .i64 0,.int .i64 1]⟩],4322⟩
/- selfstab/step.Step -/
def ycka:Fact:=⟨84,[.agg #[.string (by8 [101,108,101,99,116,105,111,110]),.slice (some ⟨1083,0,none⟩) 2 CU,.slice (some ⟨1796,0,none⟩) 4 CU],.agg #[.slice (some ⟨9,0,none⟩) 2 CU,.slice (some ⟨4,0,none⟩) 2 2],.slice (some ⟨2927,0,none⟩) 2 2,.int .u32 1],2928,[Nzb0,⟨9,3,1,[.int .i64 0,.int .i64 1]⟩,⟨17,68,2,[.int .i64 1,.int .i64 1]⟩,⟨19,68,2,[.int .i64 0,.int .i64 1]⟩,⟨1083,160,6,[.string (by8 [104]),.int .i64 1,.int .i64 0,.int .i64 0,.int .i64 1,.int .i64 0,.string (by8 [108]),.int .i64 2,.int .i64 0,.int .i64 0,.int .i64 0,.int .i64 0]⟩,Nzb1,Nzb2,Nzb3,Nzb4,Nzb5,Nzb6,Nzb7,Nzb8,Nzb9,yvt,yvp,yvo,⟨1796,193,3,[.string (by8 [102,105,120]),.slice (some ⟨1257,0,none⟩) 17 CU,.slice (some ⟨1422,0,none⟩) 1 CU,.string (by8 [100,114,111,112]),.slice (some ⟨1495,0,none⟩) 7 CU,.slice (some ⟨1515,0,none⟩) 1 CU,.string (by8 [116,97,107,101]),.slice (some ⟨1588,0,none⟩) 7 CU,.slice (some ⟨1608,0,none⟩) 1 CU,.string (by8 [116,105,101]),.slice (some ⟨1766,0,none⟩) 17 CU,.slice (some ⟨1792,0,none⟩) 1 CU]⟩,⟨2925,3,1,[.int .i64 0,.int .i64 0]⟩,⟨2926,3,1,[.int .i64 0,.int .i64 0]⟩,yyl],.tuple #[.slice (some ⟨4322,0,none⟩) 2 2,.int .i64 0],4413,[yejm,⟨4324,3,1,[.int .i64 0,.int .i64 0]⟩,⟨4406,3,1,[.int .i64 0,.int .i64 1]⟩],2928⟩
/- selfstab/memory.Valid -/
def yeia:Fact:=⟨150,[.agg #[.string (by8 [101,108,101,99,116,105,111,110]),.slice (some ⟨1083,0,none⟩) 2 CU,.slice (some ⟨1796,0,none⟩) 4 CU],.agg #[.slice (some ⟨9,0,none⟩) 2 CU,.slice (some ⟨4,0,none⟩) 2 2],.slice (some ⟨2927,0,none⟩) 2 2],4449,[Nzb0,⟨9,3,1,[.int .i64 0,.int .i64 1]⟩,⟨17,68,2,[.int .i64 1,.int .i64 1]⟩,⟨19,68,2,[.int .i64 0,.int .i64 1]⟩,⟨1083,160,6,[.string (by8 [104]),.int .i64 1,.int .i64 0,.int .i64 0,.int .i64 1,.int .i64 0,.string (by8 [108]),.int .i64 2,.int .i64 0,.int .i64 0,.int .i64 0,.int .i64 0]⟩,Nzb1,Nzb2,Nzb3,Nzb4,Nzb5,Nzb6,Nzb7,Nzb8,Nzb9,yvt,yvp,yvo,⟨1796,193,3,[.string (by8 [102,105,120]),.slice (some ⟨1257,0,none⟩) 17 CU,.slice (some ⟨1422,0,none⟩) 1 CU,.string (by8 [100,114,111,112]),.slice (some ⟨1495,0,none⟩) 7 CU,.slice (some ⟨1515,0,none⟩) 1 CU,.string (by8 [116,97,107,101]),.slice (some ⟨1588,0,none⟩) 7 CU,.slice (some ⟨1608,0,none⟩) 1 CU,.string (by8 [116,105,101]),.slice (some ⟨1766,0,none⟩) 17 CU,.slice (some ⟨1792,0,none⟩) 1 CU]⟩,⟨2925,3,1,[.int .i64 0,.int .i64 0]⟩,⟨2926,3,1,[.int .i64 0,.int .i64 0]⟩,yyl],.bool true,5627,[],4449⟩
/- selfstab/step.Enabled -/
def ycaw:Fact:=⟨114,[.agg #[.string (by8 [101,108,101,99,116,105,111,110]),.slice (some ⟨1083,0,none⟩) 2 CU,.slice (some ⟨1796,0,none⟩) 4 CU],.agg #[.slice (some ⟨9,0,none⟩) 2 CU,.slice (some ⟨4,0,none⟩) 2 2],.slice (some ⟨2927,0,none⟩) 2 2],4447,[Nzb0,⟨9,3,1,[.int .i64 0,.int .i64 1]⟩,⟨17,68,2,[.int .i64 1,.int .i64 1]⟩,⟨19,68,2,[.int .i64 0,.int .i64 1]⟩,⟨1083,160,6,[.string (by8 [104]),.int .i64 1,.int .i64 0,.int .i64 0,.int .i64 1,.int .i64 0,.string (by8 [108]),.int .i64 2,.int .i64 0,.int .i64 0,.int .i64 0,.int .i64 0]⟩,Nzb1,Nzb2,Nzb3,Nzb4,Nzb5,Nzb6,Nzb7,Nzb8,Nzb9,yvt,yvp,yvo,⟨1796,193,3,[.string (by8 [102,105,120]),.slice (some ⟨1257,0,none⟩) 17 CU,.slice (some ⟨1422,0,none⟩) 1 CU,.string (by8 [100,114,111,112]),.slice (some ⟨1495,0,none⟩) 7 CU,.slice (some ⟨1515,0,none⟩) 1 CU,.string (by8 [116,97,107,101]),.slice (some ⟨1588,0,none⟩) 7 CU,.slice (some ⟨1608,0,none⟩) 1 CU,.string (by8 [116,105,101]),.slice (some ⟨1766,0,none⟩) 17 CU,.slice (some ⟨1792,0,none⟩) 1 CU]⟩,⟨2925,3,1,[.int .i64 0,.int .i64 0]⟩,⟨2926,3,1,[.int .i64 0,.int .i64 0]⟩,yyl],.int .u32 3,5843,[],4447⟩
def yekk:List Fact:=[yeir,ycka,yeia,ycaw]
theorem ybsv:ybh yekk:=ybh.seq (ybh.cons (f:=Nzm2) ydnw (ybh.cons (f:=ycgo) (ybh.at_ yqu 1 rfl) (ybh.cons (f:=ycjb) (ybh.at_ yqu 7 rfl) (ybh.cons (f:=Nzm3) ydoi (ybh.cons (f:=Nzm4) ydqf ybh.nil))))) (by kernel_rfl)
end Ev
end
section
namespace Ev
def Nzm0:Fact:=ypo.move [] 21
theorem ydsx:yel zF Nzm0:=yfg (ybh.at_ ybif 0 rfl) (by kernel_rfl)
end Ev
end
section
namespace Ev
open Go Go.RowKit
def nzF:List Fact:=[Nzm0,ycka,ycaw]
theorem yefg:ybh nzF:=(ybh.cons (f:=Nzm0) ydsx (ybh.cons (f:=ycka) (ybh.at_ ybsv 1 rfl) (ybh.cons (f:=ycaw) (ybh.at_ ybsv 3 rfl) ybh.nil)))
def nzH:Hooks:=⟨some 118,some 245,some 175,symB,[⟨1000000000000,nzF⟩],some 122⟩
theorem yecv:HooksOk zF nzH:=⟨fun g h=>(by cases h;exact ybri),fun g h=>(by cases h;exact yup),fun g h=>(by cases h;exact ycgj),ydb.cons yefg ydb.nil,fun g h=>(by cases h;exact ybeu)⟩
def nzT:Option Value->Bool
 |some (.bool b)=>b
 |_=>false
theorem yeae:∀{o:Option Value},nzT o=true->o=some (.bool true)
 |some (.bool true),_=>rfl
set_option maxRecDepth 1000000 in
theorem ybpc:outV (ev zF nzH 3000 (.call 46 [] mem0))=some (.bool true):=yeae (by kernel_rfl)
theorem ydlx(w:World)(a:GlW w):Calls zF 46 #[] w fun e b=>e = .returned (.bool true)/\Below w.heap.size w b :=
 ybgn mix ytb yecv ybpc rfl rfl ⟨_,_,zCL,rfl⟩ w a
end Ev
end
section
namespace Sh
open Go Ev Go.RowKit
theorem ybma:Returns zF 46 [] (.b true):=by
 refine ybry ⟨_,_,zCL,rfl⟩ (fun _=>.b) (fun _=>.simple rfl) fun G m i g c j M w f a h d=>?_;cases c
 cases d
 exact ydlx w fun x e=>(a.gl x e).1
end Sh
end
section
namespace Ev
theorem yun:∀l:List UInt8,ymv l l=true
 |[]=>rfl
 | x::l=>by
   show(zI x.toNat x.toNat&&ymv l l)=true;rw[zH,yun l];rfl
theorem ybcg{ρ:Nat->Nat}{a:Addr}(h:a.spot.isNone=true):yze (renA ρ a) (renA ρ a)=true:=by
 rw[ynn];unfold yze;simp only[zH,h,Bool.and_self]
theorem yccq{ρ:Nat->Nat}{v:Value}(b:yvr v=true)(h:eq1 v v=true):eq1 (ren1 ρ v) (ren1 ρ v)=true:=by
 unfold yvr at b;split at b
 .exact ybcg b
 .rename_i a n c
  show(yze (renA ρ a) (renA ρ a)&&zI n n&&zI c c)=true;rw[ybcg b,zH,zH];rfl
 .rename_i d e
  have:ren1 ρ v=v:=by
   unfold ren1;split
   .rename_i a;exact absurd rfl (d a)
   .rename_i a n c;exact absurd rfl (e a n c)
   .rfl
  rw[this];exact h
theorem yxb{ρ:Nat->Nat}:∀{l:List Value},l.all yvr=true->eqL1 l l=true->eqL1 (l.map (ren1 ρ)) (l.map (ren1 ρ))=true
 |[],_,_=>rfl
 | x::l,a,h=>by
   simp only[zCD,zC]at a;have h:(eq1 x x&&eqL1 l l)=true:=h;rw[zC]at h;show(eq1 (ren1 ρ x) (ren1 ρ x)&&eqL1 (l.map (ren1 ρ)) (l.map (ren1 ρ)))=true;rw[yccq a.1 h.1,yxb a.2 h.2];rfl
theorem ycag{v:Value}(b:∀a,v = .agg a->False)(d:∀g a c,v = .func (.func g) a c->False):eq2 v v=eq1 v v:=by
 cases v with
 |agg a=>exact(b a rfl).elim
 | func f a c=>cases f with
   |func g=>exact(d g a c rfl).elim
   |_=>rfl
 |_=>rfl
theorem ybzr{ρ:Nat->Nat}{v:Value}(b:∀a,v = .agg a->False)(d:∀g a c,v = .func (.func g) a c->False)(e:yvr v=true):ren2 ρ v=ren1 ρ v:=by
 cases v with
 |agg a=>exact(b a rfl).elim
 | func f a c=>cases f with
   |func g=>exact(d g a c rfl).elim
   |_=>cases e
 |_=>rfl
theorem ybbi{ρ:Nat->Nat}{v:Value}(b:yvr v=true):(∀a,ren1 ρ v = .agg a->False)/\∀g a c,ren1 ρ v = .func (.func g) a c->False:=by
 cases v with
 |agg a=>cases b
 |func f a c=>cases b
 |pointer p=>cases p<;>exact⟨fun _ h=>(by cases h),fun _ _ _ h=>(by cases h)⟩
 |slice p n c=>cases p<;>exact⟨fun _ h=>(by cases h),fun _ _ _ h=>(by cases h)⟩
 |_=>exact⟨fun _ h=>(by cases h),fun _ _ _ h=>(by cases h)⟩
theorem ycit{ρ:Nat->Nat}{v:Value}(b:yot v=true)(h:eq2 v v=true):eq2 (ren2 ρ v) (ren2 ρ v)=true:=by
 unfold yot at b;split at b
 .rename_i a
  have h:eqL1 a.toList a.toList=true:=h;show eqL1 (a.toList.map (ren1 ρ)).toArray.toList (a.toList.map (ren1 ρ)).toArray.toList=true;exact yxb b h
 .rename_i g a c
  rw[zC]at b;have h:(zI g g&&eqL1 a.toList a.toList&&eqL1 c.toList c.toList)=true:=h;simp only[zC]at h;show(zI g g&&eqL1 (a.toList.map (ren1 ρ)).toArray.toList (a.toList.map (ren1 ρ)).toArray.toList&&eqL1 (c.toList.map (ren1 ρ)).toArray.toList (c.toList.map (ren1 ρ)).toArray.toList)=true;rw[zH,yxb b.1 h.1.2,yxb b.2 h.2];rfl
 .rename_i d e
  rw[ycag d e]at h;rw[ybzr d e b,ycag (ybbi b).1 (ybbi b).2];exact yccq b h
def reflB(b:BlkL):Bool:=b.l.all (fun v=>eq2 v v&&yot v)&&zAE b.l.length 1000000
theorem yyo{ρ:Nat->Nat}{b:BlkL}(h:reflB b=true):∀v∈(b.ren ρ).l,eq2 v v=true:=by
 unfold reflB at h;rw[zC]at h;intro v a;obtain⟨x,c,rfl⟩:=List.mem_map.1 a;have:=List.all_eq_true.1 h.1 x c;rw[zC]at this;exact ycit this.2 this.1
theorem yqy{l:List Value}(h:∀v∈l,eq2 v v=true):∀(k:List Value) (n:Nat),l.drop n=k->ylo (tOf l) n k=true
 |[],_,_=>rfl
 | v :: k,n,e=>by
   have a:n<l.length:=by
    rcases Nat.lt_or_ge n l.length with q|q
    .exact q
    .rw[List.drop_eq_nil_of_le q]at e;cases e
   rw[zAT a]at e
   injection e with e1 e2
   unfold ylo;rw[ydm,zO a,e1];simp only;rw[h v (by rw[<-e1];exact zAV _),yqy h k (n+1) e2]
   rfl
theorem ysp{m:Mem}{b:BlkL}(a:m.b.get b.i=some b.blk)(h:∀v∈b.l,eq2 v v=true)(c:zAE b.l.length 1000000=true):yza m b=true:=by
 unfold yza;rw[a];show(zI b.l.length b.l.length&&zI b.e b.e&&zI b.z b.z&&zAE b.l.length 1000000&&ylo (tOf b.l) 0 b.l)=true;rw[zH,zH,zH,c,yqy h b.l 0 (List.drop_zero ..)];rfl
theorem yyu:∀{l:List BlkL}{t:T ABlk}{i:Nat},(∀b∈l,b.i≠i)->(yiy t l).get i=t.get i
 |[],_,_,_=>rfl
 | b::l,t,i,h=>by
   unfold yiy;rw[T.strict_eq,yyu fun c a=>h c (zAM _ a),T.set_at,if_neg (fun e=>h b zV e.symm)]
theorem yxe:∀{l:List BlkL}{t:T ABlk},yiq (l.map (·.i))=true->∀b∈l,(yiy t l).get b.i=some b.blk
 |[],_,_,b,a=>by cases a
 | c :: l,t,h,b,a=>by
   have h:(!(l.map (·.i)).elem c.i&&yiq (l.map (·.i)))=true:=h;rw[zC,zX]at h;unfold yiy;rw[T.strict_eq];rcases List.mem_cons.1 a with e|a
   .subst e;rw[yyu fun d f e=>?_,T.set_at,if_pos rfl];have:(l.map (·.i)).elem b.i=true:=List.elem_eq_true_of_mem (List.mem_map.2 ⟨d,f,e⟩);rw[this]at h;cases h.1
   .exact yxe h.2 b a
theorem yqz:∀{l:List Nat},l.Nodup->yiq l=true
 |[],_=>rfl
 | x :: l,h=>by
   rw[zAY]at h;show(!(l.elem x)&&yiq l)=true
   have:l.elem x=false:=by
    cases a:l.elem x with
    |false=>rfl
    |true=>exact absurd (by simpa using a) h.1
   rw[this,yqz h.2];rfl
theorem ybdm:∀{l:List Nat},yiq l=true->l.Nodup
 |[],_=>zBD
 | x::l,h=>by
   have h:(!(l.elem x)&&yiq l)=true:=h;rw[zC,zX]at h;rw[zAY];refine⟨fun a=>?_,ybdm h.2⟩;have:l.elem x=true:=by simpa using a
   rw[this]at h;cases h.1
theorem ybsm{d:Nat}:∀{l:List BlkL}{k:List Nat},(l.map (·.i)).Nodup->l.length=k.length->l.map (fun b=>ybgk l k d b.i)=k
 |[],[],_,_=>rfl
 | b :: l,t::k,a,g=>by
   rw[zBI,zAY]at a;have m:=ybsm (d:=d) a.2 (by simpa using g)
   rw[zBI];have e:ybgk (b::l) (t::k) d b.i=t:=by unfold ybgk;rw[zH];rfl
   rw[e];congr 1;refine zCF (zU fun c f=>?_) m;show(bif zI b.i c.i then t else ybgk l k d c.i)=_
   have:zI b.i c.i=false:=by
    cases j:zI b.i c.i with
    |false=>rfl
    |true=>exact absurd (List.mem_map.2 ⟨c,f,(zW j).symm⟩) a.1
   rw[this];rfl
 |[],_::_,_,h=>by cases h
 |_::_,[],_,h=>by cases h
def Fact.still(f:Fact):Bool:=zAO f.next0 f.low&&f.args.all yot&&ychz f.v&&f.pre.all (fun b=>zAE b.i f.next0&&reflB b)&&yiq (f.pre.map (·.i))&&f.post.all (fun b=>zAO f.next0 b.i&&zAE b.i f.next1&&reflB b)&&yiq (f.post.map (·.i))&&zAO f.next0 f.next1
theorem yddx{a b:Nat}(h:zAE a b=true):a<b:=zBM (Nat.lt_succ_self _) (zK h)
theorem ybsw{a b:Nat}(h:a<b):zAE a b=true:=zAC h
theorem yqf{f:Fact}(h:f.still=true):f.next0<=f.low/\(f.args.all yot=true/\ychz f.v=true)/\(∀b∈f.pre,b.i<f.next0/\reflB b=true)/\(f.pre.map (·.i)).Nodup/\(∀b∈f.post,f.next0<=b.i/\b.i<f.next1/\reflB b=true)/\(f.post.map (·.i)).Nodup/\f.next0<=f.next1:=by
 unfold Fact.still at h;simp only[zC]at h;obtain⟨⟨⟨⟨⟨⟨⟨c,d⟩,e⟩,g⟩,j⟩,k⟩,l⟩,m⟩:=h;refine⟨zK c,⟨d,e⟩,fun b a=>?_,ybdm j,fun b a=>?_,ybdm l,zK m⟩
 .have:=List.all_eq_true.1 g b a;rw[zC]at this;exact⟨yddx this.1,this.2⟩
 .have:=List.all_eq_true.1 k b a;simp only[zC]at this;exact⟨zK this.1.1,yddx this.1.2,this.2⟩
theorem ycfy{f:Fact}{tgt:List Nat}{n0:Nat}(g:∀b∈f.pre,b.i<f.next0/\reflB b=true)(e:(f.pre.map (·.i)).Nodup)(c:f.pre.length=tgt.length):f.pre.map (fun b=>f.rho tgt n0 b.i)=tgt:=by
 refine zCF (zU fun b a=>?_) (ybsm (d:=Nat.add n0 (Nat.sub f.next1 f.next0)) e c);unfold Fact.rho;have j:=(g b a).1
 have:(zAO f.next0 b.i&&zAE b.i f.next1)=false:=by
  rw[Bool.and_eq_false_iff];left
  cases h:zAO f.next0 b.i with
  |false=>rfl
  |true=>have:=zK h;omega
 rw[this];rfl
theorem ybti{f:Fact}{tgt:List Nat}{n0 i:Nat}(a:f.next0<=i)(b:i<f.next1):f.rho tgt n0 i=i-f.next0+n0:=by
 unfold Fact.rho;rw[Bool.cond_eq_ite,if_pos (by rw[zAC a,ybsw b];rfl)]
 rfl
theorem ybcy{P:Program}{f:Fact}{tgt:List Nat}{n0:Nat}(r:yel P f)(E:f.still=true)(C:f.pre.length=tgt.length)(D:tgt.Nodup)(q:∀t∈tgt,t<n0):yel P (f.move tgt n0):=by
 refine yfg r ?_;obtain⟨H,⟨I,J⟩,m,K,j,z,L⟩:=yqf E
 have k:(f.move tgt n0).pre.map (·.i)=tgt:=by
  show(f.pre.map (BlkL.ren (f.rho tgt n0))).map (·.i)=tgt;rw[zAN];exact zCF (zU fun b a=>b.yid) (ycfy (n0:=n0) m K C)
 have s:yiq ((f.move tgt n0).post.map (·.i))=true:=by
  refine yqz ?_;show((f.post.map (BlkL.ren (f.rho tgt n0))).map (·.i)).Nodup
  have e:(f.post.map (BlkL.ren (f.rho tgt n0))).map (·.i)=(f.post.map (·.i)).map (fun i=>i-f.next0+n0):=by
   rw[zAN,zAN];refine zU fun b a=>?_;show(b.ren (f.rho tgt n0)).i=b.i-f.next0+n0;rw[b.yid,ybti (j b a).1 (j b a).2.1]
  rw[e];unfold List.Nodup at z ⊢;rw[zAG];refine List.Pairwise.imp_of_mem (fun {x y} F G h=>?_) z;obtain⟨B,o,rfl⟩:=List.mem_map.1 F;obtain⟨n,p,rfl⟩:=List.mem_map.1 G;have:=(j B o).1;have:=(j n p).1;omega
 have g:yiq ((f.move tgt n0).pre.map (·.i))=true:=by rw[k];exact yqz D
 unfold Fact.moves;simp only[zC];refine⟨⟨⟨⟨⟨⟨⟨⟨zAC H,I⟩,J⟩,?_⟩,?_⟩,g⟩,?_⟩,?_⟩,zAC L⟩
 .refine List.all_eq_true.2 fun b a=>?_;have:=(m b a).2;unfold reflB at this;rw[zC]at this;rw[ybsw (m b a).1,zL];exact List.all_eq_true.2 fun v u=>by have:=List.all_eq_true.1 this.1 v u;rw[zC]at this;exact this.2
 .refine List.all_eq_true.2 fun b a=>?_;have:=(j b a).2.2;unfold reflB at this;rw[zC]at this;rw[ybsw (j b a).2.1,zL];exact List.all_eq_true.2 fun v u=>by have:=List.all_eq_true.1 this.1 v u;rw[zC]at this;exact this.2
 .refine List.all_eq_true.2 fun A c=>?_;obtain⟨b,a,rfl⟩:=List.mem_map.1 c;have d:=(m b a).2;have w:(b.ren (f.rho tgt n0)).i∈(f.move tgt n0).pre.map (·.i):=List.mem_map.2 ⟨_,c,rfl⟩;rw[k]at w;rw[ybsw (q _ w),zL];refine ysp (yxe g _ c) (yyo d) ?_;show zAE (b.l.map _).length 1000000=true;rw[zQ];unfold reflB at d;rw[zC]at d;exact d.2
 .refine List.all_eq_true.2 fun A c=>?_;obtain⟨b,a,rfl⟩:=List.mem_map.1 c;have d:=(j b a).2.2;refine ysp (yxe s _ c) (yyo d) ?_;show zAE (b.l.map _).length 1000000=true;rw[zQ];unfold reflB at d;rw[zC]at d;exact d.2
end Ev
end
section
namespace Sh
open Go Ev
def Lies(B:List BlkL)(v:Value)(F:AM)(u:Value):Prop :=
 ∃ρ:Nat->Nat,(∀b∈B,∀c∈B,ρ b.i=ρ c.i->b.i=c.i)/\(∀b∈B,F (ρ b.i)=some (b.ren ρ).blk)/\u=ren1 ρ v
theorem Lies.mono{B:List BlkL}{v:Value}(F G:AM)(u:Value)(h:Le F G)(k:Lies B v F u):Lies B v G u:=by
 obtain⟨ρ,a,c,d⟩:=k;exact⟨ρ,a,fun b e=>h _ _ (c b e),d⟩
def yejz(B:List BlkL)(j:Nat):Option BlkL:=B.find? fun b=>zI b.i j
def ycnt(p:Nat->Bool):Nat->Bool
 |0=>true
 |n+1=>p n&&ycnt p n
theorem ybuh{p:Nat->Bool}:∀{n:Nat},ycnt p n=true->∀k,k<n->p k=true
 |0,_,k,h=>absurd h (zZ k)
 | n+1,h,k,hk=>by
   have h:(p n&&ycnt p n)=true:=h;rw[zC]at h
   by_cases q:k=n
   .rw[q];exact h.1
   .exact ybuh h.2 k (by omega)
def ybos(B:List BlkL)(z n:Nat)(row:Nat->List Value->Bool):Value->Bool
 | .slice (some a) m _=>a.spot.isNone&&zI m n&&(match yejz B a.block with
   |some b=>zI b.z z&&zAO (a.off+n*z) b.l.length&&ycnt (fun k=>row k ((b.l.drop (a.off+k*z)).take z)) n
   |none=>false)
 |.slice none 0 0=>zI n 0
 |_=>false
theorem yxd {B:List BlkL}{F:AM}{ρ:Nat->Nat}{z n:Nat}{row:Nat->List Value->Bool}{v:Value}{g:Nat->List SV}(D:∀b∈B,F (ρ b.i)=some (b.ren ρ).blk) (h:ybos B z n row v=true)
 (I:∀k L,k<n->row k L=true->L.length=z/\RVL F om0 (g k) (L.map (ren2 ρ))/\(g k).all one1=true):RV F om0 (.sl z n g) (ren1 ρ v):=by
 unfold ybos at h;split at h
 .rename_i a m c
  simp only[zC]at h;obtain⟨⟨x,y⟩,f⟩:=h;split at f
  .rename_i b u
   simp only[zC]at f;obtain⟨⟨f,s⟩,C⟩:=f;have H:m=n:=zW y;have J:=zW f;have s:=zK s;have q:=List.mem_of_find?_eq_some u;have E:b.i=a.block:=zW (List.find?_some (p:=fun b:BlkL=>zI b.i a.block) u);have r:=D b q;rw[E]at r;show RV F om0 _ (.slice (some (renA ρ a)) m c);rw[ynn];subst H;obtain⟨A,o,K⟩:=a;have t:K=none:=by simpa using x
   subst t;have r:F (ρ A)=some (.cells (tOf (b.l.map (ren2 ρ))) (b.l.map (ren2 ρ)).length b.e b.z):=r;have d:∀k,k<m->_:=fun k hk=>I k _ hk (ybuh C k hk);refine .sl (L:=fun k=>((b.l.drop (o+k*z)).take z).map (ren2 ρ)) r (.inl J) (by rw[zQ];exact s) ?_ ?_ (fun k hk=>(d k hk).2.1) (fun k hk=>(d k hk).2.2)
   .intro k hk;rw[zQ];exact(d k hk).1
   .intro k hk j G;rw[ydm];simp only[zBO,List.getElem?_take,List.getElem?_drop,G,if_true]
  .cases f
 .have h:zI n 0=true:=h;have w:=zW h;subst w;exact .sl0 (.inl rfl)
 .cases h
def isI(v:Value)(n:Int):Bool:=match v with
 |.int .i64 m=>ybke m n
 |_=>false
def isS(v:Value)(s:ByteArray):Bool:=match v with
 |.string t=>ymv t.data.toList s.data.toList
 |_=>false
theorem yuf{F:AM}{ρ:Nat->Nat}{v:Value}{n:Int}(h:isI v n=true):RV F om0 (.i .i64 n) (ren2 ρ v):=by
 unfold isI at h;split at h
 .rw[ywp h];exact .i
 .cases h
theorem ydld{F:AM}{ρ:Nat->Nat}{v:Value}{s:ByteArray}(h:isS v s=true):RV F om0 (.a (.string s)) (ren2 ρ v):=by
 unfold isS at h;split at h
 .rename_i t
  have e:=yss h
  have:t=s:=by
   cases t;cases s
   congr 1;exact Array.toList_inj.1 e
  rw[this];exact .a rfl
 .cases h
def yehn(ls:List (Int×Int))(k:Nat):List Value->Bool
 |[x,y]=>isI x (ls.getD k (0,0)).1&&isI y (ls.getD k (0,0)).2
 |_=>false
def ydbs(l:List VarR)(k:Nat):List Value->Bool
 |[s,a,b,c,d,e]=>isS s (l.getD k default).name&&isI a (l.getD k default).kind&&isI b (l.getD k default).lo&&isI c (l.getD k default).hi&&isI d (l.getD k default).perNode&&isI e (l.getD k default).perID
 |_=>false
def ybgf(B:List BlkL)(ls:List (Int×Int))(v:Value):Bool:=ybos B 2 ls.length (yehn ls) v
def isSl:Value->Bool
 |.slice _ _ _=>true
 |_=>false
def ycii(B:List BlkL)(l:List SetR)(k:Nat):List Value->Bool
 |[a,v]=>isI a (l.getD k default).var&&isSl v&&ybgf B (l.getD k default).val v
 |_=>false
def ycip(B:List BlkL)(l:List RuleR)(k:Nat):List Value->Bool
 |[s,v,w]=>isS s (l.getD k default).name&&isSl v&&ybgf B (l.getD k default).guard v&&isSl w&&ybos B 2 (l.getD k default).sets.length (ycii B (l.getD k default).sets) w
 |_=>false
def ycax(B:List BlkL)(v:Value)(l:List VarR):Bool:=ybos B 6 l.length (ydbs l) v
def ybta(B:List BlkL)(v:Value)(l:List RuleR):Bool:=ybos B 3 l.length (ycip B l) v
section
variable {B:List BlkL}{F:AM}{ρ:Nat->Nat}
theorem ybnr{v:Value}(h:isSl v=true):ren2 ρ v=ren1 ρ v:=by
 unfold isSl at h;split at h
 .rfl
 .cases h
theorem yyr(c:∀b∈B,F (ρ b.i)=some (b.ren ρ).blk){ls:List (Int×Int)}{v:Value}(h:ybgf B ls v=true):RV F om0 (yx ls) (ren1 ρ v):=by
 refine yxd c h fun k L hk a=>?_;unfold yehn at a;split at a
 .simp only[zC]at a;exact⟨rfl,.cons (yuf a.1) (.cons (yuf a.2) .nil),rfl⟩
 .cases a
theorem ybyb(m:∀b∈B,F (ρ b.i)=some (b.ren ρ).blk){l:List VarR}{v:Value}(h:ycax B v l=true):RV F om0 (yfq l) (ren1 ρ v):=by
 refine yxd m h fun k L hk a=>?_;unfold ydbs at a;split at a
 .simp only[zC]at a;obtain⟨⟨⟨⟨⟨c,d⟩,e⟩,f⟩,g⟩,j⟩:=a;exact⟨rfl,.cons (ydld c) (.cons (yuf d) (.cons (yuf e) (.cons (yuf f) (.cons (yuf g) (.cons (yuf j) .nil))))),rfl⟩
 .cases a
theorem ybxz(c:∀b∈B,F (ρ b.i)=some (b.ren ρ).blk){l:List SetR}{v:Value}(h:ybos B 2 l.length (ycii B l) v=true):RV F om0 (yka l) (ren1 ρ v):=by
 refine yxd c h fun k L hk a=>?_;unfold ycii at a;split at a
 .simp only[zC]at a;obtain⟨⟨d,e⟩,f⟩:=a;refine⟨rfl,.cons (yuf d) (.cons ?_ .nil),rfl⟩;rw[ybnr e];exact yyr c f
 .cases a
theorem ybog(c:∀b∈B,F (ρ b.i)=some (b.ren ρ).blk){l:List RuleR}{v:Value}(h:ybta B v l=true):RV F om0 (ydo l) (ren1 ρ v):=by
 refine yxd c h fun k L hk a=>?_;unfold ycip at a;split at a
 .simp only[zC]at a;obtain⟨⟨⟨⟨d,e⟩,f⟩,g⟩,j⟩:=a;refine⟨rfl,.cons (ydld d) (.cons ?_ (.cons ?_ .nil)),rfl⟩
  .rw[ybnr e];exact yyr c f
  .rw[ybnr g];exact ybxz c j
 .cases a
end
structure LaidP(fp:Fact)(t:ByteArray)(p:ProgR)(vv vr:Value)(Bv Br:List BlkL):Prop where
 args:fp.args=[.string t]
 pre:fp.pre=[]
 v:fp.v = .agg #[.string p.name,vv,vr]
 still:fp.still=true
 bv:∀b∈Bv,b∈fp.post
 br:∀b∈Br,b∈fp.post
 vars:ycax Bv vv p.vars=true
 rules:ybta Br vr p.rules=true
theorem ycqx{P:Program}{fp:Fact}{t:ByteArray}{p:ProgR}{N M:Value}{Q O:List BlkL}(I:yel P fp)(h:LaidP fp t p N M Q O):Returns P fp.g [.a (.string t)] (.ag (yfz (Lies Q N) (Lies O M) p)):=by
 intro G m Z L T K
 have V:Z=[.string t]:=by
  cases K with
  |cons a b=>cases a with|a _=>cases b with|nil=>rfl
 subst V;obtain⟨s1,⟨s2,s3⟩,s4,s5,q,R,s8⟩:=yqf h.still;have E:=ybcy (tgt:=[]) (n0:=m.next) I h.still (by rw[h.pre];rfl) zBD (fun t U=>by cases U)
 obtain⟨ρ,o⟩:∃ρ,fp.rho [] m.next=ρ:=⟨_,rfl⟩
 have n:(fp.move [] m.next).post=fp.post.map (BlkL.ren ρ):=by rw[<-o];rfl
 have W:(fp.move [] m.next).v = .agg #[.string p.name,ren1 ρ N,ren1 ρ M]:=by
  show renV (fp.rho [] m.next) fp.v=_
  rw[o,h.v];rfl
 have l:(fp.move [] m.next).pre=[]:=by
  show fp.pre.map _=[];rw[h.pre];rfl
 have r:(fp.move [] m.next).fits fp.g [.string t] m=true:=by
  unfold Fact.fits;rw[l];show(zI fp.g fp.g&&zI m.next m.next&&eqL2 (fp.args.map (ren2 _)) [.string t]&&true)=true
  rw[zH,zH,h.args];show(true&&true&&(ymv t.data.toList t.data.toList&&true)&&true)=true;rw[yun];rfl
 have f:∀b∈fp.post,ρ b.i=b.i-fp.next0+m.next:=fun b d=>by rw[<-o];exact ybti (q b d).1 (q b d).2.1
 have H:yiq ((fp.post.map (BlkL.ren ρ)).map (·.i))=true:=by
  refine yqz ?_
  have e:(fp.post.map (BlkL.ren ρ)).map (·.i)=(fp.post.map (·.i)).map (fun i=>i-fp.next0+m.next):=by
   rw[zAN,zAN];refine zU fun b d=>?_;show(b.ren ρ).i=_;rw[b.yid,f b d];rfl
  rw[e];unfold List.Nodup at R ⊢;rw[zAG];refine List.Pairwise.imp_of_mem (fun {x y} X Y h=>?_) R;obtain⟨S,z,rfl⟩:=List.mem_map.1 X;obtain⟨u,C,rfl⟩:=List.mem_map.1 Y;have:=(q S z).1;have:=(q u C).1;omega
 have J:=ybev E r;unfold Fact.out at J;rw[W,l,n]at J;refine⟨_,_,_,J,zAD _,?_,rfl,?_⟩
 .intro i b d;show(yiy m.b (fp.post.map (BlkL.ren ρ))).get i=some b;rw[yyu fun c j=>?_]
  .exact d
  .obtain⟨c,D,rfl⟩:=List.mem_map.1 j;have:=L i b d;rw[c.yid,f c D];omega
 .have s:∀b∈fp.post,frsh m.next ⟨(fp.move [] m.next).next1,yiy m.b (fp.post.map (BlkL.ren ρ)),(fp.move [] m.next).low⟩ G (ρ b.i)=some (b.ren ρ).blk:=fun b d=>by
   unfold frsh;rw[if_pos (by rw[f b d];omega)]
   have:=yxe (t:=m.b) H _ (List.mem_map.2 ⟨b,d,rfl⟩);rw[b.yid]at this;exact this
  have k:∀b∈fp.post,∀c∈fp.post,ρ b.i=ρ c.i->b.i=c.i:=fun b d c j e=>by
   rw[f b d,f c j]at e;have:=(q b d).1;have:=(q c j).1;omega
  refine .ag (.cons (.a rfl) (.cons (.ex ?_ (fun A B w=>Lies.mono A B w) ?_) (.cons (.ex ?_ (fun A B w=>Lies.mono A B w) ?_) .nil)))
  .exact⟨ρ,fun b d c j=>k b (h.bv b d) c (h.bv c j),fun b d=>s b (h.bv b d),rfl⟩
  .exact ybyb (fun b d=>s b (h.bv b d)) h.vars
  .exact⟨ρ,fun b d c j=>k b (h.br b d) c (h.br c j),fun b d=>s b (h.br b d),rfl⟩
  .exact ybog (fun b d=>s b (h.br b d)) h.rules
def inB(B:List BlkL):Value->Bool
 |.slice (some a) _ _=>(B.map (·.i)).elem a.block
 |.pointer (some a)=>(B.map (·.i)).elem a.block
 |.agg _=>false
 |.func _ _ _=>false
 |_=>true
theorem yks{B:List BlkL}{ρ σ:Nat->Nat}(h:∀b∈B,ρ b.i=σ b.i){v:Value}(d:inB B v=true):ren1 ρ v=ren1 σ v:=by
 have hk:∀j,(B.map (·.i)).elem j=true->ρ j=σ j:=fun j g=>by
  have:j∈B.map (·.i):=by simpa using g
  obtain⟨b,e,rfl⟩:=List.mem_map.1 this;exact h b e
 cases v with
 | slice p n c=>cases p with
   |none=>rfl
   | some a =>
     show Value.slice (some (renA ρ a)) n c = .slice (some (renA σ a)) n c;rw[ynn,ynn,hk _ d]
 | pointer p=>cases p with
   |none=>rfl
   | some a =>
     show Value.pointer (some (renA ρ a)) = .pointer (some (renA σ a));rw[ynn,ynn,hk _ d]
 |agg a=>cases d
 |func f a c=>cases d
 |_=>rfl
theorem ybqg{B:List BlkL}{d:Nat->Nat}{v:Value}(b:inB B v=true):ren2 d v=ren1 d v:=by
 cases v with
 |agg a=>cases b
 |func f a c=>cases b
 |_=>rfl
theorem ybyi{B:List BlkL}{ρ σ:Nat->Nat}(h:∀b∈B,ρ b.i=σ b.i){v:Value}(a:inB B v=true):ren2 ρ v=ren2 σ v:=by
 rw[ybqg a,ybqg a];exact yks h a
def ybom(B:List BlkL):Bool:=B.all fun b=>b.l.all (inB B)
theorem ybid{B:List BlkL}{ρ σ:Nat->Nat}(f:ybom B=true)(h:∀b∈B,ρ b.i=σ b.i){b:BlkL}(c:b∈B):b.ren ρ=b.ren σ:=by
 have d:=List.all_eq_true.1 (List.all_eq_true.1 f b c)
 have e:∀a:Nat->Nat,b.ren a=⟨a b.i,b.e,b.z,b.l.map (ren2 a)⟩:=fun a=>by
  unfold BlkL.ren;rw[ybr]
 rw[e,e,h b c];congr 1;exact zU fun v g=>ybyi h (d v g)
theorem ybch{low:Nat}:∀{l:List BlkL}{t:T ABlk},(∀b∈l,b.i<low)->ymr t low l=t
 |[],_,_=>rfl
 | b :: l,t,h=>by
   have d:=h b zV;unfold ymr
   have e:zAO low b.i=false:=by
    cases q:zAO low b.i with
    |false=>rfl
    |true=>have:=zK q;omega
   rw[e,ybg,if_neg (by simp)]
   exact ybch fun c a=>h c (zAM _ a)
structure GoodV(fv:Fact)(p:ProgR)(vv vr:Value)(Bv Br:List BlkL):Prop where
 args:fv.args=[.agg #[.string p.name,vv,vr]]
 pre:∀b∈fv.pre,b∈Bv\/b∈Br
 bv:∀b∈Bv,b∈fv.pre
 br:∀b∈Br,b∈fv.pre
 v:fv.v = .bool true
 post:fv.post=[]
 still:fv.still=true
 apart:(Bv.all fun b=>Br.all fun c=>!(zI b.e c.e) && !(zI b.i c.i))=true
 cv:ybom Bv=true
 cr:ybom Br=true
 iv:inB Bv vv=true
 ir:inB Br vr=true
 refl:eq2 (.agg #[.string p.name,vv,vr]) (.agg #[.string p.name,vv,vr])=true
theorem ycqt{P:Program}{fv:Fact}{p:ProgR}{w u:Value}{Bv z:List BlkL}(a7:yel P fv)(h:GoodV fv p w u Bv z):Returns P fv.g [.ag (yfz (Lies Bv w) (Lies z u) p)] (.b true):=by
 intro G m us a9 L a8
 obtain⟨f,j,hu,a1,a2,a3,a4⟩:∃f j:Nat->Nat,us=[.agg #[.string p.name,ren1 f w,ren1 j u]]/\(∀b∈Bv,∀c∈Bv,f b.i=f c.i->b.i=c.i)/\(∀b∈Bv,G (f b.i)=some (b.ren f).blk) /\
  (∀b∈z,∀c∈z,j b.i=j c.i->b.i=c.i)/\∀b∈z,G (j b.i)=some (b.ren j).blk:=by
  cases a8 with
  | cons a b =>
    cases b
    cases a with
    | ag K =>
      cases K with
      | cons x1 K =>
        cases x1
        cases K with
        | cons x2 K =>
          cases x2 with
          | ex q2 _ _ =>
            cases K with
            | cons x3 K =>
              cases x3 with
              | ex q3 _ _ =>
                cases K
                obtain⟨f,b1,b2,rfl⟩:=q2;obtain⟨j,b3,b4,rfl⟩:=q3;exact⟨f,j,rfl,b1,b2,b3,b4⟩
 subst hu;obtain⟨s1,⟨s2,s3⟩,s4,S,s6,s7,s8⟩:=yqf h.still
 have V:∀b∈Bv,∀c∈z,b.e≠c.e/\b.i≠c.i:=fun b k c A=>by
  have:=List.all_eq_true.1 (List.all_eq_true.1 h.apart b k) c A;simp only[zC,zX]at this;exact⟨fun e=>(by rw[e,zH]at this;exact absurd this.1 (by decide)),fun e=>(by rw[e,zH]at this;exact absurd this.2 (by decide))⟩
 let R:Nat->Nat:=fun i=>if (Bv.map (·.i)).elem i then f i else j i
 have o:∀b∈Bv,∀c∈z,f b.i≠j c.i:=fun b k c A e=>by
  have U:=a2 b k;have e2:=a4 c A;rw[e,e2]at U
  injection U with U
  unfold BlkL.blk at U
  injection U with _ _ e3 _
  exact(V b k c A).1 e3.symm
 have hG:∀i b,G i=some b->i<m.next:=fun i b k=>a9 i b (L i b k)
 have T:∀b∈Bv,R b.i=f b.i:=fun b k=>if_pos (by simpa using⟨b,k,rfl⟩)
 have sr:∀b∈z,R b.i=j b.i:=fun b k=>by
  refine if_neg fun q=>?_;have:b.i∈Bv.map (·.i):=by simpa using q
  obtain⟨d,hd,a5⟩:=List.mem_map.1 this;exact(V d hd b k).2 a5
 have s:∀b∈fv.pre,R b.i<m.next:=fun b k=>by
  rcases h.pre b k with q|q
  .rw[T b q];exact hG _ _ (a2 b q)
  .rw[sr b q];exact hG _ _ (a4 b q)
 have Z:∀b∈fv.pre,∀c∈fv.pre,R b.i=R c.i->b.i=c.i:=fun b k c A e=>by
  rcases h.pre b k with q|q<;>rcases h.pre c A with E|E
  .rw[T b q,T c E]at e;exact a1 b q c E e
  .rw[T b q,sr c E]at e;exact absurd e (o b q c E)
  .rw[sr b q,T c E]at e;exact absurd e.symm (o c E b q)
  .rw[sr b q,sr c E]at e;exact a3 b q c E e
 obtain⟨n,r⟩:∃t,fv.pre.map (fun b=>R b.i)=t:=⟨_,rfl⟩
 have b0:∀t∈n,t<m.next:=fun t ht=>by
  rw[<-r]at ht;obtain⟨b,k,rfl⟩:=List.mem_map.1 ht;exact s b k
 have b5:n.Nodup:=by
  rw[<-r];have S:=S;unfold List.Nodup at S ⊢;rw[zAG]at S ⊢;exact List.Pairwise.imp_of_mem (fun {x y} hx hy h e=>h (Z x hx y hy e)) S
 have I:fv.pre.length=n.length:=by rw[<-r,zQ]
 have a6:=ybcy (n0:=m.next) a7 h.still I b5 b0
 have H:=ycfy (n0:=m.next) s4 S I
 obtain⟨ρ,Q⟩:∃ρ,fv.rho n m.next=ρ:=⟨_,rfl⟩
 rw[Q,<-r]at H;have N:∀b∈fv.pre,ρ b.i=R b.i:=List.map_inj_left.1 H;have D:∀b∈Bv,ρ b.i=f b.i:=fun b k=>by rw[N b (h.bv b k),T b k]
 have C:∀b∈z,ρ b.i=j b.i:=fun b k=>by rw[N b (h.br b k),sr b k]
 have J:(fv.move n m.next).args=[.agg #[.string p.name,ren1 f w,ren1 j u]]:=by
  show fv.args.map (ren2 (fv.rho n m.next))=_
  rw[Q,h.args,<-yks D h.iv,<-yks C h.ir];rfl
 have O:eqL2 [.agg #[.string p.name,ren1 f w,ren1 j u]] [.agg #[.string p.name,ren1 f w,ren1 j u]]=true:=by
  have hf:yot (.agg #[.string p.name,w,u])=true:=by
   have:=s2;rw[h.args]at this
   simpa using this
  have e:=ycit (ρ:=ρ) hf h.refl;rw[show ren2 ρ (.agg #[.string p.name,w,u]) = .agg #[.string p.name,ren1 ρ w,ren1 ρ u]from rfl,yks D h.iv,yks C h.ir]at e
  show(eq2 _ _&&true)=true;rw[e];rfl
 have Y:∀b∈fv.pre,m.b.get (ρ b.i)=some (b.ren ρ).blk:=fun b k=>by
  rcases h.pre b k with q|q
  .rw[ybid h.cv D q,D b q];exact L _ _ (a2 b q)
  .rw[ybid h.cr C q,C b q];exact L _ _ (a4 b q)
 have hp:(fv.move n m.next).pre=fv.pre.map (BlkL.ren ρ):=by rw[<-Q];rfl
 have X:(fv.move n m.next).fits fv.g [.agg #[.string p.name,ren1 f w,ren1 j u]] m=true:=by
  unfold Fact.fits;rw[J,O];show(zI fv.g fv.g&&zI m.next m.next&&true&&(fv.move n m.next).pre.all (yza m))=true
  rw[zH,zH,hp];show List.all _ _=true;refine List.all_eq_true.2 fun b' a0=>?_;obtain⟨b,k,rfl⟩:=List.mem_map.1 a0;have h2:=(s4 b k).2;refine ysp ?_ (yyo h2) ?_
  .rw[b.yid];exact Y b k
  .show zAE (b.l.map _).length 1000000=true;rw[zQ];unfold reflB at h2;rw[zC]at h2;exact h2.2
 have hs:=ybev a6 X;unfold Fact.out at hs
 have hv:(fv.move n m.next).v = .bool true:=by
  show renV (fv.rho n m.next) fv.v=_
  rw[h.v];rfl
 have M:(fv.move n m.next).post=[]:=by
  show fv.post.map _=[];rw[h.post];rfl
 rw[hv,M]at hs;refine⟨_,_,_,hs,zAD _,?_,rfl,.b⟩;intro i b k;show(ymr m.b m.next (fv.move n m.next).pre).get i=some b
 rw[ybch fun c A=>?_]
 .exact k
 .rw[hp]at A;obtain⟨c,W,rfl⟩:=List.mem_map.1 A;rw[c.yid,N c W];exact s c W
end Sh
end
section
namespace Sh
open Go Ev
def NqP:ProgT:=yby (by8 [101,108,101,99,116,105,111,110]) (by8 [104]) (by8 [108]) (by8 [102,105,120]) (by8 [100,114,111,112]) (by8 [116,97,107,101]) (by8 [116,105,101])
def Nqt:ByteArray:=yw
def Nqv:Value:=.slice (some ⟨1062,0,none⟩) 2 CU
def Nqr:Value:=.slice (some ⟨1775,0,none⟩) 4 CU
def NqB:List BlkL:=ypo.post.take 1
def NqC:List BlkL:=ypo.post.drop 1
theorem ybuo:Returns zF 11 [.a (.string Nqt)] (.ag (yfz (Lies NqB Nqv) (Lies NqC Nqr) NqP.raw)) :=
 ycqx (fp:=ypo) (ybh.at_ ybif 0 rfl) ⟨rfl,rfl,rfl,by kernel_rfl,fun _ h=>zBF h,fun _ h=>zBG h,by kernel_rfl,by kernel_rfl⟩
theorem ydxk:ybfy.pre=ypo.post:=rfl
theorem ycom:Returns zF 130 [.ag (yfz (Lies NqB Nqv) (Lies NqC Nqr) NqP.raw)] (.b true) :=
 ycqt (fv:=ybfy) (ybh.at_ ybkf 0 rfl) ⟨rfl,fun b h=>by
  rw[ydxk,<-List.take_append_drop 1 ypo.post]at h;exact List.mem_append.1 h,fun _ h=>zBF h,fun _ h=>zBG h,rfl,rfl,by kernel_rfl,by kernel_rfl,by kernel_rfl,by kernel_rfl,by kernel_rfl,by kernel_rfl,by kernel_rfl⟩
theorem yeaq:NqP.ok=true:=by kernel_rfl
end Sh
end
section
def ybx(s:Nat):List Nat:=(zJ 32).filter s.testBit
theorem yblf{p q:Nat->Bool}{n t:Nat}(j:t<n)(g:p t=true)(c:∀i,i<t->p i=false)(b:∀i,q i=(p i && !decide (i=t))):(zJ n).filter p=t::(zJ n).filter q:=by
 obtain⟨d,rfl⟩:∃d,n=t+(d+1):=⟨n-t-1,by omega⟩
 rw[List.range_add,zAP,zAP,List.range_succ_eq_map];have e:(zJ t).filter p=[]:=List.filter_eq_nil_iff.2 fun x a=>by rw[c x (List.mem_range.1 a)];simp
 have f:(zJ t).filter q=[]:=List.filter_eq_nil_iff.2 fun x a=>by rw[b,c x (List.mem_range.1 a)];simp
 rw[e,f,zBI,zAZ,zAZ,zCG,List.filter_cons_of_pos g,List.filter_cons_of_neg (by rw[b];simp)]
 congr 1;refine List.filter_congr fun x a=>?_;obtain⟨y,h,rfl⟩:=List.mem_map.1 a;obtain⟨z,_,rfl⟩:=List.mem_map.1 h;rw[b];have:decide (t+z.succ=t)=false:=decide_eq_false (by omega)
 rw[this];simp
theorem ycsy{x:Nat}(l:x≠0)(h:x<2^32):zAJ 32 x<32/\x.testBit (zAJ 32 x)=true/\(∀i,i<zAJ 32 x->x.testBit i=false)/\∀i,(x&&&(x-1)).testBit i=(x.testBit i && !decide (i=zAJ 32 x)):=by
 obtain⟨m,c,hk⟩:=Lib.ctzFrom_spec 32 x (by omega) h
 have e:zAJ 32 x=zCM 32 x:=by simp[zAJ,l]
 rw[e];obtain⟨k,b⟩:∃k,zCM 32 x=k:=⟨_,rfl⟩;rw[b]at c hk ⊢;have p:0<2^k:=zBV k
 have a:∀j,x.testBit j=if j<k then false else(2*m+1).testBit (j-k):=fun j=>by
  have:=zAQ (2*m+1) p j;rw[zCG,<-c]at this;rw[this];simp
 have g:x-1=2^k*(2*m)+(2^k-1):=by
  have:2^k*(2*m+1)=2^k*(2*m)+2^k:=by rw[Nat.mul_add,Nat.mul_one]
  omega
 have f:∀j,(x-1).testBit j=if j<k then(2^k-1).testBit j else(2*m).testBit (j-k):=fun j=>by
  rw[g];exact zAQ (2*m) (show 2^k-1<2^k by omega) j
 refine⟨hk,by rw[a,if_neg (by omega),zBK];simp,fun i n=>by rw[a,if_pos n],fun i=>?_⟩
 rw[Nat.testBit_and,a,f]
 by_cases q:i<k
 .rw[if_pos q];simp
 .rw[if_neg q,if_neg q]
  by_cases d:i=k
  .subst d;simp
  .obtain⟨j,o⟩:∃j,i-k=j+1:=⟨i-k-1,by omega⟩
   rw[o,zBS,zBS,show(2*m+1)/2=m by omega,show 2*m/2=m by omega]
   simp[d]
theorem yte:ybx 0=[]:=List.filter_eq_nil_iff.2 fun x _=>by simp
theorem ytd{x:Nat}(a:x≠0)(h:x<2^32):ybx x=zAJ 32 x::ybx (x&&&(x-1)):=by
 obtain⟨b,c,d,e⟩:=ycsy a h;exact yblf b c d e
def ydz(s:Nat):Nat->Nat
 |0=>s
 |k+1=>ydz s k&&&(ydz s k-1)
theorem yrb{s:Nat}(h:s<2^32):∀k,ydz s k<2^32
 |0=>h
 |k+1=>Nat.lt_of_le_of_lt Nat.and_le_left (yrb h k)
theorem ytx{s:Nat}(h:s<2^32):∀k,ybx (ydz s k)=(ybx s).drop k
 |0=>by simp[ydz]
 | k + 1=>by
   have a:=ytx h k;show ybx (ydz s k&&&(ydz s k-1))=_
   by_cases b:ydz s k=0
   .rw[b,yte]at a;rw[b,Nat.zero_and,yte,<-zCA,<-a];rfl
   .rw[ytd b (yrb h k)]at a;rw[<-zCA,<-a];rfl
theorem rest_end{s k:Nat}(h:s<2^32)(hk:k<=(ybx s).length):ydz s k=0↔k=(ybx s).length:=by
 have a:=ytx h k;constructor
 .intro e;rw[e,yte]at a;have:=congrArg zBP a;rw[List.length_drop,zAL]at this;omega
 .intro e;rw[e,List.drop_length]at a;refine zAU fun q=>?_;rw[<-e]at a;rw[ytd q (yrb h k)]at a;cases a
theorem ydoo{s k:Nat}(h:s<2^32)(hk:k<(ybx s).length):ydz s k≠0/\zAJ 32 (ydz s k)=(ybx s).getD k 0:=by
 have a:ydz s k≠0:=fun e=>by have:=(rest_end h (Nat.le_of_lt hk)).1 e;omega
 refine⟨a,?_⟩;have b:=ytx h k;rw[ytd a (yrb h k),zAT hk]at b;have:=(List.cons.inj b).1;rw[this,zM,zO hk];rfl
theorem yzo{s v:Nat}:v∈ybx s↔v<32/\s.testBit v=true:=by
 unfold ybx;rw[zBT,zBX]
end
section
open Go.RowKit
theorem yebq(x a:Nat)(g:x<4294967296)(f:x≠0)(c:x&&&(4294967296-x)=a) :
 bits BinOp.and IntKind.u32 (x:Int) (-(x:Int)%4294967296)*125613361%4294967296/134217728=((a*125613361%4294967296/134217728:Nat):Int):=by
 have d:-(x:Int)%4294967296=((4294967296-x:Nat):Int):=by omega
 have e:bits BinOp.and IntKind.u32 (x:Int) ((4294967296-x:Nat):Int)=((x&&&(4294967296-x):Nat):Int):=u32_and (a:=x) (b:=4294967296-x) (by omega) (by omega)
 rw[d,e,c];omega
set_option maxHeartbeats 1000000 in
theorem yduu (x k idx:Nat) (w:World) (b:((x:Int)==0)=false) (key:bits BinOp.and IntKind.u32 (x:Int) (-(x:Int)%4294967296)*125613361%4294967296/134217728=(idx:Int))
 (d:idx<32) (hk:k<32) (a:w.cell? ⟨0,idx,none⟩=some (.int .u8 k)) :
 Calls zF 173 #[.int .u32 x] w fun e c=>e = .returned (.int .i64 k)/\c=w:=by
 go_enter zCH,zCE
 go_wp2_with (simp only[key])
 go_ret
 exact⟨rfl,rfl⟩
theorem yduo(w:World):Calls zF 173 #[.int .u32 0] w fun e a=>e = .returned (.int .i64 32)/\a=w:=by
 go_enter zCH,zCE
 go_wp2
 go_ret
 exact⟨rfl,rfl⟩
theorem yebs{w:World}{x:Nat}(k:x<2^32)(f:∃e h,w.heap[0]?=some (.cells Ev.ybgv.toArray e h)) :
 Calls zF 173 #[.int .u32 x] w fun e m=>e = .returned (.int .i64 (zAJ 32 x))/\m=w:=by
 by_cases a:x=0
 .subst a;exact yduo w
 .obtain⟨b,hk⟩:=Lib.lowest_bit 32 x a k;obtain⟨i,c⟩:=Lib.deBruijn32_at _ hk;obtain⟨e,h,f⟩:=f;refine yduu x _ _ w (by simp;omega) (yebq x _ k a b) i hk ?_
  have d:∀j,j<32->([0,1,28,2,29,14,24,3,30,22,20,15,25,17,4,8,31,27,13,23,21,19,16,7,26,12,18,6,11,5,10,9]:List Int)[j]?=some ((Lib.deBruijn32tab.getD j 0:Nat):Int):=by decide +kernel
  have g:∀j,j<32->Ev.ybgv[j]?=some (.int .u8 (Lib.deBruijn32tab.getD j 0:Nat)):=fun j l=>by
   unfold Ev.ybgv;rw[zBO,d j l];rfl
  rw[World.cell?,f];have:=g _ i;rw[c]at this
  simpa using this
namespace Sh
open Ev
end Sh
end
section
namespace Ev
open Go Go.RowKit
theorem ybqh(v:Value):(T.sets .leaf 0 [v]).get 0=some v:=ycgc (l:=[v]) (j:=0) (by simp)
noncomputable def ybbo(x:Nat):ABlk:=.cells (T.sets .leaf 0 [.int .u32 x]) 1 77 0
def setAt(b x:Nat)(m:Mem):Prop:=∃c,m.b.get b=some (.cells c 1 77 0)/\c.get 0=some (.int .u32 x)
section
variable {φ:Phi}{M:AM}{w:World}{m:Mem}{b x y:Nat}
theorem ybfx(h:setAt b x m)(q:Rel φ M w)(r:Sub m M):∃l a,φ b=some l/\l.sz=0/\l.base+1<=l.size/\l.ob=none/\w.heap[l.blk]?=some (.cells a 77 (0,0))/\a.size=l.size/\a[l.base]?=some (.int .u32 x):=by
 obtain⟨c,o,p⟩:=h;obtain⟨l,a,A,B,d,f,g,i,j,k,n⟩:=q.cellsAt (r _ _ o);obtain⟨u,v,z⟩:=i (by decide)
 subst u v;obtain⟨C,s,t⟩:=n 0 _ (by omega) p
 have e:=t.eq_simple rfl;subst e;exact⟨l,a.toArray,d,f,g,z,j,by simpa using k,by simpa using s⟩
theorem ydrp(h:setAt b x m)(i:Rel φ M w)(p:Sub m M){l:Loc}(k:φ b=some l) :
 Rel φ (upd M b (some (ybbo y))) (w.setCell ⟨l.blk,l.base,none⟩ (.int .u32 y))/\WG φ M w φ (upd M b (some (ybbo y))) (w.setCell ⟨l.blk,l.base,none⟩ (.int .u32 y)):=by
 obtain⟨B,a,e,r,s,f,g,t,z⟩:=ybfx h i p;rw[k]at e;cases e
 obtain⟨c,u,_⟩:=h;rw[setCell_eq_setRow w l.blk l.base a _ _ _ g];refine i.setRow (p _ _ u) k ⟨r,s,(a.setIfInBounds l.base (.int .u32 y)).toList,77,(0,0),⟨fun _=>⟨rfl,rfl,f⟩,fun o n=>(by rw[f]at n;cases n)⟩,?_,by simpa using t,fun j v A q=>?_⟩
 .rw[Array.toArray_toList];exact setRow_heap w _ _ _ _ _ g
 .obtain rfl:j=0:=by omega
  rw[ybqh]at q;cases q
  refine⟨.int .u32 y,?_,.simple rfl⟩;have d:l.base<a.size:=by omega
  simp[d]
end
noncomputable def yus(b y:Nat)(m:Mem):Mem:=m.app (.upd b (ybbo y))
theorem ybvi(b y:Nat)(m:Mem)(i:Nat):(yus b y m).b.get i=if i=b then some (ybbo y)else m.b.get i:=by
 unfold yus;rw[Sh.ybey];exact T.set_at _ _ _ _
noncomputable def ydbk(b s:Nat):It where
 n:=(ybx s).length
 el:=fun k=>[.int .i64 ((ybx s).getD k 0:Nat)]
 pre:=fun k m=>setAt b (ydz s k) m
 adv:=fun k m=>yus b (ydz s (k+1)) m
 step:=fun k φ M w M' w'=>∃l,φ b=some l/\M'=upd M b (some (ybbo (ydz s (k+1))))/\w'=w.setCell ⟨l.blk,l.base,none⟩ (.int .u32 (ydz s (k+1):Nat))
theorem ydqr{a:Nat}(d:a≠0)(h:a<2^32):bits BinOp.and IntKind.u32 (a:Int) (IntKind.wrap .u32 ((a:Int)-1))=((a&&&(a-1):Nat):Int):=by
 have e:IntKind.wrap .u32 ((a:Int)-1)=((a-1:Nat):Int):=by
  have c:(a:Int)-1=((a-1:Nat):Int):=by omega
  rw[c];exact yjl (by omega)
 rw[e];exact u32_and (a:=a) (b:=a-1) h (by omega)
set_option maxRecDepth 100000 in
set_option maxHeartbeats 2000000 in
theorem ycqi{b s:Nat}(r:s<2^32):ItOk zF 172 [.pointer (some ⟨b,0,none⟩)] (ydbk b s):=by
 refine⟨fun V w=>ybz ytb zCI rfl V w,fun k m hk hw hp=>?_,?_,?_⟩
 .obtain⟨c,h1,_⟩:=hp;have hb:=hw _ _ h1;show Grow m (yus b _ m);unfold yus
  exact⟨ycnj hw (fun i hi=>by
   have hi:i∈[b]:=hi;rw[List.mem_singleton.1 hi];exact⟨_,h1⟩),(yxw m _).1⟩
 .rintro k φ M w m U w' hk hw hR hs hp ⟨l,hl,rfl,rfl⟩;obtain⟨r1,r2⟩:=ydrp (y:=ydz s (k+1)) hp hR hs hl;obtain⟨c,h1,_⟩:=hp;refine⟨φ.le_refl,fun _ _=>rfl,r1,fun i x B=>?_,fun i hi o=>?_,r2⟩
  .have B:(yus b (ydz s (k+1)) m).b.get i=some x:=B;rw[ybvi]at B;show(if i=b then _ else _)=_
   split at B
   .rename_i q;rw[if_pos q];exact B
   .rename_i q;rw[if_neg q];exact hs _ _ B
  .show(if i=b then _ else _)=_
   rw[if_neg fun q=>?_];subst q;rcases o with o|o
   .rw[h1]at o;cases o
   .have o:i<(yus i (ydz s (k+1)) m).low:=o;unfold yus at o;rw[Sh.ybey]at o;have o:i<Nat.min m.low i:=o;exact absurd o (Nat.not_lt.2 (Nat.min_le_right m.low i))
 .intro l St b1 φ M w b2 d p n O H;obtain⟨box,rfl,G⟩:=yge H;obtain⟨C,R,_,rfl⟩:=G.ptr_inv;obtain⟨N,hN⟩:∃N,(ybx s).length=N:=⟨_,rfl⟩;have K:=zS d;have J:=zS p;have Hyield:=zS n;have H0:=zS O;have Hlc:=zS R
  have g:Hid (∀k f U W,St k f U W->φ.le f/\W.cell? ⟨C.blk,C.base,none⟩=some (.int .u32 (ydz s k:Nat))/\W.frozen? ⟨C.blk,C.base,none⟩=false/\(∃e fz,W.heap[0]?=some (.cells ybgv.toArray e fz))/\C.blk<W.heap.size):=zS fun k f U W t=>by
   obtain⟨a2,m,hR,a8,a4⟩:=d k f U W t;obtain⟨l',cs,Y,g2,g3,g4,L,g6,g7⟩:=ybfx a4 hR a8;rw[a2 _ _ R]at Y;cases Y
   exact⟨a2,by simp[World.cell?,L,g7],by simp[World.frozen?,L],(hR.gl _ rfl).1,(Array.getElem?_eq_some_iff.1 L).1⟩
  clear d p n O G R H
  refine callsIn_of_wp zCI rfl trivial ?_
  simp only[Tryz.ntmps172,List.size_toArray,zBQ,zAL,zB,Nat.reduceSub,Array.replicate_succ,
   Array.replicate_zero,List.push_toArray,List.append_toArray,zAZ,List.cons_append]
  gi_wp2
  gi_loopg [] N (fun q wr=>∃k:Nat,q+k=N/\Hid (∃f U,φ.le f/\St k f U wr))
  case atStart=>exact⟨0,by omega,zS ⟨φ,M,φ.le_refl,H0.out⟩⟩
  case round =>
   obtain⟨k,hq,t⟩:=hrel;obtain⟨T,M1,h,a⟩:=t.out;obtain⟨_,a1,b5,Q,b3⟩:=g.out _ _ _ _ a
   by_cases b7:k<N
   .obtain⟨O,hz⟩:=ydoo r (k:=k) (by omega)
    have A:=yrb r k;have F:=ydqr O A;have E:ydz s (k+1)=ydz s k&&&(ydz s k-1):=rfl;obtain⟨x,B⟩:∃x,ydz s k=x:=⟨_,rfl⟩;obtain⟨y,hy⟩:∃y,ydz s (k+1)=y:=⟨_,rfl⟩;rw[B]at a1 O hz A F E;rw[hy]at E;rw[<-E]at F;have b8:((x:Int)!=0)=true:=by rw[bne_iff_ne];omega
    have S:=yebs (w:=wr) (x:=x) A Q;rw[hz]at S;obtain⟨v,hv⟩:∃v,(ybx s).getD k 0=v:=⟨_,rfl⟩
    obtain⟨fn,a7,D,X,a5,P⟩:=Hyield.out k T M1 wr [.int .i64 (v:Nat)] (by show k<(ybx s).length;omega) a (by
     show VRL T [.int .i64 ((ybx s).getD k 0:Nat)] _;rw[hv];exact .cons (.simple rfl) .nil)
    rw[hv]at S;have a6:(Instr.yield l #[.int .i64 (v:Int)]).run zF wr = .ok (.round l fn a7 D X) wr:=a5;have Hst1:=zS a;have Hle1:=zS h;have Hy:=zS hy;have Hx:=zS B
    clear t a h a5 Q hz E B hy
    gi_wp2
    refine⟨trivial,callsIn_wide.2 (S.mono ?_)⟩;rintro e w' ⟨rfl,rfl⟩
    gi_wp2
    refine P.mono ?_;rintro e W3 (⟨rfl,b0,M3,j,⟨m3,Z,a0,a3⟩,I⟩|⟨rfl,u⟩)
    .obtain⟨l',cs,Y,g2,g3,g4,L,g6,g7⟩:=ybfx a3 Z a0;rw[j _ _ (Hle1.out _ _ Hlc.out)]at Y;cases Y
     have b4:W3.cell? ⟨C.blk,C.base,none⟩=some (.int .u32 (x:Nat)):=by
      have a9:ydz s k=x:=Hx.out;simp[World.cell?,L,g7,a9]
     have b6:W3.frozen? ⟨C.blk,C.base,none⟩=false:=by simp[World.frozen?,L]
     have Hst3:=zS (I _ _ ⟨C,j _ _ (Hle1.out _ _ Hlc.out),rfl,rfl⟩);have Hle3:=zS j
     clear I j P a6 Z a0 a3 g2 g3 g4 L g6 g7
     gi_wp2
     gi_roundg (gk-1)
     case measure=>omega
     case rel =>
      have z:=Hst3.out;rw[Hy.out]at z;refine⟨k+1,by omega,zS ⟨b0,upd M3 b (some (ybbo y)),Phi.le_trans Hle1.out Hle3.out,?_⟩⟩
      clear K J Hyield H0 g Hst3
      have e1:IntKind.wrap .u32 ((x:Int)-1)=(x:Int)-1:=by
       have e:(x:Int)-1=((x-1:Nat):Int):=by omega
       rw[e];exact yjl (by omega)
      rw[e1]at F;rw[F];exact z
    .have Hstop:=zS u
     clear u P a6
     gi_wp2
     refine bodyPost_ret (results_none rfl _ _ _) rfl ?_;exact⟨⟨_,rfl⟩,.inr Hstop.out⟩
   .have hk:k=N:=by omega
    have O:ydz s k=0:=(rest_end r (by omega)).2 (by omega)
    rw[O]at a1;have Hst1:=zS a;have Hle1:=zS h
    clear t a h Q
    gi_wp2
    go_end0
    exact⟨⟨_,rfl⟩,.inl ⟨T,M1,by
     have:=Hst1.out;rw[hk,<-hN]at this;exact this⟩⟩
end Ev
end
section
section
variable {nm nc nr:ByteArray}{g:Gr}{c:Conf}{u v s:Nat}
end
end
section
theorem yejd{t v i:Nat}:(t|||2^v).testBit i=true↔t.testBit i=true\/i=v:=by
 rw[zBY,zBU,zBJ,decide_eq_true_iff];exact or_congr Iff.rfl eq_comm
end
section
namespace Sh
open Ev Go.RowKit
def setO(x:Nat):OB:=⟨77,true,1,1,fun _=>[.i .u32 x]⟩
def ybgp(b s:Nat):ItS:=⟨(ybx s).length,fun k=>[.i .i64 ((ybx s).getD k 0:Nat)],[(b,0)],fun k o=>lookO o (b,0)=some (setO (ydz s k)),fun k o=>(SS.own ⟨[],o⟩ (b,0) (some (setO (ydz s (k+1))))).o⟩
theorem ybjc{b s:Nat}(G:s<2^32):ItC zF 172 [.pt (b,0) 0 0] (ybgp b s):=by
 intro Q F U K f m S C E hown;obtain⟨u,rfl,H⟩:=rvl1 E;obtain⟨k,z,hk,rfl⟩:=H.pt_inv;have c:lookO K.o (b,0)=some (setO (ydz s 0)):=hown;obtain⟨l,_⟩:=C.ownAt c hk (.inl (show(1:Nat)≠0 by decide))
 have l:z=1:=l;subst l;refine⟨ydbk k s,ycqi G,rfl,fun x p J M R j O n d P a=>?_⟩;have g:=n (b,0) zV _ hk;have a:lookO J.o (b,0)=some (setO (ydz s j)):=a;obtain⟨_,Tb,L,y,A⟩:=d.ownAt a g (.inl (show(1:Nat)≠0 by decide))
 obtain⟨N,h,_,B⟩:=A 0 (by show 0<1;omega)
 refine⟨?_,fun D=>⟨.cons .i .nil,?_⟩⟩
 .refine⟨Tb,y,?_⟩;have r:=B 0 (by show 0<1;omega)
  have h:RVL x p [.i .u32 (ydz s j:Nat)] (L 0):=h;obtain⟨v,e,I⟩:=rvl1 h;rw[e,I.int_inv]at r;exact r
 .exact d.upd (b:=setO (ydz s (j+1))) ⟨_,a⟩ g (show 77≠CU by decide) (Tb:=T.sets .leaf 0 [.int .u32 (ydz s (j+1):Nat)]) (L:=fun _=>[.int .u32 (ydz s (j+1):Nat)]) fun i t=>by
   have t:i<1:=t;obtain rfl:i=0:=by omega
   refine⟨rfl,.cons .i .nil,rfl,fun q w=>?_⟩;have w:q<1:=w;obtain rfl:q=0:=by omega
   exact ybqh _
theorem ybsb{s:Nat}:Cm zF 129 [] [] [.i .u32 s] fun r o=>r = .fn 172 [] [.pt (1,0) 0 0]/\o=[(1,.one (some (setO s)))]:=by
 refine yctq [] [] _ _ _ ?_;simp only[c129,ydgw,ycze,clash,yhq,go_sem,zA,zB,zD];refine⟨.fn 172 [] [.pt (1,0) 0 0],[(1,.one (some (setO s)))],?_,?_,rfl,rfl⟩
 .refine yj ?_;simp only[setO,wk,go_sem,zD]
 .simp only[setO,ycl,yfk,wk,go_sem]
theorem ybqj{s v:Nat}(b:s<2^24)(h:v∈ybx s):v<24/\s.testBit v=true:=by
 have a:=(yzo.1 h).2;refine⟨zAU fun q=>?_,a⟩;rw[Nat.testBit_lt_two_pow (zBM b (Nat.pow_le_pow_right (by omega) (by omega)))]at a
 cases a
theorem getD_mem{l:List Nat}{k:Nat}(h:k<l.length):l.getD k 0∈l:=by rw[getD_at h];exact zAV h
end Sh
end
section
namespace Sh
open Go Ev
end Sh
end
section
structure LdC(g:Gr)(c:Conf):Prop where
 len:c.length=g.ids.length
 row:∀v,v<g.ids.length->(c.getD v []).length=3/\(0<=(c.getD v []).getD 0 0/\(c.getD v []).getD 0 0<=ybvv g)/\(0<=(c.getD v []).getD 1 0/\(c.getD v []).getD 1 0<g.ids.length)/\(-1<=(c.getD v []).getD 2 0/\(c.getD v []).getD 2 0<(g.ports.getD v []).length)
section
variable {nm nl nd np no nj:ByteArray}{g:Gr}{c:Conf}{v:Nat}
end
end
section
section
variable {nm nl nd np no nj:ByteArray}{g:Gr}{c:Conf}{v:Nat}
end
end
section
section
variable {nm nl nd np no nj:ByteArray}{g:Gr}{c:Conf}{v:Nat}
theorem key_eq{a b x y n:Int}(d:0<=x/\x<n)(e:0<=y/\y<n):a*n+x=b*n+y↔a=b/\x=y:=by
 constructor
 .intro h;have f:(a*n+x)/n=a:=by rw[zCJ,zBB _ _ (by omega),zBC d.1 d.2,zCK]
  have i:(b*n+y)/n=b:=by rw[zCJ,zBB _ _ (by omega),zBC e.1 e.2,zCK]
  have j:a=b:=by rw[<-f,<-i,h]
  subst j;exact⟨rfl,by omega⟩
 .rintro⟨rfl,rfl⟩;rfl
end
end
section
namespace Sh
open Ev Go.RowKit
end Sh
end
section
namespace Sh
open Ev Go.RowKit
end Sh
end
section
theorem ybrh(ls:List (Int×Int))(u:Nat):(netP ls).testBit u=true↔∃l∈ls,l.1.toNat=u:=by
 have c:∀(ls:List (Int×Int)) (a:Nat),(ls.foldl (fun a l=>a|||2^l.1.toNat) a).testBit u=true↔a.testBit u=true\/∃l∈ls,l.1.toNat=u:=by
  intro ls
  induction ls with
  |nil=>exact fun a=>⟨.inl,fun h=>h.resolve_right fun⟨_,h,_⟩=>nomatch h⟩
  | cons x ls d =>
    intro a;rw[List.foldl_cons,d,yejd];constructor
    .rintro((h|h)|⟨l,b,e⟩)
     .exact .inl h
     .exact .inr ⟨x,zV,h.symm⟩
     .exact .inr ⟨l,zAM _ b,e⟩
    .rintro(h|⟨l,b,e⟩)
     .exact .inl (.inl h)
     .rcases List.mem_cons.1 b with r|r
      .exact .inl (.inr (by rw[<-e,r]))
      .exact .inr ⟨l,r,e⟩
 unfold netP;rw[c];simp
def netG(g:Gr)(v:Nat):Nat:=netP (g.ports.getD v [])
theorem ybsp{g:Gr}(b:ybi g){u v:Nat}(h:(netG g v).testBit u=true):adj g v u:=by
 obtain⟨l,a,e⟩:=(ybrh _ _).1 h
 by_cases c:v<g.ports.length
 .rw[<-e];exact(yef b c a).2.2.1
 .rw[zM,zAK (by omega)]at a
  cases a
theorem ydmj{g:Gr}(a:ybi g)(v:Nat):netG g v<2^24:=by
 have:=a.2.1;refine zAS _ fun i b=>?_;cases h:(netG g v).testBit i with
 |false=>rfl
 |true=>have:=(a.adj_lt (ybsp a h)).2;omega
theorem ybnb(g:Gr)(v:Nat):(g.ports.map netP).getD v 0=netG g v:=by
 unfold netG
 by_cases a:v<g.ports.length
 .rw[Sh.getD_at (by rw[zQ];exact a),zAW,Sh.getD_at a]
 .rw[zM,zAK (by rw[zQ];omega),zM,zAK (by omega)]
  rfl
namespace Sh
open Ev Go.RowKit
end Sh
end
section
namespace Sh
open Ev Go.RowKit
theorem ycjd:Returns zF 43 [] (.a (.string Nqt)):=by
 refine Returns.of (ydxd _ _ ?_);simp only[c43,ydyv,yecu,go_sem];exact Sim.refl _
theorem ybnt{g:Gr}(a:GrI g)(hit:yeb g=true):Returns zF 44 [grV g] (.ag (ycwg 2 false true (ymj g/2+2) (-1))):=by
 have h:=ybxm a;unfold ybmi at h;rw[if_pos hit]at h;exact h
end Sh
end
section
namespace Sh
open Go Ev
def yefe:LO:=[nl' 4 0]
def yegp:LO:=[mv' 0 8 0,ln' 8 9 1,o3 (.mk 22 1 24 [.a (.slice none 0 0)] (.tmp 9) (.tmp 9)) 10 3,mv' 10 5 7]
def yehf:LO:=[mv' 0 11 0,ln' 11 12 1,mc 0 13 0]
def ydpu:LO:=[bn' .lss 13 12 14 0]
def yeel:LO:=[mv' 13 15 0,mv' 15 6 1]
def ydyi:LO:=[mv' 5 16 0,mv' 6 17 0,mv' 0 18 0,mv' 6 19 0,ix' 1 18 19 20 12,ld' 1 20 21 28,ln' 21 22 60,o3 (.mk 3 1 8 [.i .i64 0] (.tmp 22) (.tmp 22)) 23 124,ix' 1 16 17 24 255,sto 1 24 23 511]
def yecb:LO:=[mv' 0 25 0,mv' 6 26 0,ix' 1 25 26 27 3,ld' 1 27 28 7,ln' 28 29 15,mc 0 30 0]
def ydou:LO:=[bn' .lss 30 29 31 0]
def ydzs:LO:=[mv' 30 32 0,mv' 32 7 1]
def yedp:LO:=[mv' 5 33 0,mv' 6 34 0,ix' 1 33 34 35 3,ld' 1 35 36 7,mv' 7 37 0,mv' 1 38 0,mv' 6 39 0,mv' 7 40 0,o3 (.call (.tmp 38) [(.tmp 39),(.tmp 40)]) 41 224,ix' 1 36 37 42 511,sto 1 42 41 1023]
def ycut:LO:=[bc .add 30 1 43 0,mv' 43 30 1]
def ydib:LO:=[bc .add 13 1 44 0,mv' 44 13 1]
def ydjf:LO:=[mv' 5 45 0,mv' 45 4 1]
def c65:SC:=(sr yefe <| sr yegp <| .seq (sr yehf <| .block 0 (.loop (sr ydpu <| .seq (cn 14 .skip (.exit 0)) (.seq (.block 1 (sr yeel <| sr ydyi <| sr yecb <| .block 2 (.loop (sr ydou <| .seq (cn 31 .skip (.exit 2)) (.seq (.block 3 (sr ydzs <| .reg true yedp)) (.reg false ycut)))))) (.reg false ydib))))) (sr ydjf <| .ret))
theorem ydrl:FnM 65 c65 [.t 4]:=fn_m Tryz.func65
def yede:LO:=[bx' 32 0 2 0,bx' 27 1 3 0,nl' 4 0,mc 0 5 4]
def ydww:LO:=[la' 3 2 8 0,la' 2 3 9 0,cl' 62 [8,9] 10 3,mv' 10 6 7]
def ydwx:LO:=[mv' 6 11 0,bc .neq 11 0 12 1]
def yekz:LO:=[mv' 6 13 0,nl' 4 0,mv' 13 5 3]
def yeck:LO:=[la' 3 2 14 0,la' 2 3 15 0,cl' 63 [14,15] 16 3,o3 (.alloc 84 1 [.a (.slice none 0 0)]) 7 0,sto 1 7 16 15]
def ydvl:LO:=[ld' 1 7 17 0,o3 (.mkfn 125 [] [(.tmp 7)]) 18 0,cl' 65 [17,18] 19 3,mv' 19 4 7,mc 0 5 15]
def c59:SC:=(sr yede <| .seq (sr ydww <| sr ydwx <| cn 12 (sr yekz <| .ret) .skip) (sr yeck <| sr ydvl <| .ret))
theorem ydml:FnM 59 c59 [.t 4,.t 5]:=fn_m Tryz.func59
def ydbb:LO:=[mc 0 5 0]
def ydbe:LO:=[ld' 1 2 6 0,mv' 0 7 0,ix' 1 6 7 8 3,ld' 1 8 9 7,mv' 1 10 0,ix' 2 9 10 11 31,o3 (.idxA 2 1 (.tmp 11) (ci' 0)) 12 63,ld' 1 12 13 127,mv' 13 5 255]
def c125:SC:=(sr ydbb <| sr ydbe <| .ret)
theorem ydno:Fn 125 c125 [.t 5]:=fn_0 Tryz.func125
def yehv:LO:=[bx' 32 0 2 0,bx' 27 1 3 0,mc 0 4 0,mc 0 5 4]
def yegs:LO:=[la' 3 2 7 0,la' 2 3 8 0,cl' 62 [7,8] 9 3,mv' 9 6 7]
def yeeq:LO:=[mv' 6 10 0,bc .neq 10 0 11 1]
def yeln:LO:=[mv' 6 12 0,mc 0 4 0,mv' 12 5 3]
def yebe:LO:=[la' 3 2 13 0,la' 2 3 14 0,cl' 63 [13,14] 15 3,cl' 64 [15] 16 7,xt' 16 0 17 15,xt' 16 1 18 15,mv' 17 4 63,mv' 18 5 127]
def c56:SC:=(sr yehv <| .seq (sr yegs <| sr yeeq <| cn 11 (sr yeln <| .ret) .skip) (sr yebe <| .ret))
theorem yehu:Fn 56 c56 [.t 4,.t 5]:=fn_0 Tryz.func56
def ydzh:LO:=[mc 0 2 0,mc 0 3 1]
def ydyw:LO:=[mc 1 4 0]
def yeak:LO:=[mv' 0 9 0,ln' 9 10 1,mc 0 11 0]
def ydsu:LO:=[bn' .lss 11 10 12 0]
def ydvf:LO:=[ix' 1 9 11 13 0,ld' 1 13 14 1,mv' 14 6 3]
def ydvp:LO:=[mv' 6 15 0,ln' 15 16 1,mc 0 17 0]
def ydmm:LO:=[bn' .lss 17 16 18 0]
def yeic:LO:=[ix' 2 15 17 19 0,la' 2 19 20 1,o3 (.alloc 91 1 [.i .i64 0,.i .i64 0]) 8 0,sto 2 8 20 7]
def yeco:LO:=[mv' 4 21 0,o3 (.idxA 2 1 (.tmp 8) (ci' 1)) 22 0,ld' 1 22 23 2,o3 (.idxA 2 1 (.tmp 8) (ci' 0)) 24 0,ld' 1 24 25 8,bn' .sub 23 25 26 30,bc .add 26 1 27 62,bn' .mul 21 27 28 127,mv' 28 4 255]
def yefo:LO:=[mv' 4 29 0,bc .gtr 29 32768 30 1]
def ydxu:LO:=[mc 0 2 0,mc 3 3 1]
def ydjd:LO:=[bc .add 17 1 31 0,mv' 31 17 1]
def ydil:LO:=[bc .add 11 1 32 0,mv' 32 11 1]
def yddg:LO:=[mv' 4 33 0,mv' 33 2 1,mc 0 3 3]
def c64:SC:=(sr ydzh <| sr ydyw <| .seq (sr yeak <| .block 0 (.loop (sr ydsu <| .seq (cn 12 .skip (.exit 0)) (.seq (.block 1 (sr ydvf <| sr ydvp <| .block 2 (.loop (sr ydmm <| .seq (cn 18 .skip (.exit 2)) (.seq (.block 3 (sr yeic <| sr yeco <| sr yefo <| cn 30 (sr ydxu <| .ret) .skip)) (.reg false ydjd)))))) (.reg false ydil))))) (sr yddg <| .ret))
theorem yedf:Fn 64 c64 [.t 2,.t 3]:=fn_0 Tryz.func64
def ydzw:LO:=[bx' 32 0 3 0,bx' 27 1 4 0,bx' 3 2 5 0,nl' 6 0,mc 0 7 8]
def ydyg:LO:=[la' 3 3 18 0,la' 2 4 19 0,cl' 62 [18,19] 20 3,mv' 20 8 7]
def yebf:LO:=[mv' 8 21 0,bc .neq 21 0 22 1]
def yemi:LO:=[mv' 8 23 0,nl' 6 0,mv' 23 7 3]
def yebd:LO:=[la' 3 3 24 0,la' 2 4 25 0,cl' 63 [24,25] 26 3,o3 (.alloc 84 1 [.a (.slice none 0 0)]) 9 0,sto 1 9 26 15]
def ydyj:LO:=[ld' 1 9 28 0,cl' 64 [28] 29 1,mv' 29 27 3,xt' 27 0 30 7,xt' 27 1 31 7,mv' 30 10 15,mv' 31 11 63]
def yejj:LO:=[mv' 11 32 0,bc .neq 32 0 33 1]
def yell:LO:=[mv' 11 34 0,nl' 6 0,mv' 34 7 3]
def ydvu:LO:=[ld' 1 5 35 0,bc .lss 35 0 36 1,mv' 36 37 3,gf (.load false 1 (.tmp 5)) 38 37 7,gf (.mv (.tmp 10)) 39 37 7,gf (.bin .geq (.tmp 38) (.tmp 39)) 40 37 31,pk' 37 40 41 63]
def yelm:LO:=[nl' 6 0,mc 2 7 1]
def ycvp:LO:=[ld' 1 9 42 0,o3 (.mkfn 66 [] [(.tmp 9)]) 43 0,cl' 65 [42,43] 44 3,o3 (.alloc 46 1 [.a (.slice none 0 0)]) 12 0,sto 1 12 44 15]
def ydft:LO:=[ld' 1 9 45 0,cl' 67 [45] 46 1]
def ydcb:LO:=[o3 (.alloc 3 1 [.i .i64 0]) 13 0,sto 1 13 47 1]
def ycuv:LO:=[mv' 48 14 0]
def ydko:LO:=[mv' 14 49 0,cl' 68 [49] 50 1]
def ycvm:LO:=[mv' 51 15 0]
def ycxg:LO:=[o3 (.alloc 91 1 [.i .i64 0,.i .i64 0]) 16 0,sto 2 16 52 1]
def ycur:LO:=[o3 (.idxA 2 1 (.tmp 16) (ci' 1)) 53 0,ld' 1 53 54 1,o3 (.idxA 2 1 (.tmp 16) (ci' 0)) 55 0,ld' 1 55 56 4,bn' .sub 54 56 57 15,bc .add 57 1 58 31,mv' 58 17 63]
def ydbj:LO:=[ld' 1 12 59 0,ld' 1 13 60 0,ix' 1 59 60 61 3,ld' 1 61 62 7,mv' 15 63 0,ix' 1 62 63 64 31,ld' 1 64 65 63,ld' 1 5 66 0,mv' 17 67 0,bn' .rem 66 67 68 384,bn' .add 65 68 69 1023,ix' 1 62 63 70 2047,sto 1 70 69 4095]
def ydhw:LO:=[ld' 1 5 71 0,mv' 17 72 0,bn' .quo 71 72 73 3,sto 1 5 73 7]
def ycwn:LO:=[ld' 1 12 74 0,mv' 74 6 1,mc 0 7 3]
def c15:SC:=(sr ydzw <| .seq (sr ydyg <| sr yebf <| cn 22 (sr yemi <| .ret) .skip) (sr yebd <| sr ydyj <| .seq (sr yejj <| cn 33 (sr yell <| .ret) .skip) (.seq (sr ydvu <| cn 41 (sr yelm <| .ret) .skip) (sr ycvp <| .seq (sr ydft <| .block 0 (.range (.tmp 46) [47,48] (sr ydcb <| .reg false ycuv) (.block 1 (sr ydko <| .block 2 (.range (.tmp 50) [51,52] (sr ycvm <| .reg false ycxg) (.block 3 (sr ycur <| .seq (.reg true ydbj) (.reg false ydhw)))))))) (sr ycwn <| .ret)))))
theorem ydqb:FnU 15 c15 [.t 6,.t 7]:=fn_u Tryz.func15
def yebi:LO:=[mc 0 5 0]
def yefa:LO:=[ld' 1 2 6 0,mv' 0 7 0,ix' 1 6 7 8 3,ld' 1 8 9 7,mv' 1 10 0,ix' 2 9 10 11 31,o3 (.idxA 2 1 (.tmp 11) (ci' 0)) 12 63,ld' 1 12 13 127,mv' 13 5 255]
def c66:SC:=(sr yebi <| sr yefa <| .ret)
theorem ydwv:Fn 66 c66 [.t 5]:=fn_0 Tryz.func66
def ydzn:LO:=[bx' 46 1 3 0]
def yeiv:LO:=[mv' 0 8 0,cl' 67 [8] 9 1]
def ydxe:LO:=[o3 (.alloc 3 1 [.i .i64 0]) 4 0,sto 1 4 10 1]
def ydvx:LO:=[mv' 11 5 0]
def yejn:LO:=[mv' 5 12 0,cl' 68 [12] 13 1]
def ydnt:LO:=[mv' 14 6 0]
def ydsf:LO:=[o3 (.alloc 91 1 [.i .i64 0,.i .i64 0]) 7 0,sto 2 7 15 1]
def ydok:LO:=[ld' 1 3 16 0,ld' 1 4 17 0,ix' 1 16 17 18 3,ld' 1 18 19 7,mv' 6 20 0,ix' 1 19 20 21 31,ld' 1 21 22 63,o3 (.idxA 2 1 (.tmp 7) (ci' 1)) 23 0,ld' 1 23 24 128,bn' .lss 22 24 25 511]
def ydyp:LO:=[ld' 1 3 26 0,ld' 1 4 27 0,ix' 1 26 27 28 3,ld' 1 28 29 7,mv' 6 30 0,ix' 1 29 30 31 31,ld' 1 31 32 63,bc .add 32 1 33 127,ix' 1 29 30 34 255,sto 1 34 33 511]
def yeif:LO:=[ld' 1 3 35 0,ld' 1 4 36 0,ix' 1 35 36 37 3,ld' 1 37 38 7,mv' 6 39 0,o3 (.idxA 2 1 (.tmp 7) (ci' 0)) 40 0,ld' 1 40 41 32,ix' 1 38 39 42 127,sto 1 42 41 255]
def c61:SC:=(sr ydzn <| sr yeiv <| .block 0 (.range (.tmp 9) [10,11] (sr ydxe <| .reg false ydvx) (.block 1 (sr yejn <| .block 2 (.range (.tmp 13) [14,15] (sr ydnt <| .reg false ydsf) (.block 3 (.seq (.seq (.reg true ydok) (cn 25 (sr ydyp <| .ret) .skip)) (.reg true yeif))))))))
theorem ydst:FnM 61 c61 []:=fn_m Tryz.func61
def yejc:LO:=[bx' 84 0 1 0,o3 (.mv (.const (.nilFunc))) 2 0]
def ydxb:LO:=[o3 (.mkfn 133 [] [(.tmp 1)]) 3 0,mv' 3 2 1]
def c67:SC:=(sr yejc <| sr ydxb <| .ret)
theorem yeaj:Fn 67 c67 [.t 2]:=fn_0 Tryz.func67
def ycxh:LO:=[bx' 41 0 1 0,mb false 2 0]
def ydea:LO:=[fa' 0 1 1 6 0,ld' 1 6 7 1,ln' 7 8 3,mv' 8 3 7]
def yczr:LO:=[mv' 3 9 0,bc .lss 9 1 10 1,mv' 10 11 3,gf (.mv (.tmp 3)) 12 11 7,gf (.bin .gtr (.tmp 12) (ci' 32768)) 13 11 15,pk' 11 13 14 31,mv' 14 15 63,gf (.faddr 1 1 (.tmp 1)) 16 15 127,gf (.load false 1 (.tmp 16)) 17 15 255,gf (.len (.tmp 17)) 18 15 511,gf (.mv (.tmp 3)) 19 15 127,gf (.bin .neq (.tmp 18) (.tmp 19)) 20 15 2047,pk' 15 20 21 4095]
def yedu:LO:=[mb false 2 0]
def ydlj:LO:=[mc 0 4 0]
def ydef:LO:=[mv' 3 22 0,mc 0 23 0]
def ycat:LO:=[bn' .lss 23 22 24 0]
def ydck:LO:=[mv' 23 25 0,mv' 25 5 1]
def ydgx:LO:=[mv' 4 26 0,fa' 1 1 1 27 0,ld' 1 27 28 2,mv' 5 29 0,ix' 1 28 29 30 14,ld' 1 30 31 30,ln' 31 32 62,bn' .add 26 32 33 127,mv' 33 4 255]
def ydfb:LO:=[mv' 4 34 0,bc .gtr 34 262144 35 1,mv' 35 36 3,gf (.faddr 0 1 (.tmp 1)) 37 36 7,gf (.load false 1 (.tmp 37)) 38 36 15,gf (.mv (.tmp 5)) 39 36 7,gf (.idx 1 (.tmp 38) (.tmp 39)) 40 36 63,gf (.load false 1 (.tmp 40)) 41 36 127,gf (.faddr 1 1 (.tmp 1)) 42 36 7,gf (.load false 1 (.tmp 42)) 43 36 263,gf (.mv (.tmp 5)) 44 36 7,gf (.idx 1 (.tmp 43) (.tmp 44)) 45 36 1799,gf (.load false 1 (.tmp 45)) 46 36 3847,gf (.mv (.tmp 3)) 47 36 7,gf (.call (.func 180) [(.tmp 41),(.tmp 46),(.tmp 47)]) 48 36 16383,gf (.un .not (.tmp 48)) 49 36 32767,pk' 36 49 50 65535]
def ydrz:LO:=[mb false 2 0]
def ycgu:LO:=[bc .add 23 1 51 0,mv' 51 23 1]
def yccd:LO:=[mb true 2 0]
def c136:SC:=(sr ycxh <| sr ydea <| .seq (sr yczr <| cn 21 (sr yedu <| .ret) .skip) (sr ydlj <| .seq (sr ydef <| .block 0 (.loop (sr ycat <| .seq (cn 24 .skip (.exit 0)) (.seq (.block 1 (sr ydck <| sr ydgx <| .seq (.reg true ydfb) (cn 50 (sr ydrz <| .ret) .skip))) (.reg false ycgu))))) (sr yccd <| .ret)))
theorem ydom:Fn 136 c136 [.t 2]:=fn_0 Tryz.func136
def ydcu:LO:=[mb false 6 0]
def yczg:LO:=[mv' 0 10 0,o3 (.bin .shr (.tmp 10) (.const (.int .u64 24))) 11 1,o3 (.bin .neq (.tmp 11) (.const (.int .u32 0))) 12 3,mv' 12 13 7,gf (.mv (.tmp 0)) 14 13 15,gf (.bin .neq (.tmp 14) (.const (.int .u32 0))) 15 13 31,gf (.mv (.tmp 1)) 16 13 15,gf (.len (.tmp 16)) 17 13 79,gf (.bin .gtr (.tmp 17) (ci' 0)) 18 13 207,gf (.beq true (.tmp 15) (.tmp 18)) 19 13 511,pk' 13 19 20 1023]
def ydzb:LO:=[mb false 6 0]
def ycxk:LO:=[o3 (.mv (.const (.int .u32 0))) 7 0]
def ydfn:LO:=[mv' 1 21 0,ln' 21 22 1,mc 0 23 0]
def yclq:LO:=[bn' .lss 23 22 24 0]
def ydek:LO:=[ix' 2 21 23 25 0,la' 2 25 26 1,o3 (.alloc 103 1 [.i .u32 0,.i .i64 0]) 9 0,sto 2 9 26 7]
def ydep:LO:=[fa' 0 1 9 27 0,ld' 1 27 28 1,mv' 7 29 0,bn' .leq 28 29 30 7,mv' 30 31 15,gf (.faddr 0 1 (.tmp 9)) 32 31 31,gf (.load false 1 (.tmp 32)) 33 31 63,gf (.mv (.tmp 0)) 34 31 31,gf (.bin .andNot (.tmp 33) (.tmp 34)) 35 31 255,gf (.bin .neq (.tmp 35) (.const (.int .u32 0))) 36 31 511,pk' 31 36 37 1023,mv' 37 38 2047,gf (.faddr 1 1 (.tmp 9)) 39 38 4095,gf (.load false 1 (.tmp 39)) 40 38 8191,gf (.bin .lss (.tmp 40) (ci' 0)) 41 38 16383,pk' 38 41 42 32767,mv' 42 43 65535,gf (.faddr 1 1 (.tmp 9)) 44 43 131071,gf (.load false 1 (.tmp 44)) 45 43 262143,gf (.mv (.tmp 2)) 46 43 131071,gf (.bin .geq (.tmp 45) (.tmp 46)) 47 43 1048575,pk' 43 47 48 2097151]
def ycvw:LO:=[mb false 6 0]
def ycza:LO:=[fa' 0 1 9 49 0,ld' 1 49 50 1,mv' 50 7 3]
def ycle:LO:=[bc .add 23 1 51 0,mv' 51 23 1]
def yblp:LO:=[mb true 6 0]
def c180:SC:=(sr ydcu <| .seq (sr yczg <| cn 20 (sr ydzb <| .ret) .skip) (sr ycxk <| .seq (sr ydfn <| .block 0 (.loop (sr yclq <| .seq (cn 24 .skip (.exit 0)) (.seq (.block 1 (sr ydek <| .seq (sr ydep <| cn 48 (sr ycvw <| .ret) .skip) (.reg false ycza))) (.reg false ycle))))) (sr yblp <| .ret)))
theorem ydpc:Fn 180 c180 [.t 6]:=fn_0 Tryz.func180
def yeio:LO:=[bx' 32 0 3 0,bx' 27 1 4 0,o3 (.alloc 41 1 [.a (.slice none 0 0),.a (.slice none 0 0)]) 6 0,mc 0 7 0]
def yehz:LO:=[la' 3 3 20 0,la' 2 4 21 0,cl' 56 [20,21] 22 3,mv' 22 19 7,xt' 19 0 23 15,xt' 19 1 24 15,mv' 23 8 31,mv' 24 9 127]
def yeew:LO:=[mv' 9 25 0,bc .neq 25 0 26 1,mv' 26 27 3,gt (.mv (.tmp 9)) 28 27 7,gt (.bin .neq (.tmp 28) (ci' 3)) 29 27 15,o3 (.pick (.tmp 27) (.tmp 29) (.const (.bool false))) 30 31]
def yekc:LO:=[o3 (.build [.a (.slice none 0 0),.a (.slice none 0 0)] []) 31 0,mv' 9 32 0,sto 2 6 31 1,mv' 32 7 7]
def yefq:LO:=[mv' 2 33 0,cl' 57 [33] 34 1,o3 (.un .not (.tmp 34)) 35 3]
def yemh:LO:=[o3 (.build [.a (.slice none 0 0),.a (.slice none 0 0)] []) 36 0,sto 2 6 36 1,mc 12 7 3]
def ydyc:LO:=[mv' 9 37 0,bc .neq 37 0 38 1]
def yelk:LO:=[o3 (.build [.a (.slice none 0 0),.a (.slice none 0 0)] []) 39 0,mv' 9 40 0,sto 2 6 39 1,mv' 40 7 7]
def yeff:LO:=[la' 3 3 41 0,la' 2 4 42 0,mv' 2 43 0,cl' 58 [41,42,43] 44 7,mv' 44 10 15]
def yedz:LO:=[mv' 8 45 0,o3 (.mk 77 1 4 [.i .u32 0] (.tmp 45) (.tmp 45)) 46 1,mv' 8 47 0,o3 (.mk 78 1 24 [.a (.slice none 0 0)] (.tmp 47) (.tmp 47)) 48 4,o3 (.build [.a (.slice none 0 0),.a (.slice none 0 0)] [(0,1,(.tmp 46)),(1,1,(.tmp 48))]) 49 15,o3 (.alloc 41 1 [.a (.slice none 0 0),.a (.slice none 0 0)]) 11 0,sto 2 11 49 63]
def ydhu:LO:=[la' 3 3 51 0,la' 2 4 52 0,cl' 59 [51,52] 53 3,mv' 53 50 7,xt' 50 0 54 15,xt' 50 1 55 15,mv' 54 12 31,mv' 55 13 127]
def ydeb:LO:=[mc 0 14 0]
def yczm:LO:=[mv' 8 56 0,mc 0 57 0]
def ycil:LO:=[bn' .lss 57 56 58 0]
def ydbd:LO:=[mv' 57 59 0,mv' 59 15 1]
def ydkf:LO:=[mv' 10 61 0,mv' 12 62 0,mv' 15 63 0,cl' 60 [61,62,63] 64 7,mv' 64 60 15,xt' 60 0 65 31,xt' 60 1 66 31,xt' 60 2 67 31,mv' 65 16 63,mv' 66 17 383,mv' 67 18 1023]
def ydlc:LO:=[mv' 14 68 0,mv' 17 69 0,ln' 69 70 2,bn' .add 68 70 71 7,mv' 71 14 15]
def ydlf:LO:=[mv' 18 72 0,bc .neq 72 0 73 1,mv' 73 74 3,gf (.mv (.tmp 14)) 75 74 7,gf (.bin .gtr (.tmp 75) (ci' 262144)) 76 74 15,pk' 74 76 77 31]
def ydyu:LO:=[o3 (.build [.a (.slice none 0 0),.a (.slice none 0 0)] []) 78 0,sto 2 6 78 1,mc 3 7 3]
def ydbn:LO:=[fa' 0 1 11 79 0,ld' 1 79 80 1,mv' 15 81 0,fa' 1 1 11 82 0,ld' 1 82 83 8,mv' 15 84 0,mv' 16 85 0,mv' 17 86 0,ix' 1 80 81 87 71,sto 1 87 85 327,ix' 1 83 84 88 1023,sto 1 88 86 2047]
def ydej:LO:=[mv' 10 89 0,nk' 89 90 1,fa' 3 1 90 91 3,ld' 1 91 92 7,mv' 12 93 0,cl' 61 [92,93] 94 31]
def ydjc:LO:=[bc .add 57 1 95 0,mv' 95 57 1]
def yddl:LO:=[la' 2 11 96 0,sto 2 6 96 1,mc 0 7 3]
def c14:SC:=(sr yeio <| sr yehz <| .seq (sr yeew <| cn 30 (sr yekc <| .ret) .skip) (.seq (sr yefq <| cn 35 (sr yemh <| .ret) .skip) (.seq (sr ydyc <| cn 38 (sr yelk <| .ret) .skip) (sr yeff <| .seq (.reg true yedz) (sr ydhu <| sr ydeb <| .seq (sr yczm <| .block 0 (.loop (sr ycil <| .seq (cn 58 .skip (.exit 0)) (.seq (.block 1 (sr ydbd <| sr ydkf <| sr ydlc <| .seq (sr ydlf <| cn 77 (sr ydyu <| .ret) .skip) (.seq (.reg true ydbn) (.reg false ydej)))) (.reg false ydjc))))) (sr yddl <| .ret))))))
theorem ydqd:FnU 14 c14 [.c 6 true 2,.t 7]:=fn_u Tryz.func14
def yeho:LO:=[bx' 32 0 3 0,bx' 27 1 4 0,o3 (.mv (.const (.pointer none))) 6 0]
def yejh:LO:=[la' 3 3 11 0,la' 2 4 12 0,cl' 123 [11,12] 13 3,la' 2 4 14 0,cl' 124 [14] 15 15,mv' 2 16 0,la' 3 3 17 0,la' 2 4 18 0,cl' 63 [17,18] 19 223,o3 (.build [.a (.pointer none),.a (.slice none 0 0),.i .i64 0,.a (.slice none 0 0),.a (.slice none 0 0)] [(0,1,(.tmp 13)),(1,1,(.tmp 15)),(2,1,(.tmp 16)),(3,1,(.tmp 19))]) 20 511,bx' 86 20 21 1023,mv' 21 7 2047]
def yeca:LO:=[mv' 7 22 0,mv' 7 23 0,nk' 23 24 2,fa' 3 1 24 25 6,ld' 1 25 26 14,ln' 26 27 30,o3 (.mk 22 1 24 [.a (.slice none 0 0)] (.tmp 27) (.tmp 27)) 28 62,nk' 22 29 127,fa' 4 1 29 30 255,sto 1 30 28 511]
def yecl:LO:=[mc 1 8 0]
def yegx:LO:=[mv' 7 31 0,nk' 31 32 1,fa' 3 1 32 33 3,ld' 1 33 34 7,ln' 34 35 15,bc .sub 35 1 36 31,mv' 36 9 63]
def ydng:LO:=[mv' 9 37 0,bc .geq 37 0 38 1]
def yecy:LO:=[mv' 7 41 0,nk' 41 42 1,fa' 4 1 42 43 3,ld' 1 43 44 7,mv' 9 45 0,mv' 7 46 0,nk' 46 47 32,fa' 3 1 47 48 96,ld' 1 48 49 224,mv' 9 50 0,ix' 1 49 50 51 992,ld' 1 51 52 2016,ln' 52 53 4064,o3 (.mk 3 1 8 [.i .i64 0] (.tmp 53) (.tmp 53)) 54 8160,ix' 1 44 45 55 16383,sto 1 55 54 32767]
def ydza:LO:=[mv' 7 56 0,nk' 56 57 1,fa' 3 1 57 58 3,ld' 1 58 59 7,mv' 9 60 0,ix' 1 59 60 61 31,ld' 1 61 62 63,ln' 62 63 127,bc .sub 63 1 64 255,mv' 64 10 511]
def ydrg:LO:=[mv' 10 65 0,bc .geq 65 0 66 1]
def ycuq:LO:=[mv' 7 69 0,nk' 69 70 1,fa' 4 1 70 71 3,ld' 1 71 72 7,mv' 9 73 0,ix' 1 72 73 74 31,ld' 1 74 75 63,mv' 10 76 0,mv' 8 77 0,ix' 1 75 76 78 511,sto 1 78 77 1023]
def ydex:LO:=[mv' 8 79 0,mv' 7 80 0,nk' 80 81 2,fa' 3 1 81 82 6,ld' 1 82 83 14,mv' 9 84 0,ix' 1 83 84 85 62,ld' 1 85 86 126,mv' 10 87 0,ix' 2 86 87 88 510,o3 (.idxA 2 1 (.tmp 88) (ci' 1)) 89 1022,ld' 1 89 90 2046,mv' 7 91 0,nk' 91 92 4096,fa' 3 1 92 93 12288,ld' 1 93 94 28672,mv' 9 95 0,ix' 1 94 95 96 126976,ld' 1 96 97 258048,mv' 10 98 0,ix' 2 97 98 99 1044480,o3 (.idxA 2 1 (.tmp 99) (ci' 0)) 100 2093056,ld' 1 100 101 4190208,bn' .sub 90 101 102 8388606,bc .add 102 1 103 16777214,bn' .mul 79 103 104 33554431,mv' 104 8 67108863]
def ydct:LO:=[mv' 10 67 0,bc .sub 67 1 68 1,mv' 68 10 3]
def ydvn:LO:=[mv' 9 39 0,bc .sub 39 1 40 1,mv' 40 9 3]
def ydcq:LO:=[mv' 7 105 0,mv' 105 6 1]
def c58:SC:=(sr yeho <| .seq (.reg true yejh) (sr yeca <| sr yecl <| .seq (sr yegx <| .block 0 (.loop (.seq (sr ydng <| cn 38 .skip (.exit 0)) (.seq (.block 1 (.seq (.reg true yecy) (sr ydza <| .block 2 (.loop (.seq (sr ydrg <| cn 66 .skip (.exit 2)) (.seq (.block 3 (sr ycuq <| .reg true ydex)) (.reg false ydct))))))) (.reg false ydvn))))) (sr ydcq <| .ret)))
theorem yega:Fn 58 c58 [.t 6]:=fn_0 Tryz.func58
def yeip:LO:=[o3 (.mv (.const (.int .u32 0))) 6 0,nl' 7 1,mc 0 8 3]
def ydvt:LO:=[o3 (.mv (.const (.int .u32 0))) 9 0]
def yedb:LO:=[o3 (.alloc 150 24 [.i .i64 0]) 10 0]
def yeid:LO:=[mv' 1 21 0,ln' 21 22 1,mc 0 23 0]
def ycnv:LO:=[bn' .lss 23 22 24 0]
def ydtq:LO:=[mv' 23 25 0,mv' 25 11 1]
def ydpi:LO:=[mv' 0 26 0,nk' 26 27 1,fa' 0 1 27 28 3,ld' 1 28 29 7,mv' 1 30 0,mv' 11 31 0,cl' 126 [29,30,31] 32 63,mv' 32 12 127]
def ydus:LO:=[mv' 12 33 0,bc .lss 33 0 34 1]
def ydvi:LO:=[mv' 9 35 0,mv' 11 36 0,o3 (.bin .shl (.const (.int .u32 1)) (.tmp 36)) 37 2,bn' .or 35 37 38 7,mv' 38 9 15]
def yehm:LO:=[mv' 0 39 0,nk' 39 40 1,fa' 0 1 40 41 3,ld' 1 41 42 7,mv' 1 43 0,mv' 11 44 0,mv' 12 45 0,cl' 127 [42,43,44,45] 46 127,ln' 46 47 255,mc 0 48 0]
def ycfl:LO:=[bn' .lss 48 47 49 0]
def ycyl:LO:=[mv' 48 50 0,ix' 1 46 48 51 0,ld' 1 51 52 2,mv' 50 13 7,mv' 52 14 15]
def ydiv:LO:=[mv' 11 53 0,o3 (.idxA 24 1 (.tmp 10) (.tmp 53)) 54 1,ld' 1 54 55 3,mv' 14 56 0,mv' 1 57 0,mv' 11 58 0,ix' 1 57 58 59 48,ld' 1 59 60 112,mv' 13 61 0,ix' 1 60 61 62 496,ld' 1 62 63 1008,bn' .sub 56 63 64 2040,mv' 0 65 0,nk' 65 66 4096,fa' 4 1 66 67 12288,ld' 1 67 68 28672,mv' 11 69 0,ix' 1 68 69 70 126976,ld' 1 70 71 258048,mv' 13 72 0,ix' 1 71 72 73 1044480,ld' 1 73 74 2093056,bn' .mul 64 74 75 4194296,bn' .add 55 75 76 8388607,o3 (.idxA 24 1 (.tmp 10) (.tmp 53)) 77 16777215,sto 1 77 76 33554431]
def yddt:LO:=[bc .add 48 1 78 0,mv' 78 48 1]
def ycmr:LO:=[bc .add 23 1 79 0,mv' 79 23 1]
def ycyc:LO:=[mv' 0 81 0,nk' 81 82 1,fa' 1 1 82 83 3,ld' 1 83 84 7,mv' 0 85 0,nk' 85 86 16,fa' 2 1 86 87 48,ld' 1 87 88 112,mv' 9 89 0,cl' 128 [84,88,89] 90 511,mv' 90 80 1023,xt' 80 0 91 2047,xt' 80 1 92 2047,mv' 91 15 4095,mv' 92 16 16383]
def yczz:LO:=[mv' 16 93 0,bc .neq 93 0 94 1]
def yebm:LO:=[mv' 16 95 0,o3 (.mv (.const (.int .u32 0))) 6 0,nl' 7 2,mv' 95 8 7]
def ydai:LO:=[mv' 15 96 0,ln' 96 97 1,o3 (.mk 103 2 16 [.i .u32 0,.i .i64 0] (.tmp 97) (.tmp 97)) 98 3,o3 (.alloc 78 1 [.a (.slice none 0 0)]) 17 0,sto 1 17 98 15]
def yddc:LO:=[mv' 15 99 0,ln' 99 100 1,mc 0 101 0]
def ycjc:LO:=[bn' .lss 101 100 102 0]
def ydgq:LO:=[mv' 101 103 0,ix' 1 99 101 104 0,ld' 1 104 105 2,o3 (.alloc 3 1 [.i .i64 0]) 18 0,sto 1 18 103 15,mv' 105 19 31]
def ycwd:LO:=[ld' 1 17 106 0,ld' 1 18 107 0,mv' 19 108 0,mv' 2 109 0,o3 (.build [.i .u32 0,.i .i64 0] [(0,1,(.tmp 108)),(1,1,(.tmp 109))]) 110 12,ix' 2 106 107 111 31,sto 2 111 110 63]
def ydad:LO:=[mv' 19 112 0,cl' 129 [112] 113 1]
def ydlg:LO:=[mv' 114 20 0]
def ydez:LO:=[ld' 1 17 115 0,ld' 1 18 116 0,ix' 2 115 116 117 3,fa' 1 1 117 118 7,ld' 1 118 119 15,mv' 20 120 0,o3 (.idxA 24 1 (.tmp 10) (.tmp 120)) 121 32,ld' 1 121 122 96,bn' .add 119 122 123 255,ix' 2 115 116 124 511,fa' 1 1 124 125 1023,sto 1 125 123 2047]
def ydif:LO:=[bc .add 101 1 126 0,mv' 126 101 1]
def ydih:LO:=[mv' 9 127 0,ld' 1 17 128 0,mv' 127 6 1,mv' 128 7 7,mc 0 8 15]
def c60:SC:=(sr yeip <| sr ydvt <| sr yedb <| .seq (sr yeid <| .block 0 (.loop (sr ycnv <| .seq (cn 24 .skip (.exit 0)) (.seq (.block 1 (sr ydtq <| sr ydpi <| .seq (sr ydus <| cn 34 (.exit 1) .skip) (sr ydvi <| sr yehm <| .block 2 (.loop (sr ycfl <| .seq (cn 49 .skip (.exit 2)) (.seq (.block 3 (sr ycyl <| .reg true ydiv)) (.reg false yddt))))))) (.reg false ycmr))))) (.seq (.reg true ycyc) (.seq (sr yczz <| cn 94 (sr yebm <| .ret) .skip) (sr ydai <| .seq (sr yddc <| .block 4 (.loop (sr ycjc <| .seq (cn 102 .skip (.exit 4)) (.seq (.block 5 (sr ydgq <| sr ycwd <| sr ydad <| .block 6 (.range (.tmp 113) [114] (.reg false ydlg) (.block 7 (.reg true ydez))))) (.reg false ydif))))) (.seq (.reg true ydih) .ret)))))
theorem ydoc:FnM 60 c60 [.t 6,.t 7,.t 8]:=fn_m Tryz.func60
def yceo:LO:=[nl' 6 0,mc 0 7 1]
def ycbg:LO:=[mv' 2 11 0,o3 (.bin .eql (.tmp 11) (.const (.int .u32 0))) 12 1]
def ydkc:LO:=[nl' 6 0,mc 0 7 1]
def ydal:LO:=[o3 (.alloc 38 1 [.a (.slice none 0 0)]) 8 0]
def ydcm:LO:=[mv' 1 13 0]
def ycuw:LO:=[bc .eql 13 1 15 0,mv' 15 14 1]
def ydwr:LO:=[mv' 2 16 0,cl' 129 [16] 17 1]
def yehg:LO:=[mv' 18 9 0]
def yecd:LO:=[ld' 1 8 19 0,mv' 9 20 0,o3 (.bin .shl (.const (.int .u32 1)) (.tmp 20)) 21 2,o3 (.bslice 77 1 1 [.i .u32 0] [(0,1,(.tmp 21))]) 22 6,o3 (.app 77 1 4 (.tmp 19) (.tmp 22)) 23 15,sto 1 8 23 31]
def yehc:LO:=[ld' 1 8 24 0,mv' 24 6 1,mc 0 7 3]
def ycfo:LO:=[bc .eql 13 4 26 0,mv' 26 25 1]
def ydme:LO:=[mv' 2 27 0,o3 (.bslice 77 1 1 [.i .u32 0] [(0,1,(.tmp 27))]) 28 1,mv' 28 6 3,mc 0 7 7]
def ychk:LO:=[mv' 2 29 0,cl' 113 [29] 30 1,bc .gtr 30 10 31 3]
def ydrt:LO:=[nl' 6 0,mc 3 7 1]
def ycbk:LO:=[mv' 2 32 0,o3 (.un .neg (.tmp 32)) 33 1,mv' 2 34 0,bn' .and 33 34 35 7,mv' 35 10 15]
def ybmm:LO:=[mv' 10 36 0,o3 (.bin .neq (.tmp 36) (.const (.int .u32 0))) 37 1]
def yclb:LO:=[mv' 0 43 0,mv' 1 44 0,mv' 2 45 0,mv' 10 46 0,cl' 171 [43,44,45,46] 47 15]
def ycfu:LO:=[ld' 1 8 48 0,mv' 10 49 0,o3 (.bslice 77 1 1 [.i .u32 0] [(0,1,(.tmp 49))]) 50 2,o3 (.app 77 1 4 (.tmp 48) (.tmp 50)) 51 7,sto 1 8 51 15]
def ybpg:LO:=[mv' 10 38 0,mv' 2 39 0,o3 (.wsub (.tmp 38) (.tmp 39)) 40 3,mv' 2 41 0,bn' .and 40 41 42 15,mv' 42 10 31]
def ycac:LO:=[ld' 1 8 52 0,mv' 52 6 1,mc 0 7 3]
def c128:SC:=(sr yceo <| .seq (sr ycbg <| cn 12 (sr ydkc <| .ret) .skip) (sr ydal <| .seq (sr ydcm <| .block 0 (sr ycuw <| cn 14 (.seq (sr ydwr <| .block 1 (.range (.tmp 17) [18] (.reg false yehg) (.block 2 (.reg true yecd)))) (sr yehc <| .ret)) (sr ycfo <| cn 25 (sr ydme <| .ret) .skip))) (.seq (sr ychk <| cn 31 (sr ydrt <| .ret) .skip) (.seq (sr ycbk <| .block 3 (.loop (.seq (sr ybmm <| cn 37 .skip (.exit 3)) (.seq (.block 4 (sr yclb <| cn 47 (.reg false ycfu) .skip)) (.reg false ybpg))))) (sr ycac <| .ret)))))
theorem ydqz:Fn 128 c128 [.t 6,.t 7]:=fn_0 Tryz.func128
def yejs:LO:=[bx' 41 0 2 0,mc 0 4 0]
def yeea:LO:=[la' 2 2 5 0,cl' 136 [5] 6 1,o3 (.un .not (.tmp 6)) 7 3]
def yele:LO:=[mc 13 4 0]
def yefx:LO:=[mv' 1 8 0,ln' 8 9 1,fa' 0 1 2 10 0,ld' 1 10 11 4,ln' 11 12 12,bn' .neq 9 12 13 31]
def yeka:LO:=[mc 7 4 0]
def ydve:LO:=[mc 0 4 0]
def c73:SC:=(sr yejs <| .seq (sr yeea <| cn 7 (sr yele <| .ret) .skip) (.seq (sr yefx <| cn 13 (sr yeka <| .ret) .skip) (sr ydve <| .ret)))
theorem ydya:Fn 73 c73 [.t 4]:=fn_0 Tryz.func73
def ydwe:LO:=[bx' 41 0 2 0,mb false 4 0,mc 0 5 2]
def yejb:LO:=[la' 2 2 11 0,mv' 1 12 0,cl' 73 [11,12] 13 3,mv' 13 6 7]
def yedd:LO:=[mv' 6 14 0,bc .neq 14 0 15 1]
def yemf:LO:=[mv' 6 16 0,mb false 4 0,mv' 16 5 3]
def ydxg:LO:=[fa' 1 1 2 17 0,ld' 1 17 18 1,ln' 18 19 3,mc 0 20 0]
def ycta:LO:=[bn' .lss 20 19 21 0]
def ydot:LO:=[mv' 20 22 0,ix' 1 18 20 23 0,ld' 1 23 24 2,mv' 22 7 7,mv' 24 8 15]
def ydrm:LO:=[mv' 1 25 0,mv' 7 26 0,ix' 1 25 26 27 3,ld' 1 27 28 7,o3 (.un .not (.tmp 28)) 29 15]
def ydzq:LO:=[mv' 8 30 0,ln' 30 31 1,mc 0 32 0]
def ydwy:LO:=[bn' .lss 32 31 33 0]
def yecz:LO:=[ix' 2 30 32 34 0,la' 2 34 35 1,o3 (.alloc 103 1 [.i .u32 0,.i .i64 0]) 10 0,sto 2 10 35 7]
def ydwg:LO:=[mv' 1 36 0,fa' 1 1 10 37 0,ld' 1 37 38 2,ix' 1 36 38 39 7,ld' 1 39 40 15,o3 (.un .not (.tmp 40)) 41 31]
def ydxr:LO:=[mb false 4 0,mc 0 5 1]
def yeeo:LO:=[bc .add 32 1 42 0,mv' 42 32 1]
def ycjk:LO:=[bc .add 20 1 43 0,mv' 43 20 1]
def ydkr:LO:=[mb true 4 0,mc 0 5 1]
def c18:SC:=(sr ydwe <| .seq (sr yejb <| sr yedd <| cn 15 (sr yemf <| .ret) .skip) (.seq (sr ydxg <| .block 0 (.loop (sr ycta <| .seq (cn 21 .skip (.exit 0)) (.seq (.block 1 (sr ydot <| .seq (sr ydrm <| cn 29 (.exit 1) .skip) (sr ydzq <| .block 2 (.loop (sr ydwy <| .seq (cn 33 .skip (.exit 2)) (.seq (.block 3 (sr yecz <| sr ydwg <| cn 41 (sr ydxr <| .ret) .skip)) (.reg false yeeo))))))) (.reg false ycjk))))) (sr ydkr <| .ret)))
theorem yeah:Fn 18 c18 [.t 4,.t 5]:=fn_0 Tryz.func18
def ydah:LO:=[bx' 41 0 1 0,nl' 2 0]
def ydit:LO:=[fa' 1 1 1 8 0,ld' 1 8 9 1,ln' 9 10 3,o3 (.mk 22 1 24 [.a (.slice none 0 0)] (.tmp 10) (.tmp 10)) 11 7,mv' 11 3 15]
def ydgi:LO:=[fa' 1 1 1 12 0,ld' 1 12 13 1,ln' 13 14 3,mc 0 15 0]
def ycnk:LO:=[bn' .lss 15 14 16 0]
def ycwe:LO:=[mv' 15 17 0,ix' 1 13 15 18 0,ld' 1 18 19 2,mv' 17 4 7,mv' 19 5 15]
def ycvj:LO:=[mv' 5 20 0,ln' 20 21 1,mc 0 22 0]
def ybtk:LO:=[bn' .lss 22 21 23 0]
def ycdu:LO:=[ix' 2 20 22 24 0,la' 2 24 25 1,o3 (.alloc 103 1 [.i .u32 0,.i .i64 0]) 7 0,sto 2 7 25 7]
def ycap:LO:=[mv' 3 26 0,fa' 1 1 7 27 0,ld' 1 27 28 2,mv' 3 29 0,fa' 1 1 7 30 0,ld' 1 30 31 16,ix' 1 29 31 32 56,ld' 1 32 33 120,mv' 4 34 0,o3 (.bslice 3 1 1 [.i .i64 0] [(0,1,(.tmp 34))]) 35 256,o3 (.app 3 1 8 (.tmp 33) (.tmp 35)) 36 1016,ix' 1 26 28 37 2047,sto 1 37 36 4095]
def ycgk:LO:=[bc .add 22 1 38 0,mv' 38 22 1]
def ybdl:LO:=[bc .add 15 1 39 0,mv' 39 15 1]
def ychq:LO:=[mv' 3 40 0,mv' 40 2 1]
def c179:SC:=(sr ydah <| sr ydit <| .seq (sr ydgi <| .block 0 (.loop (sr ycnk <| .seq (cn 16 .skip (.exit 0)) (.seq (.block 1 (sr ycwe <| sr ycvj <| .block 2 (.loop (sr ybtk <| .seq (cn 23 .skip (.exit 2)) (.seq (.block 3 (sr ycdu <| .reg true ycap)) (.reg false ycgk)))))) (.reg false ybdl))))) (sr ychq <| .ret))
theorem ydlv:Fn 179 c179 [.t 2]:=fn_0 Tryz.func179
def ycww:LO:=[bx' 41 0 2 0,nl' 4 0]
def ydba:LO:=[nl' 5 0]
def ycuu:LO:=[mv' 1 13 0,ln' 13 14 1,mc 0 15 0]
def ybsq:LO:=[bn' .lss 15 14 16 0]
def yciv:LO:=[mv' 15 17 0,ix' 1 13 15 18 0,ld' 1 18 19 2,mv' 17 6 7,mv' 19 7 15]
def ycjf:LO:=[mv' 7 20 0]
def ycgg:LO:=[mv' 5 21 0,mv' 6 22 0,o3 (.bslice 3 1 1 [.i .i64 0] [(0,1,(.tmp 22))]) 23 2,o3 (.app 3 1 8 (.tmp 21) (.tmp 23)) 24 7,mv' 24 5 15]
def ycdo:LO:=[bc .add 15 1 25 0,mv' 25 15 1]
def yczp:LO:=[la' 2 2 26 0,cl' 179 [26] 27 1,mv' 27 8 3]
def ydab:LO:=[mv' 1 28 0,ln' 28 29 1,o3 (.mk 3 1 8 [.i .i64 0] (.tmp 29) (.tmp 29)) 30 3,mv' 30 9 7]
def ycae:LO:=[mc 0 10 0]
def ybnj:LO:=[mv' 10 31 0,mv' 5 32 0,ln' 32 33 2,bn' .lss 31 33 34 7]
def ybyy:LO:=[mv' 8 37 0,mv' 5 38 0,mv' 10 39 0,ix' 1 38 39 40 6,ld' 1 40 41 14,ix' 1 37 41 42 31,ld' 1 42 43 63,ln' 43 44 127,mc 0 45 0]
def yzq:LO:=[bn' .lss 45 44 46 0]
def ybel:LO:=[ix' 1 43 45 47 0,ld' 1 47 48 1,mv' 48 12 3]
def ybfg:LO:=[mv' 9 49 0,mv' 12 50 0,ix' 1 49 50 51 3,ld' 1 51 52 7,bc .add 52 1 53 15,ix' 1 49 50 54 31,sto 1 54 53 63]
def ybef:LO:=[mv' 1 55 0,mv' 12 56 0,ix' 1 55 56 57 3,ld' 1 57 58 7,o3 (.un .not (.tmp 58)) 59 15,mv' 59 60 31,gt (.mv (.tmp 9)) 61 60 63,gt (.mv (.tmp 12)) 62 60 63,gt (.idx 1 (.tmp 61) (.tmp 62)) 63 60 255,gt (.load false 1 (.tmp 63)) 64 60 511,gt (.faddr 1 1 (.tmp 2)) 65 60 63,gt (.load false 1 (.tmp 65)) 66 60 1087,gt (.mv (.tmp 12)) 67 60 63,gt (.idx 1 (.tmp 66) (.tmp 67)) 68 60 7231,gt (.load false 1 (.tmp 68)) 69 60 15423,gt (.len (.tmp 69)) 70 60 31807,gt (.bin .eql (.tmp 64) (.tmp 70)) 71 60 65535,o3 (.pick (.tmp 60) (.tmp 71) (.const (.bool false))) 72 131071]
def yclz:LO:=[mv' 5 73 0,mv' 12 74 0,o3 (.bslice 3 1 1 [.i .i64 0] [(0,1,(.tmp 74))]) 75 2,o3 (.app 3 1 8 (.tmp 73) (.tmp 75)) 76 7,mv' 76 5 15]
def ybfw:LO:=[bc .add 45 1 77 0,mv' 77 45 1]
def ycir:LO:=[mv' 10 35 0,bc .add 35 1 36 1,mv' 36 10 3]
def ycaj:LO:=[mv' 5 78 0,mv' 78 4 1]
def c135:SC:=(sr ycww <| sr ydba <| .seq (sr ycuu <| .block 0 (.loop (sr ybsq <| .seq (cn 16 .skip (.exit 0)) (.seq (.block 1 (sr yciv <| sr ycjf <| cn 20 (.reg false ycgg) .skip)) (.reg false ycdo))))) (sr yczp <| sr ydab <| .seq (sr ycae <| .block 2 (.loop (.seq (sr ybnj <| cn 34 .skip (.exit 2)) (.seq (.block 3 (sr ybyy <| .block 4 (.loop (sr yzq <| .seq (cn 46 .skip (.exit 4)) (.seq (.block 5 (sr ybel <| sr ybfg <| .seq (.reg true ybef) (cn 72 (.reg false yclz) .skip))) (.reg false ybfw)))))) (.reg false ycir))))) (sr ycaj <| .ret)))
theorem ydmv:Fn 135 c135 [.t 4]:=fn_0 Tryz.func135
def yejl:LO:=[bx' 41 0 2 0,nl' 4 0,mc 0 5 2]
def yecr:LO:=[la' 2 2 10 0,mv' 1 11 0,cl' 73 [10,11] 12 3,mv' 12 6 7]
def yecs:LO:=[mv' 6 13 0,bc .neq 13 0 14 1]
def yejt:LO:=[mv' 6 15 0,nl' 4 0,mv' 15 5 3]
def ydwz:LO:=[mv' 1 16 0,ln' 16 17 1,o3 (.mk 4 1 1 [.b false] (.tmp 17) (.tmp 17)) 18 3,mv' 18 7 7]
def yeiz:LO:=[la' 2 2 19 0,mv' 1 20 0,cl' 135 [19,20] 21 3,ln' 21 22 7,mc 0 23 0]
def ydnd:LO:=[bn' .lss 23 22 24 0]
def yeil:LO:=[ix' 1 21 23 25 0,ld' 1 25 26 1,mv' 26 9 3]
def yebx:LO:=[mv' 7 27 0,mv' 9 28 0,ix' 1 27 28 29 3,o0 (.store 1 (.tmp 29) (.const (.bool true))) 7]
def yebk:LO:=[bc .add 23 1 30 0,mv' 30 23 1]
def ydcl:LO:=[mv' 7 31 0,mv' 31 4 1,mc 0 5 3]
def c72:SC:=(sr yejl <| .seq (sr yecr <| sr yecs <| cn 14 (sr yejt <| .ret) .skip) (sr ydwz <| .seq (sr yeiz <| .block 0 (.loop (sr ydnd <| .seq (cn 24 .skip (.exit 0)) (.seq (.block 1 (sr yeil <| .reg false yebx)) (.reg false yebk))))) (sr ydcl <| .ret)))
theorem ydty:FnM 72 c72 [.t 4,.t 5]:=fn_m Tryz.func72
def yebt:LO:=[bx' 41 0 2 0,nl' 4 0,mc 0 5 2]
def yecm:LO:=[la' 2 2 10 0,mv' 1 11 0,cl' 72 [10,11] 12 3,mv' 12 9 7,xt' 9 0 13 15,xt' 9 1 14 15,mv' 13 6 31,mv' 14 7 127]
def ydwh:LO:=[mv' 7 15 0,bc .neq 15 0 16 1]
def yekh:LO:=[mv' 7 17 0,nl' 4 0,mv' 17 5 3]
def yeiy:LO:=[mv' 6 18 0,ln' 18 19 1,mc 0 20 0]
def ydqg:LO:=[bn' .lss 20 19 21 0]
def ydwl:LO:=[mv' 20 22 0,mv' 22 8 1]
def yedx:LO:=[mv' 6 23 0,mv' 8 24 0,mv' 6 25 0,mv' 8 26 0,ix' 1 25 26 27 12,ld' 1 27 28 28,o3 (.un .not (.tmp 28)) 29 60,ix' 1 23 24 30 127,sto 1 30 29 255]
def yehq:LO:=[bc .add 20 1 31 0,mv' 31 20 1]
def yegg:LO:=[mv' 6 32 0,mv' 32 4 1,mc 0 5 3]
def c17:SC:=(sr yebt <| sr yecm <| .seq (sr ydwh <| cn 16 (sr yekh <| .ret) .skip) (.seq (sr yeiy <| .block 0 (.loop (sr ydqg <| .seq (cn 21 .skip (.exit 0)) (.seq (.block 1 (sr ydwl <| .reg false yedx)) (.reg false yehq))))) (sr yegg <| .ret)))
theorem ydlw:FnU 17 c17 [.t 4,.t 5]:=fn_u Tryz.func17
def ydwn:LO:=[bx' 41 0 2 0,nl' 4 0,mc 0 5 2]
def ydzx:LO:=[la' 2 2 8 0,mv' 1 9 0,cl' 73 [8,9] 10 3,mv' 10 6 7]
def yeep:LO:=[mv' 6 11 0,bc .neq 11 0 12 1]
def yekr:LO:=[mv' 6 13 0,nl' 4 0,mv' 13 5 3]
def yedg:LO:=[la' 2 2 14 0,mv' 1 15 0,cl' 135 [14,15] 16 3,mv' 16 7 7]
def ydyb:LO:=[mv' 7 17 0,ln' 17 18 1,mv' 1 19 0,ln' 19 20 4,bn' .lss 18 20 21 15]
def yeli:LO:=[nl' 4 0,mc 14 5 1]
def ydxc:LO:=[mv' 7 22 0,mv' 22 4 1,mc 0 5 3]
def c74:SC:=(sr ydwn <| .seq (sr ydzx <| sr yeep <| cn 12 (sr yekr <| .ret) .skip) (sr yedg <| .seq (sr ydyb <| cn 21 (sr yeli <| .ret) .skip) (sr ydxc <| .ret)))
theorem ydvo:Fn 74 c74 [.t 4,.t 5]:=fn_0 Tryz.func74
def yecq:LO:=[bx' 41 0 3 0,nl' 6 0,mc 0 7 2]
def yeha:LO:=[la' 2 3 16 0,mv' 1 17 0,cl' 74 [16,17] 18 3,mv' 18 15 7,xt' 15 0 19 15,xt' 15 1 20 15,mv' 19 8 31,mv' 20 9 127]
def ydxp:LO:=[mv' 9 21 0,bc .neq 21 0 22 1]
def yemg:LO:=[mv' 9 23 0,nl' 6 0,mv' 23 7 3]
def yefh:LO:=[mv' 1 24 0,ln' 24 25 1,o3 (.mk 3 1 8 [.i .i64 0] (.tmp 25) (.tmp 25)) 26 3,mv' 26 10 7]
def yejg:LO:=[mv' 8 27 0,ln' 27 28 1,mc 0 29 0]
def yctf:LO:=[bn' .lss 29 28 30 0]
def ydsq:LO:=[ix' 1 27 29 31 0,ld' 1 31 32 1,mv' 32 12 3]
def ydqs:LO:=[mv' 1 33 0,mv' 12 34 0,ix' 1 33 34 35 3,ld' 1 35 36 7]
def yefl:LO:=[fa' 1 1 3 37 0,ld' 1 37 38 1,mv' 12 39 0,ix' 1 38 39 40 7,ld' 1 40 41 15,ln' 41 42 31,mc 0 43 0]
def ycky:LO:=[bn' .lss 43 42 44 0]
def ydlm:LO:=[ix' 2 41 43 45 0,la' 2 45 46 1,o3 (.alloc 103 1 [.i .u32 0,.i .i64 0]) 14 0,sto 2 14 46 7]
def ydhm:LO:=[mv' 10 47 0,mv' 12 48 0,mv' 10 49 0,mv' 12 50 0,ix' 1 49 50 51 12,ld' 1 51 52 28,mv' 2 53 0,la' 2 14 54 0,o3 (.call (.tmp 53) [(.tmp 54)]) 55 192,mv' 10 56 0,fa' 1 1 14 57 0,ld' 1 57 58 1024,ix' 1 56 58 59 3584,ld' 1 59 60 7680,bn' .add 55 60 61 16320,o3 (.mm true (.tmp 52) (.tmp 61)) 62 32764,ix' 1 47 48 63 65535,sto 1 63 62 131071]
def ycxv:LO:=[bc .add 43 1 64 0,mv' 64 43 1]
def ychg:LO:=[bc .add 29 1 65 0,mv' 65 29 1]
def yczh:LO:=[mv' 10 66 0,mv' 66 6 1,mc 0 7 3]
def c77:SC:=(sr yecq <| sr yeha <| .seq (sr ydxp <| cn 22 (sr yemg <| .ret) .skip) (sr yefh <| .seq (sr yejg <| .block 0 (.loop (sr yctf <| .seq (cn 30 .skip (.exit 0)) (.seq (.block 1 (sr ydsq <| .seq (sr ydqs <| cn 36 (.exit 1) .skip) (sr yefl <| .block 2 (.loop (sr ycky <| .seq (cn 44 .skip (.exit 2)) (.seq (.block 3 (sr ydlm <| .reg true ydhm)) (.reg false ycxv))))))) (.reg false ychg))))) (sr yczh <| .ret)))
theorem yeed:Fn 77 c77 [.t 6,.t 7]:=fn_0 Tryz.func77
def ydxv:LO:=[bx' 103 0 1 0,mc 0 2 0]
def yejq:LO:=[fa' 0 1 1 3 0,ld' 1 3 4 1,cl' 113 [4] 5 3,mv' 5 2 7]
def c78:SC:=(sr ydxv <| sr yejq <| .ret)
theorem yego:Fn 78 c78 [.t 2]:=fn_0 Tryz.func78
def yeik:LO:=[bx' 41 0 2 0,nl' 4 0,mc 0 5 2]
def ydvh:LO:=[la' 2 2 6 0,mv' 1 7 0,o3 (.call (.func 77) [(.tmp 6),(.tmp 7),(.func 78)]) 8 3,xt' 8 0 9 7,xt' 8 1 10 7,mv' 9 4 31,mv' 10 5 63]
def c20:SC:=(sr yeik <| sr ydvh <| .ret)
theorem yebp:Fn 20 c20 [.t 4,.t 5]:=fn_0 Tryz.func20
def ydnr:LO:=[bx' 41 0 3 0,bx' 109 1 4 0,bx' 103 2 5 0,o3 (.alloc 109 1 [.i .i64 0,.i .u32 0]) 6 0,mb false 7 0]
def ydtl:LO:=[fa' 1 1 4 9 0,ld' 1 9 10 1,fa' 0 1 5 11 0,ld' 1 11 12 4,bn' .andNot 10 12 13 15,fa' 0 1 3 14 0,ld' 1 14 15 32,fa' 1 1 5 16 0,ld' 1 16 17 128,ix' 1 15 17 18 480,ld' 1 18 19 992,bn' .and 13 19 20 2047,mv' 20 8 4095]
def ydpl:LO:=[mv' 8 21 0,o3 (.bin .eql (.tmp 21) (.const (.int .u32 0))) 22 1]
def yeba:LO:=[fa' 1 1 5 23 0,ld' 1 23 24 1,fa' 0 1 3 25 0,ld' 1 25 26 4,fa' 1 1 5 27 0,ld' 1 27 28 16,ix' 1 26 28 29 60,ld' 1 29 30 124,o3 (.build [.i .i64 0,.i .u32 0] [(0,1,(.tmp 24)),(1,1,(.tmp 30))]) 31 255,sto 2 6 31 511,mb true 7 1023]
def yeej:LO:=[fa' 1 1 5 32 0,ld' 1 32 33 1,mv' 8 34 0,o3 (.build [.i .i64 0,.i .u32 0] [(0,1,(.tmp 33)),(1,1,(.tmp 34))]) 35 7,sto 2 6 35 15,mb false 7 31]
def c76:SC:=(sr ydnr <| .seq (.reg true ydtl) (.seq (sr ydpl <| cn 22 (.seq (.reg true yeba) .ret) .skip) (sr yeej <| .ret)))
theorem yebn:Fn 76 c76 [.c 6 true 2,.t 7]:=fn_0 Tryz.func76
def yeec:LO:=[bx' 41 0 2 0,bx' 45 1 3 0,nl' 4 0,mc 0 5 4]
def yeem:LO:=[o3 (.mkmap 0) 18 0,o3 (.alloc 166 1 [.a (.map none)]) 6 0,sto 1 6 18 3]
def ydvr:LO:=[o3 (.alloc 167 1 [.a (.slice none 0 0)]) 7 0]
def yeiu:LO:=[o3 (.mkfn 137 [] [(.tmp 3),(.tmp 6),(.tmp 7)]) 19 0,mv' 19 8 1]
def yech:LO:=[fa' 0 1 2 20 0,ld' 1 20 21 1,ln' 21 22 3,mc 0 23 0]
def ydrv:LO:=[bn' .lss 23 22 24 0]
def ydvz:LO:=[mv' 23 25 0,ix' 1 21 23 26 0,ld' 1 26 27 2,mv' 25 9 7,mv' 27 10 15]
def ydyn:LO:=[mv' 8 28 0,mv' 9 29 0,mv' 10 30 0,o3 (.build [.i .i64 0,.i .u32 0] [(0,1,(.tmp 29)),(1,1,(.tmp 30))]) 31 6,o3 (.call (.tmp 28) [(.tmp 31)]) 32 15]
def yehx:LO:=[bc .add 23 1 33 0,mv' 33 23 1]
def ydxo:LO:=[ld' 1 3 34 0,ln' 34 35 1,o3 (.mk 38 1 24 [.a (.slice none 0 0)] (.tmp 35) (.tmp 35)) 36 3,mv' 36 11 7]
def ydkd:LO:=[mc 0 12 0]
def ybsf:LO:=[mv' 12 37 0,ld' 1 7 38 0,ln' 38 39 2,bn' .lss 37 39 40 7]
def ycid:LO:=[ld' 1 7 43 0,ln' 43 44 1,bc .gtr 44 262144 45 3]
def yegc:LO:=[nl' 4 0,mc 3 5 1]
def ycmt:LO:=[ld' 1 7 46 0,mv' 12 47 0,ix' 2 46 47 48 3,la' 2 48 49 7,o3 (.alloc 109 1 [.i .i64 0,.i .u32 0]) 13 0,sto 2 13 49 31]
def yclm:LO:=[mv' 11 50 0,fa' 0 1 13 51 0,ld' 1 51 52 2,mv' 11 53 0,fa' 0 1 13 54 0,ld' 1 54 55 16,ix' 1 53 55 56 56,ld' 1 56 57 120,fa' 1 1 13 58 0,ld' 1 58 59 256,o3 (.bslice 77 1 1 [.i .u32 0] [(0,1,(.tmp 59))]) 60 768,o3 (.app 77 1 4 (.tmp 57) (.tmp 60)) 61 2040,ix' 1 50 52 62 4095,sto 1 62 61 8191]
def ycao:LO:=[fa' 1 1 2 63 0,ld' 1 63 64 1,fa' 0 1 13 65 0,ld' 1 65 66 4,ix' 1 64 66 67 15,ld' 1 67 68 31,ln' 68 69 63,mc 0 70 0]
def ybhx:LO:=[bn' .lss 70 69 71 0]
def ycdb:LO:=[ix' 2 68 70 72 0,la' 2 72 73 1,o3 (.alloc 103 1 [.i .u32 0,.i .i64 0]) 15 0,sto 2 15 73 7]
def ycce:LO:=[la' 2 2 75 0,la' 2 13 76 0,la' 2 15 77 0,cl' 76 [75,76,77] 78 7,mv' 78 74 15,xt' 74 0 79 31,xt' 74 1 80 31,o3 (.alloc 109 1 [.i .i64 0,.i .u32 0]) 16 0,sto 2 16 79 191,mv' 80 17 511]
def ycej:LO:=[mv' 8 81 0,la' 2 16 82 0,o3 (.call (.tmp 81) [(.tmp 82)]) 83 3]
def ycgm:LO:=[bc .add 70 1 84 0,mv' 84 70 1]
def ycgn:LO:=[mv' 12 41 0,bc .add 41 1 42 1,mv' 42 12 3]
def ycxi:LO:=[mv' 11 85 0,mv' 85 4 1,mc 0 5 3]
def c75:SC:=(sr yeec <| sr yeem <| sr ydvr <| sr yeiu <| .seq (sr yech <| .block 0 (.loop (sr ydrv <| .seq (cn 24 .skip (.exit 0)) (.seq (.block 1 (sr ydvz <| .reg false ydyn)) (.reg false yehx))))) (sr ydxo <| .seq (sr ydkd <| .block 2 (.loop (.seq (sr ybsf <| cn 40 .skip (.exit 2)) (.seq (.block 3 (.seq (sr ycid <| cn 45 (sr yegc <| .ret) .skip) (sr ycmt <| .seq (.reg true yclm) (sr ycao <| .block 4 (.loop (sr ybhx <| .seq (cn 71 .skip (.exit 4)) (.seq (.block 5 (sr ycdb <| sr ycce <| .reg false ycej)) (.reg false ycgm)))))))) (.reg false ycgn))))) (sr ycxi <| .ret)))
theorem ydtf:FnU 75 c75 [.t 4,.t 5]:=fn_u Tryz.func75
def ybqy:LO:=[bx' 109 0 4 0]
def ybts:LO:=[ld' 1 1 5 0,fa' 0 1 4 6 0,ld' 1 6 7 2,ix' 1 5 7 8 7,ld' 1 8 9 15,o3 (.un .not (.tmp 9)) 10 31,mv' 10 11 63,gt (.load false 1 (.tmp 2)) 12 11 127,gt (.load true 2 (.tmp 4)) 13 11 127,gt (.mget 0 (.tmp 12) (.tmp 13)) 14 11 511,gt (.un .not (.tmp 14)) 15 11 1023,o3 (.pick (.tmp 11) (.tmp 15) (.const (.bool false))) 16 2047]
def ydij:LO:=[ld' 1 2 17 0,la' 2 4 18 0,o0 (.mset 0 (.tmp 17) (.tmp 18) (.const (.bool true))) 3]
def ycxc:LO:=[ld' 1 3 19 0,la' 2 4 20 0,o3 (.bslice 109 2 1 [.i .i64 0,.i .u32 0] [(0,2,(.tmp 20))]) 21 2,o3 (.app 109 2 16 (.tmp 19) (.tmp 21)) 22 7,sto 1 3 22 15]
def c137:SC:=(sr ybqy <| sr ybts <| cn 16 (sr ydij <| .reg false ycxc) .skip)
theorem yctu:FnM 137 c137 []:=fn_m Tryz.func137
def yeap:LO:=[bx' 41 0 2 0,nl' 4 0,mc 0 5 2]
def yedo:LO:=[la' 2 2 24 0,mv' 1 25 0,cl' 74 [24,25] 26 3,mv' 26 23 7,xt' 23 0 27 15,xt' 23 1 28 15,mv' 27 6 31,mv' 28 7 127]
def ydzu:LO:=[mv' 7 29 0,bc .neq 29 0 30 1]
def yekg:LO:=[mv' 7 31 0,nl' 4 0,mv' 31 5 3]
def yejr:LO:=[la' 2 2 33 0,mv' 1 34 0,cl' 75 [33,34] 35 3,mv' 35 32 7,xt' 32 0 36 15,xt' 32 1 37 15,mv' 36 8 31,mv' 37 7 127]
def ydyf:LO:=[mv' 7 38 0,bc .neq 38 0 39 1]
def yelj:LO:=[mv' 7 40 0,nl' 4 0,mv' 40 5 3]
def yeeu:LO:=[o3 (.mkmap 1) 41 0,mv' 41 9 1]
def yebz:LO:=[mv' 6 42 0,ln' 42 43 1,mc 0 44 0]
def ydrw:LO:=[bn' .lss 44 43 45 0]
def ycvy:LO:=[ix' 1 42 44 46 0,ld' 1 46 47 1,mv' 47 11 3]
def ycxy:LO:=[mv' 8 48 0,mv' 11 49 0,ix' 1 48 49 50 3,ld' 1 50 51 7,ln' 51 52 15,mc 0 53 0]
def yciq:LO:=[bn' .lss 53 52 54 0]
def ydau:LO:=[ix' 1 51 53 55 0,ld' 1 55 56 1,mv' 56 13 3]
def ydkb:LO:=[mv' 11 57 0,mv' 13 58 0,o3 (.build [.i .i64 0,.i .u32 0] [(0,1,(.tmp 57)),(1,1,(.tmp 58))]) 59 3,o3 (.alloc 109 1 [.i .i64 0,.i .u32 0]) 14 0,sto 2 14 59 15]
def ydaq:LO:=[mc 1 15 0]
def ydkp:LO:=[fa' 1 1 2 60 0,ld' 1 60 61 1,mv' 11 62 0,ix' 1 61 62 63 7,ld' 1 63 64 15,ln' 64 65 31,mc 0 66 0]
def yblh:LO:=[bn' .lss 66 65 67 0]
def ybrs:LO:=[ix' 2 64 66 68 0,la' 2 68 69 1,o3 (.alloc 103 1 [.i .u32 0,.i .i64 0]) 17 0,sto 2 17 69 7]
def ybtv:LO:=[mv' 1 70 0,fa' 1 1 17 71 0,ld' 1 71 72 2,ix' 1 70 72 73 7,ld' 1 73 74 15]
def ycht:LO:=[la' 2 2 76 0,la' 2 14 77 0,la' 2 17 78 0,cl' 76 [76,77,78] 79 7,mv' 79 75 15,xt' 75 0 80 31,xt' 75 1 81 31,o3 (.alloc 109 1 [.i .i64 0,.i .u32 0]) 18 0,sto 2 18 80 191,mv' 81 19 511]
def ycdn:LO:=[mv' 19 82 0]
def ycyw:LO:=[mv' 15 83 0,mv' 9 84 0,la' 2 18 85 0,o3 (.mget 1 (.tmp 84) (.tmp 85)) 86 6,o3 (.bin .add (ci' 1) (.tmp 86)) 87 14,o3 (.mm true (.tmp 83) (.tmp 87)) 88 31,mv' 88 15 63]
def ydge:LO:=[mv' 15 89 0,mv' 9 90 0,la' 2 18 91 0,o3 (.mget 1 (.tmp 90) (.tmp 91)) 92 6,o3 (.mm true (.tmp 89) (.tmp 92)) 93 15,mv' 93 15 31]
def ybrn:LO:=[bc .add 66 1 94 0,mv' 94 66 1]
def ycvr:LO:=[mv' 9 95 0,la' 2 14 96 0,mv' 15 97 0,o0 (.mset 1 (.tmp 95) (.tmp 96) (.tmp 97)) 7]
def ydaf:LO:=[bc .add 53 1 98 0,mv' 98 53 1]
def ydip:LO:=[bc .add 44 1 99 0,mv' 99 44 1]
def ydeu:LO:=[mv' 1 100 0,ln' 100 101 1,o3 (.mk 3 1 8 [.i .i64 0] (.tmp 101) (.tmp 101)) 102 3,mv' 102 20 7]
def ydke:LO:=[fa' 0 1 2 103 0,ld' 1 103 104 1,ln' 104 105 3,mc 0 106 0]
def ybrd:LO:=[bn' .lss 106 105 107 0]
def yclx:LO:=[mv' 106 108 0,ix' 1 104 106 109 0,ld' 1 109 110 2,mv' 108 21 7,mv' 110 22 15]
def ycme:LO:=[mv' 1 111 0,mv' 21 112 0,ix' 1 111 112 113 3,ld' 1 113 114 7,o3 (.un .not (.tmp 114)) 115 15]
def ydjj:LO:=[mv' 20 116 0,mv' 21 117 0,mv' 9 118 0,mv' 21 119 0,mv' 22 120 0,o3 (.build [.i .i64 0,.i .u32 0] [(0,1,(.tmp 119)),(1,1,(.tmp 120))]) 121 24,o3 (.mget 1 (.tmp 118) (.tmp 121)) 122 60,ix' 1 116 117 123 127,sto 1 123 122 255]
def yckg:LO:=[bc .add 106 1 124 0,mv' 124 106 1]
def ydgy:LO:=[mv' 20 125 0,mv' 125 4 1,mc 0 5 3]
def c19:SC:=(sr yeap <| sr yedo <| .seq (sr ydzu <| cn 30 (sr yekg <| .ret) .skip) (sr yejr <| .seq (sr ydyf <| cn 39 (sr yelj <| .ret) .skip) (sr yeeu <| .seq (sr yebz <| .block 0 (.loop (sr ydrw <| .seq (cn 45 .skip (.exit 0)) (.seq (.block 1 (sr ycvy <| sr ycxy <| .block 2 (.loop (sr yciq <| .seq (cn 54 .skip (.exit 2)) (.seq (.block 3 (sr ydau <| sr ydkb <| sr ydaq <| .seq (sr ydkp <| .block 4 (.loop (sr yblh <| .seq (cn 67 .skip (.exit 4)) (.seq (.block 5 (sr ybrs <| .seq (sr ybtv <| cn 74 (.exit 5) .skip) (sr ycht <| sr ycdn <| cn 82 (.reg false ycyw) (.reg false ydge)))) (.reg false ybrn))))) (.reg false ycvr))) (.reg false ydaf)))))) (.reg false ydip))))) (sr ydeu <| .seq (sr ydke <| .block 6 (.loop (sr ybrd <| .seq (cn 107 .skip (.exit 6)) (.seq (.block 7 (sr yclx <| sr ycme <| cn 115 (.reg false ydjj) .skip)) (.reg false yckg))))) (sr ydgy <| .ret)))))
theorem ydwf:Fn 19 c19 [.t 4,.t 5]:=fn_0 Tryz.func19
def yect:LO:=[bx' 92 0 1 0,o3 (.mv (.const (.nilFunc))) 2 0]
def ydxs:LO:=[o3 (.mkfn 134 [] [(.tmp 1)]) 3 0,mv' 3 2 1]
def c68:SC:=(sr yect <| sr ydxs <| .ret)
theorem ydxt:Fn 68 c68 [.t 2]:=fn_0 Tryz.func68
end Sh
end
end Go.Proofs.YthclbjjgfcgbgaaGreatDoor
