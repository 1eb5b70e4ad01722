/- Joined. -/
import Derived.Test.YthclbjjgfcgbgaaGreatDoorPkCh16
import Derived.Lib.TrailingZeros
import Derived.Test.YthclbjjgfcgbgaaGreatDoorPkCh15
set_option linter.unusedSimpArgs false
set_option linter.unusedVariables false
set_option maxRecDepth 8000
open Nat renaming reduceEqDiff->zA,reduceAdd->zB,reduceLT->zC,reduceLeDiff->zJ,zero_le->zL,le_of_ble_eq_true->zQ,testBit_two_pow_mul_add->zAH,sub_self->zAK,le_refl->zAQ,testBit_succ->zAR,reduceBEq->zAX,lt_or_ge->zAZ,add_zero->zBA,ble->zBE,blt->zBF
open Int renaming natCast_zero->zD,lt_irrefl->zI,reduceBNe->zY
open List renaming length_append->zF,range->zK,filter_append->zM,getElem?_append_left->zN,take_length->zS,getElem_mem->zT,append_nil->zV,getD->zX,take_succ_eq_append_getElem->zZ,filter_cons->zAA,length_filter_le->zAB,range_succ->zAD,mem_filter->zAE,take_zero->zAF,mem_range->zAG,map_append->zAL,length_map->zAM,nil_append->zAN,map_nil->zAO,count_append->zAP,length_nil->zAS,filter_nil->zAT,drop_drop->zAU,take->zAV,drop->zAW
open Go.Proofs.Tryz renaming prog->zG,ntmps173->zAY,func173->zBB,func172->zBC
open And renaming intro->zH
open Go.Lib renaming hid->zO,ctz->zAC,ctzFrom->zBD
open Bool renaming and_eq_true->zU,or_eq_true->zW,not_eq_true'->zAI
open Classical renaming byContradiction->zAJ
open Go
namespace Go.Proofs.YthclbjjgfcgbgaaGreatDoor
section
theorem yms{α:Type}{l:List α}{k:Nat}{d:α}(h:k<l.length):l.getD k d=l[k]:=by simp[zX,h]
structure Spc where
 N:Nat
 en:Nat->Nat
 arcs:Nat->List (Nat×Nat)
def ybie(l:List (Nat×Nat))(i:Nat):Nat:=if i=0 then 0 else(l.getD (i-1) (0,0)).1
def sumA(S:Spc):Nat->Nat
 |0=>0
 |k+1=>sumA S k+(S.arcs k).length
structure Spc.ok(S:Spc):Prop where
 pos:0<S.N
 le:S.N<=32768
 lt:∀k,k<S.N->S.en k<2^24
 ne:∀k,k<S.N->(S.en k=0↔(S.arcs k).length=0)
 sub:∀k,k<S.N->∀i,i<(S.arcs k).length->((S.arcs k).getD i (0,0)).1<2^24/\difB ((S.arcs k).getD i (0,0)).1 (S.en k)=0
 asc:∀k,k<S.N->∀i,i<(S.arcs k).length->ybie (S.arcs k) i<((S.arcs k).getD i (0,0)).1
 to:∀k,k<S.N->∀i,i<(S.arcs k).length->((S.arcs k).getD i (0,0)).2<S.N
 tot:sumA S S.N<=262144
theorem ykf(S:Spc):∀{n k:Nat},k<=n->sumA S k<=sumA S n
 |0,k,h=>by rw[Nat.le_zero.1 h];exact zAQ _
 | n + 1,k,h=>by
   rcases zAZ k (n+1)with q|q
   .have:=ykf S (n:=n) (k:=k) (by omega)
    show _<=sumA S n+_;omega
   .rw[show k=n+1 by omega];exact zAQ _
theorem Spc.ok.len{S:Spc}(h:S.ok){k:Nat}(hk:k<S.N):(S.arcs k).length<=262144:=by
 have h1:=ykf S (n:=S.N) (k:=k+1) (by omega)
 have h2:=h.tot;have:sumA S (k+1)=sumA S k+(S.arcs k).length:=rfl;omega
theorem Spc.ok.mem{S:Spc}(h:S.ok){k:Nat}(hk:k<S.N){a:Nat×Nat}(ha:a∈S.arcs k):a.2<S.N:=by
 obtain⟨i,hi,rfl⟩:=List.getElem_of_mem ha;have:=h.to k hk i hi
 rwa [yms hi]at this
def yft(S:Spc)(k i:Nat):List (Nat×Nat):=(zK k).flatMap (fun q=>(S.arcs q).map fun a=>(q,a.2))++((S.arcs k).take i).map fun a=>(k,a.2)
def yge(S:Spc)(k i j:Nat):List Nat:=((yft S k i).filter fun p=>p.2==j).map (·.1)
theorem yqm(S:Spc)(k:Nat):yft S k (S.arcs k).length=yft S (k+1) 0:=by
 unfold yft;rw[zS,zAD,List.flatMap_append];simp
theorem yxm(S:Spc)(k j:Nat):yge S k (S.arcs k).length j=yge S (k+1) 0 j:=by unfold yge;rw[yqm]
theorem ywd(S:Spc)(j:Nat):yge S 0 0 j=[]:=rfl
theorem ybdz(S:Spc){k i:Nat}(hi:i<(S.arcs k).length):yft S k (i+1)=yft S k i++[(k,((S.arcs k).getD i (0,0)).2)]:=by
 unfold yft;rw[zZ hi,zAL,<-List.append_assoc,yms hi];rfl
theorem ybql(S:Spc){k i:Nat}(hi:i<(S.arcs k).length)(j:Nat):yge S k (i+1) j=if j=((S.arcs k).getD i (0,0)).2 then yge S k i j++[k]else yge S k i j:=by
 unfold yge;rw[ybdz S hi,zM,zAL]
 by_cases q:j=((S.arcs k).getD i (0,0)).2
 .rw[if_pos q];have:((k,((S.arcs k).getD i (0,0)).2).2==j)=true:=by rw[q];exact beq_self_eq_true _
  rw[zAA,this];rfl
 .rw[if_neg q];have:((k,((S.arcs k).getD i (0,0)).2).2==j)=false:=by rw[beq_eq_false_iff_ne];exact Ne.symm q
  rw[zAA,this];simp
theorem ymv(S:Spc):∀k,(yft S k 0).length=sumA S k
 |0=>rfl
 | k+1=>by
   rw[<-yqm];have ih:=ymv S k;unfold yft at ih ⊢;simp only[zAF,zAO,zV]at ih;rw[zF,ih,zS,zAM];rfl
theorem ytv{S:Spc}(h:S.ok){k i:Nat}(hk:k<=S.N)(hi:k<S.N->i<=(S.arcs k).length)(hi0:k=S.N->i=0)(j:Nat):(yge S k i j).length<=262144:=by
 have h1:(yft S k i).length<=262144:=by
  rcases zAZ k S.N with q|q
  .have h2:=ykf S (n:=S.N) (k:=k+1) (by omega)
   have h3:=h.tot;have h4:=ymv S k;unfold yft at h4 ⊢;simp only[zAF,zAO,zV]at h4;rw[zF,h4,zAM,List.length_take];have:sumA S (k+1)=sumA S k+(S.arcs k).length:=rfl;omega
  .rw[hi0 (by omega),ymv,show k=S.N by omega];exact h.tot
 unfold yge;rw[zAM];exact Nat.le_trans (zAB _ _) h1
theorem yclc{S:Spc}{k i j:Nat}(hk:k<S.N\/i=0/\k<=S.N):∀x∈yge S k i j,x<S.N:=fun x hx=>by
 unfold yge at hx;obtain⟨p,hp,rfl⟩:=List.mem_map.1 hx;have hp:=(List.mem_filter.1 hp).1;unfold yft at hp;rcases List.mem_append.1 hp with q|q
 .obtain⟨y,hy,q⟩:=List.mem_flatMap.1 q;obtain⟨a,_,rfl⟩:=List.mem_map.1 q;have:=List.mem_range.1 hy;show y<S.N;omega
 .obtain⟨a,ha,rfl⟩:=List.mem_map.1 q;rcases hk with h|⟨h,_⟩
  .exact h
  .rw[h]at ha;simp at ha
def srcS(S:Spc)(j:Nat):List Nat:=yge S S.N 0 j
theorem ybeg{S:Spc}{k:Nat}(j:Nat):∀n,(yge S n 0 j).count k=if k<n then(S.arcs k).countP (fun a=>a.2==j)else 0
 |0=>by simp[ywd]
 | n + 1=>by
   have ih:=ybeg (S:=S) (k:=k) j n
   have e:yge S (n+1) 0 j=yge S n 0 j++((S.arcs n).filter fun a=>a.2==j).map fun _=>n:=by
    rw[<-yxm];unfold yge yft;simp only[zS,zAF,zAO,zV,zM,zAL,List.filter_map,List.map_map];rfl
   rw[e,zAP,ih]
   by_cases q:k=n
   .subst q;rw[if_neg (by omega),if_pos (by omega),List.map_const',List.count_replicate_self,<-List.countP_eq_length_filter]
    omega
   .rw[List.count_eq_zero.2 (fun hm=>q (by obtain⟨_,_,rfl⟩:=List.mem_map.1 hm;rfl))]
    by_cases q2:k<n
    .rw[if_pos q2,if_pos (by omega)];omega
    .rw[if_neg q2,if_neg (by omega)]
structure OrdI(S:Spc)(lg:Nat->Bool)(L:List Nat)(i j:Nat)(E:Nat->Nat):Prop where
 nd:L.Nodup
 lt:∀x∈L,x<S.N
 set:∀k,k<S.N->lg k=true->k∈L
 hi:i<=L.length
 cnt:∀k,k<S.N->E k=yrj (S.arcs k) (L.take i)+(if i<L.length then((srcS S (L.getD i 0)).take j).count k else 0)
 inn:∀k,k<S.N->lg k=false->(k∈L↔0<(S.arcs k).length/\E k=(S.arcs k).length)
section
variable {S:Spc}{lg:Nat->Bool}{L:List Nat}{i j:Nat}{E:Nat->Nat}
theorem OrdI.start(hnd:L.Nodup)(hlt:∀x∈L,x<S.N)(hset:∀k,k<S.N->(k∈L↔lg k=true)):OrdI S lg L 0 0 fun _=>0 :=
 ⟨hnd,hlt,fun k hk h=>(hset k hk).2 h,zL _,fun k hk=>by rw[zAF,ybwv];simp,fun k hk h=>⟨fun hm=>(by rw[(hset k hk).1 hm]at h;cases h),fun q=>by omega⟩⟩
theorem yfy{α:Type}{l:List α}{i:Nat}(d:α)(hi:i<l.length):l.take (i+1)=l.take i++[l.getD i d]:=by
 rw[zZ hi,yms hi]
theorem OrdI.cnt_le(h:OrdI S lg L i j E)(hi:i<L.length){k:Nat}(hk:k<S.N):yrj (S.arcs k) (L.take i)+(srcS S (L.getD i 0)).count k=yrj (S.arcs k) (L.take (i+1)):=by
 rw[yfy 0 hi,ybqr]
 .unfold srcS;rw[ybeg,if_pos hk]
 .intro hm;have:=h.nd;rw[<-List.take_append_drop (i+1) L,yfy 0 hi]at this;have h2:=(List.nodup_append.1 (List.nodup_append.1 this).1).2.2;exact h2 _ hm _ (List.mem_singleton.2 rfl) rfl
theorem ychb(l:List (Nat×Nat))(A:List Nat):yrj l A<=l.length:=List.countP_le_length
theorem ykh{l:List Nat}{j:Nat}(hj:j<l.length)(k:Nat):(l.take (j+1)).count k=(l.take j).count k+if l.getD j 0=k then 1 else 0:=by
 rw[yfy 0 hj,zAP,List.count_singleton];simp
theorem OrdI.step(h:OrdI S lg L i j E)(hi:i<L.length)(hj:j<(srcS S (L.getD i 0)).length){k:Nat}(hk:(srcS S (L.getD i 0)).getD j 0=k)(hkN:k<S.N) :
 E k<(S.arcs k).length/\(let E':=fun q=>if q=k then E k+1 else E q
 OrdI S lg (if lg k=false/\E k+1=(S.arcs k).length then L++[k]else L) i (j+1) E'):=by
 have hlt:E k<(S.arcs k).length:=by
  have h1:=h.cnt k hkN;rw[if_pos hi]at h1;have h2:=h.cnt_le hi hkN;have h3:=ychb (S.arcs k) (L.take (i+1));have h4:=ykh hj k;rw[if_pos hk]at h4;have h5:((srcS S (L.getD i 0)).take (j+1)).count k<=(srcS S (L.getD i 0)).count k:=(List.take_sublist _ _).count_le _;omega
 refine⟨hlt,?_⟩
 have hcnt:∀q,q<S.N->(if q=k then E k+1 else E q)=yrj (S.arcs q) (L.take i)+((srcS S (L.getD i 0)).take (j+1)).count q:=fun q hq=>by
  have h1:=h.cnt q hq;rw[if_pos hi]at h1;rw[ykh hj q,hk]
  by_cases e:q=k
  .subst e;rw[if_pos rfl,if_pos rfl];omega
  .rw[if_neg e,if_neg (Ne.symm e)];omega
 by_cases q:lg k=false/\E k+1=(S.arcs k).length
 .simp only[if_pos q]
  have hno:k∉L:=fun hm=>by
   have:=((h.inn k hkN q.1).1 hm).2;omega
  refine⟨?_,fun x hx=>?_,fun x hx hl=>List.mem_append_left _ (h.set x hx hl),by rw[zF];have:=h.hi;omega,fun x hx=>?_,fun x hx hl=>?_⟩
  .exact List.nodup_append.2 ⟨h.nd,List.pairwise_singleton _ _,fun a ha b hb=>by rw[List.mem_singleton.1 hb];rintro rfl;exact hno ha⟩
  .rcases List.mem_append.1 hx with r|r
   .exact h.lt x r
   .rw[List.mem_singleton.1 r];exact hkN
  .have e1:(L++[k]).take i=L.take i:=List.take_append_of_le_length h.hi
   have e2:(L++[k]).getD i 0=L.getD i 0:=by
    simp only[zX,zN hi]
   have hl:i<(L++[k]).length:=by rw[zF];omega
   rw[e1,e2,if_pos hl];exact hcnt x hx
  .by_cases e:x=k
   .subst e;rw[if_pos rfl];exact⟨fun _=>⟨by omega,q.2⟩,fun _=>List.mem_append_right _ (List.mem_singleton.2 rfl)⟩
   .rw[if_neg e];refine Iff.trans ?_ (h.inn x hx hl);rw[List.mem_append,List.mem_singleton];exact⟨fun r=>r.resolve_right e,.inl⟩
 .simp only[if_neg q];refine⟨h.nd,h.lt,h.set,h.hi,fun x hx=>by rw[if_pos hi];exact hcnt x hx,fun x hx hl=>?_⟩
  by_cases e:x=k
  .subst e;rw[if_pos rfl];exact⟨fun hm=>absurd ((h.inn x hx hl).1 hm).2 (by omega),fun r=>absurd ⟨hl,r.2⟩ q⟩
  .rw[if_neg e];exact h.inn x hx hl
theorem OrdI.next(h:OrdI S lg L i j E)(hi:i<L.length)(hj:j=(srcS S (L.getD i 0)).length):OrdI S lg L (i+1) 0 E :=
 ⟨h.nd,h.lt,h.set,hi,fun k hk=>by
   have h1:=h.cnt k hk;rw[if_pos hi,hj,zS]at h1;rw[h1,h.cnt_le hi hk];simp,h.inn⟩
theorem OrdI.all(h:OrdI S lg L L.length j E)(hto:∀k,k<S.N->∀a∈S.arcs k,a.2<S.N)(hne:∀k,k<S.N->lg k=false->S.arcs k≠[])(hcyc:∀f m,Back S.N S.arcs f m->False):∀k,k<S.N->k∈L:=by
 refine ydcj h.set (fun k hk hl hn ha=>(h.inn k hk hl).2 ⟨List.length_pos_iff.2 hn,?_⟩) hto hne hcyc;have h1:=h.cnt k hk;rw[if_neg (by omega),zS]at h1
 rw[h1,ycbx.2 ha];rfl
theorem OrdI.len(h:OrdI S lg L i j E):L.length<=S.N:=by
 have:=ykp (l2:=zK S.N) h.nd fun x hx=>List.mem_range.2 (h.lt x hx)
 simpa using this
end
end
section
namespace Sh
open Ev Go.RowKit
def ybh(l:List (Nat×Nat)):SV:=.sl 2 l.length (fun i=>[.i .u32 ((l.getD i (0,0)).1:Nat),.i .i64 ((l.getD i (0,0)).2:Nat)])
def spcC(S:Spc):List SV:=[.sl 1 S.N (fun k=>[.i .u32 (S.en k:Nat)]),.sl 1 S.N (fun k=>[ybh (S.arcs k)])]
def ybb(n:Nat)(f:Nat->Bool):SV:=.sl 1 n (fun k=>[.b (f k)])
theorem dec_lt{a b:Nat}(h:a<b):decide ((a:Int)<(b:Int))=true:=by simp;omega
theorem ybpp{e n:Nat}{l:List (Nat×Nat)}(he:e<2^24)(hne:e=0↔l.length=0)(hll:l.length<=262144)(hsub:∀i,i<l.length->(l.getD i (0,0)).1<2^24/\difB (l.getD i (0,0)).1 e=0)(hasc:∀i,i<l.length->ybie l i<(l.getD i (0,0)).1)(hto:∀i,i<l.length->(l.getD i (0,0)).2<n) :
 Returns zG 180 [.i .u32 (e:Nat),ybh l,.i .i64 (n:Nat)] (.b true):=by
 refine Returns.of (ydgr _ _ ?_);obtain⟨m,hm⟩:∃m,l.length=m:=⟨_,rfl⟩;have s0:e>>>24=0:=by rw[Nat.shiftRight_eq_div_pow];omega
 have f0:((((e>>>24:Nat):Int))!=0)=false:=by rw[s0];rfl
 have f1:(((e:Int)!=0)!=decide ((m:Int)>0))=false:=by
  rw[hm]at hne
  by_cases q:e=0
  .have:=hne.1 q;subst q;subst this;rfl
  .have q2:m≠0:=fun r=>q (hne.2 r);have a1:((e:Int)!=0)=true:=by rw[bne_iff_ne];omega
   have a2:decide ((m:Int)>0)=true:=by simp;omega
   rw[a1,a2];rfl
 simp only[c180,yczm,ycny,ycwi,ycqc,ybh,hm,ycdb,f0,f1,go_sem,Int.reduceToNat,zA,zB,↓reduceIte,reduceCtorEq];refine⟨by decide,?_⟩
 refine ybd (σ:=Nat) (fun k=>⟨[(23,.i .i64 k),(22,.i .i64 m),(21,.sl 2 m (fun i=>[.i .u32 ((l.getD i (0,0)).1:Nat),.i .i64 ((l.getD i (0,0)).2:Nat)])),(0,.i .u32 (e:Nat)),(2,.i .i64 (n:Nat)),(7,.i .u32 (ybie l k:Nat))],[]⟩)
  (fun k=>k<=m) (fun k=>m-k) 0 (zL _) ?_ ?_
 .refine yh [] [] [] ?_;simp only[ybie,allQ,live,yc,zD,go_sem,zA,↓reduceIte,reduceCtorEq]
 .intro k hk
  by_cases hlt:k<m
  .obtain⟨h1,h2⟩:=hsub k (by omega)
   have h3:=hasc k (by omega)
   have h4:=hto k (by omega)
   have hp:ybie l (k+1)=(l.getD k (0,0)).1:=rfl;obtain⟨⟨a,t⟩,hat⟩:∃p,l.getD k (0,0)=p:=⟨_,rfl⟩;rw[hat]at h1 h2 h3 h4 hp;simp only at h1 h2 h3 h4 hp;have d1:=dec_lt hlt;have d2:decide ((a:Int)<=(ybie l k:Int))=false:=by simp;omega
   have d3:=u32_andNot (a:=a) (b:=e) (by omega) (by omega)
   rw[h2]at d3;simp only[IntKind.bits]at d3;have d4:decide ((t:Int)<0)=false:=by simp
   have d5:decide ((t:Int)>=(n:Int))=false:=by simp;omega
   have d6:((((0:Nat):Int))!=0)=false:=rfl;simp only[ybwh,ycvd,ycnu,ycta,ycyz,ybus,ybiy,hat,d1,d2,d3,d4,d5,d6,splice,go_sem,zA,zB,zJ,zC,↓reduceIte,reduceCtorEq];refine⟨⟨by omega,by omega⟩,ikw (by omega) (by omega),?_⟩
   refine yj (k+1) (by omega) (by omega) ?_
   refine yh [] [] [] ?_;simp only[hp,allQ,live,yc,yx,go_sem,zA,↓reduceIte,reduceCtorEq];omega
  .obtain rfl:k=m:=by omega
   simp only[ybwh,ybiy,zI,ytr,go_sem,zA,↓reduceIte]
def spcO(S:Spc):Fam:=.one (some ⟨41,true,2,1,fun _=>spcC S⟩)
theorem yboi{S:Spc}(h:S.ok):Returns zG 136 [.ag (spcC S)] (.b true):=by
 refine Returns.of (ydha _ _ ?_);have hp:=h.pos;have hle:=h.le;have f1:decide ((S.N:Int)<1)=false:=by simp;omega
 have f2:decide ((S.N:Int)>32768)=false:=by simp;omega
 have f3:((S.N:Int)!=(S.N:Int))=false:=by simp
 simp only[c136,yclx,ycqh,ycqk,ycoa,ycmk,spcC,ybh,f1,f2,f3,go_sem,zA,zB,zJ,zC,↓reduceIte,reduceCtorEq];refine ybd (σ:=Nat) (fun k=>⟨[(23,.i .i64 k),(22,.i .i64 (S.N:Nat)),(3,.i .i64 (S.N:Nat)),(4,.i .i64 (sumA S k:Nat)),(1,.pt (1,0) 0 0)],[(1,spcO S)]⟩) (fun k=>k<=S.N) (fun k=>S.N-k) 0 (zL _) ?_ ?_
 .refine yh [] [] [] ?_;simp only[spcO,spcC,ybh,sumA,allQ,live,yc,zD,go_sem,zA,zC,↓reduceIte,reduceCtorEq]
 .intro k hk
  by_cases hlt:k<S.N
  .have hv:=ybpp (h.lt k hlt) (h.ne k hlt) (h.len hlt) (h.sub k hlt) (h.asc k hlt) (h.to k hlt);simp only[ybh]at hv;have d1:=dec_lt hlt;have hs:((sumA S k:Nat):Int)+((S.arcs k).length:Nat)=((sumA S (k+1):Nat):Int):=by show _=((sumA S k+(S.arcs k).length:Nat):Int);omega
   have hm:=ykf S (n:=S.N) (k:=k+1) (by omega)
   have ht:=h.tot;have d2:decide (((sumA S (k+1):Nat):Int)>262144)=false:=by simp;omega
   simp only[ycbp,ycsh,ycpl,ycqw,ybyj,spcO,spcC,ybh,d1,d2,hs,clash,go_sem,zA,zB,zJ,↓reduceIte,reduceCtorEq];refine⟨by omega,ikw (by omega) (by omega),by omega,by omega,hv.use ?_⟩
   simp only[ybg,clash,go_sem,zA,zB,↓reduceIte,reduceCtorEq]
   try refine⟨by decide,?_⟩
   refine⟨ikw (by omega) (by omega),?_⟩
   refine yj (k+1) (by omega) (by omega) ?_
   refine yh [] [] [] ?_;simp only[allQ,live,yc,yx,go_sem,zA,zC,↓reduceIte,reduceCtorEq];omega
  .obtain rfl:k=S.N:=by omega
   simp only[ycbp,ybzg,zI,ytr,go_sem,zA,↓reduceIte]
theorem yox{S:Spc}(h:S.ok)(lg:Nat->Bool):Returns zG 73 [.ag (spcC S),ybb S.N lg] (.i .i64 0):=by
 refine Returns.of (ydlj _ _ ?_);have hv:=yboi h;have f3:((S.N:Int)!=(S.N:Int))=false:=by simp
 simp only[spcC,ybh]at hv;simp only[c73,ydtg,ydpo,spcC,ybh,ybb,clash,go_sem,zA,zB,zC,↓reduceIte];refine hv.use ?_;simp only[ybg,ydpm,ydnx,clash,f3,go_sem,zA,zB,zJ,↓reduceIte,reduceCtorEq];exact Sim.refl _
theorem ybre{S:Spc}(h:S.ok){lg:Nat->Bool}(hl:∀k,k<S.N->lg k=true->(S.arcs k).length=0):Returns zG 18 [.ag (spcC S),ybb S.N lg] (.tp [.b true,.i .i64 0]):=by
 refine Returns.of (ydow _ _ ?_);have hv:=yox h lg;have hle:=h.le;simp only[spcC,ybh,ybb]at hv;simp only[c18,ydpe,ydnj,spcC,ybh,ybb,clash,go_sem,zA,zB,zC,↓reduceIte,reduceCtorEq];refine hv.use ?_;simp only[ybg,ydrz,ydta,clash,zY,go_sem,zA,zB,↓reduceIte,reduceCtorEq];refine ybd (σ:=Nat) (fun k=>⟨[(20,.i .i64 k),(19,.i .i64 (S.N:Nat)),(18,.sl 1 S.N fun k=>[ybh (S.arcs k)]),(1,ybb S.N lg)],[]⟩) (fun k=>k<=S.N) (fun k=>S.N-k) 0 (zL _) ?_ ?_
 .refine yh [] [] [] ?_;simp only[ybh,ybb,allQ,live,yc,zD,go_sem,zA,↓reduceIte,reduceCtorEq]
 .intro k hk
  by_cases hlt:k<S.N
  .have d1:=dec_lt hlt;cases hq:lg k with
   | false =>
     simp only[yckx,ydbw,ydeo,ybyo,ybh,ybb,d1,hq,clash,go_sem,zA,zB,↓reduceIte,reduceCtorEq];refine⟨⟨by omega,by omega⟩,⟨by omega,by omega⟩,ikw (by omega) (by omega),?_⟩
     refine yj (k+1) (by omega) (by omega) ?_
     refine yh [] [] [] ?_;simp only[allQ,live,yc,yx,go_sem,zA,↓reduceIte,reduceCtorEq];omega
   | true =>
     have h0:=hl k hlt hq;simp only[yckx,ydbw,ydeo,ydrw,ybh,ybb,d1,hq,clash,h0,go_sem,zA,zB,↓reduceIte,reduceCtorEq];refine⟨⟨by omega,by omega⟩,⟨by omega,by omega⟩,?_⟩
     refine ybd (σ:=Unit) (fun _=>⟨[(32,.i .i64 0),(31,.i .i64 0),(20,.i .i64 k),(19,.i .i64 (S.N:Nat)),(18,.sl 1 S.N fun k=>[ybh (S.arcs k)]),(1,ybb S.N lg)],[]⟩) (fun _=>True) (fun _=>0) () trivial ?_ ?_
     .refine yh [] [] [] ?_;simp only[ybh,ybb,allQ,live,yc,zD,go_sem,zA,↓reduceIte,reduceCtorEq]
     .intro _ _;simp only[ydnd,ybyo,ybh,ybb,zI,clash,go_sem,zA,zB,↓reduceIte,reduceCtorEq];refine⟨ikw (by omega) (by omega),?_⟩
      refine yj (k+1) (by omega) (by omega) ?_
      refine yh [] [] [] ?_;simp only[allQ,live,yc,yx,go_sem,zA,↓reduceIte,reduceCtorEq];omega
  .obtain rfl:k=S.N:=by omega
   simp only[yckx,yctu,zI,go_sem,zA,zB,↓reduceIte];exact Sim.refl _
end Sh
end
section
namespace Sh
open Ev Go.RowKit
def ych(l:List Nat):SV:=.sl 1 l.length (fun i=>[.i .i64 ((l.getD i 0:Nat):Int)])
def rowC(F:Nat)(f:Nat->List Nat)(j:Nat):SV:=if (f j).length=0 then .a (.slice none 0 0)else .os (F,j) 0 (f j).length true
def rowB(e:Nat)(k:IntKind)(l:List Nat):Option OB:=if l.length=0 then none else some ⟨e,false,1,l.length,fun i=>[.i k ((l.getD i 0:Nat):Int)]⟩
def yho(e:Nat)(k:IntKind)(f:Nat->List Nat):Fam:=.many fun j=>rowB e k (f j)
theorem yjm{F e j:Nat}{k:IntKind}{f:Nat->List Nat}{O:Own}(ρ:List (Nat×(Nat->Nm))){X:SV}(hX:X=if (f j).length=0 then .a (.slice none 0 0)else .os (rid ρ (F,j)) 0 (f j).length true)(hO:lookO O (F,j)=rowB e k (f j)) :
 (Sim X (ren (rid ρ) 5 (rowC F f j))/\cln (lv [] O) 5 (rowC F f j)=true)/\one1 (rowC F f j)=true:=by
 subst hX;unfold rowC
 by_cases q:(f j).length=0
 .simp only[if_pos q];exact⟨⟨Sim.refl _,rfl⟩,rfl⟩
 .simp only[if_neg q];refine⟨⟨Sim.refl _,?_⟩,rfl⟩;show(live O (F,j) && !(List.elem F []))=true;unfold live;rw[hO];unfold rowB;rw[if_neg q];rfl
theorem yds{e:Nat}{k:IntKind}{l:List Nat}{b:OB}{h:Nm->Nm}{O1 O2:Own}(he:mapE e=false)(hb:rowB e k l=some b){c:OB}(hc:(c.e=e/\c.bx=false/\c.z=1/\c.n=l.length)/\∀i,i<l.length->c.g i=[.i k ((l.getD i 0:Nat):Int)]) :
 (c.e=b.e/\c.bx=b.bx/\c.z=b.z/\c.n=b.n)/\(mapE b.e=true->∀i,c.g i=b.g i)/\∀i,i<b.n->telL h [] [] O1 O2 (c.g i) (b.g i):=by
 unfold rowB at hb;split at hb
 .cases hb
 .cases hb
  refine⟨hc.1,fun q=>?_,fun i hi=>?_⟩
  .have q:mapE e=true:=q;rw[he]at q;cases q
  .rw[hc.2 i hi];exact⟨.inl ⟨(yhe _ _ _).2 trivial,by rw[ydw];exact Sim.refl _,rfl⟩,rfl,trivial⟩
theorem yem{e:Nat}{k:IntKind}{l:List Nat}{b:OB}(hb:rowB e k l=some b):(b.e=e/\b.bx=false/\b.z=1/\b.n=l.length)/\∀i,i<l.length->b.g i=[.i k ((l.getD i 0:Nat):Int)]:=by
 unfold rowB at hb;split at hb
 .cases hb
 .cases hb;exact⟨⟨rfl,rfl,rfl,rfl⟩,fun _ _=>rfl⟩
theorem ybme{e:Nat}{k:IntKind}{l:List Nat}{x:Nat}(h:l.length=0){g:Nat->List SV}(hg:g 0=[.i k (x:Int)]):((⟨e,false,1,1,g⟩:OB).e=e/\(⟨e,false,1,1,g⟩:OB).bx=false/\(⟨e,false,1,1,g⟩:OB).z=1/\(⟨e,false,1,1,g⟩:OB).n=(l++[x]).length)/\∀i,i<(l++[x]).length->(⟨e,false,1,1,g⟩:OB).g i=[.i k (((l++[x]).getD i 0:Nat):Int)]:=by
 obtain rfl:l=[]:=List.eq_nil_of_length_eq_zero h;refine⟨⟨rfl,rfl,rfl,rfl⟩,fun i hi=>?_⟩;obtain rfl:i=0:=by simp at hi;omega
 exact hg
theorem ybcf{e n:Nat}{k:IntKind}{l:List Nat}{x:Nat}{g g':Nat->List SV}(hn:n=l.length)(hg:∀i,i<l.length->g i=[.i k ((l.getD i 0:Nat):Int)])(hg':g' 0=[.i k (x:Int)]) :
 ((⟨e,false,1,n+1,fun i=>if i<n then g i else g' (i-n)⟩:OB).e=e/\(⟨e,false,1,n+1,fun i=>if i<n then g i else g' (i-n)⟩:OB).bx=false/\(⟨e,false,1,n+1,fun i=>if i<n then g i else g' (i-n)⟩:OB).z=1/\(⟨e,false,1,n+1,fun i=>if i<n then g i else g' (i-n)⟩:OB).n=(l++[x]).length) /\
   ∀i,i<(l++[x]).length->(⟨e,false,1,n+1,fun i=>if i<n then g i else g' (i-n)⟩:OB).g i=[.i k (((l++[x]).getD i 0:Nat):Int)]:=by
 subst hn;refine⟨⟨rfl,rfl,rfl,by rw[zF];rfl⟩,fun i hi=>?_⟩
 show(if i<l.length then g i else g' (i-l.length))=_
 by_cases q:i<l.length
 .rw[if_pos q,hg i q];simp[zX,zN q]
 .have:i=l.length:=by simp at hi;omega
  subst this;rw[if_neg q,zAK,hg'];simp[zX]
theorem ynq{F e j:Nat}{k:IntKind}{f:Nat->List Nat}{O1 O:Own}(ρ:List (Nat×(Nat->Nm))){X:List SV}(hX:X=[if (f j).length=0 then .a (.slice none 0 0)else .os (rid ρ (F,j)) 0 (f j).length true])(hO:lookO O (F,j)=rowB e k (f j)):telL (rid ρ) [] [] O1 O X [rowC F f j]:=by
 subst hX;obtain⟨⟨h1,h2⟩,h3⟩:=yjm (X:=if (f j).length=0 then .a (.slice none 0 0)else .os (rid ρ (F,j)) 0 (f j).length true) ρ rfl hO
 exact⟨.inl ⟨(yhe _ _ _).2 trivial,by rw[ydw];exact h1,h2⟩,h3,trivial⟩
theorem ybam{a b c d t i:Nat}(h1:c≠a)(h2:c≠b):((c,d):Nm)=(if i=t then((a,0):Nm)else(b,i))->False:=fun e=>by
 split at e
 .exact h1 (congrArg Prod.fst e)
 .exact h2 (congrArg Prod.fst e)
theorem yqn{a b c d t i:Nat}(h1:c≠a)(h2:c≠b):(if i=t then((a,0):Nm)else(b,i))=((c,d):Nm)->False:=fun e=>ybam h1 h2 e.symm
theorem ywc{a b t i j:Nat}(h:a≠b)(e:(if i=t then((a,0):Nm)else(b,i))=if j=t then((a,0):Nm)else(b,j)):i=j:=by
 by_cases q1:i=t<;>by_cases q2:j=t
 .omega
 .rw[if_pos q1,if_neg q2]at e;exact absurd (congrArg Prod.fst e) h
 .rw[if_neg q1,if_pos q2]at e;exact absurd (congrArg Prod.fst e).symm h
 .rw[if_neg q1,if_neg q2]at e;exact congrArg Prod.snd e
theorem ybfp{S:Spc}(h:S.ok):Returns zG 179 [.ag (spcC S)] (.sl 1 S.N fun j=>[ych (srcS S j)]):=by
 refine Returns.of (ydhb _ _ ?_);have hle:=h.le;simp only[c179,ycxg,ycnv,ycxq,spcC,ybh,clash,go_sem,zA,zB,zC,↓reduceIte,reduceCtorEq];refine⟨by omega,?_⟩
 let st:Nat->Nat->Own:=fun k i=>[(1,spcO S),(11,.one (some ⟨22,false,1,S.N,fun j=>[rowC 60 (yge S k i) j]⟩)),(60,yho 3 .i64 (yge S k i))]
 refine ybd (σ:=Nat) (fun k=>⟨[(15,.i .i64 k),(14,.i .i64 (S.N:Nat)),(13,.sl 1 S.N fun k=>[ybh (S.arcs k)]),(1,.pt (1,0) 0 0),(3,.os (11,0) 0 S.N true)],st k 0⟩) (fun k=>k<=S.N) (fun k=>S.N-k) 0 (zL _) ?_ ?_
 .refine yh [] [] [] ?_;simp only[st,spcO,spcC,ybh,rowC,yho,rowB,ywd,allQ,live,yc,zD,go_sem,zA,zC,↓reduceIte,reduceCtorEq]
 .intro k hk
  by_cases hlt:k<S.N
  .have d1 := dec_lt hlt;have hal:=h.len hlt;simp only[ybxp,ycnz,ydap,st,ybh,d1,clash,go_sem,zA,zB,↓reduceIte,reduceCtorEq];refine⟨⟨by omega,by omega⟩,?_⟩
   refine ybd (σ:=Nat) (fun i=>⟨[(22,.i .i64 i),(21,.i .i64 ((S.arcs k).length:Nat)),(20,ybh (S.arcs k)),(4,.i .i64 k),(15,.i .i64 k),(14,.i .i64 (S.N:Nat)),(13,.sl 1 S.N fun k=>[ybh (S.arcs k)]),(1,.pt (1,0) 0 0),(3,.os (11,0) 0 S.N true)],st k i⟩)
    (fun i=>i<=(S.arcs k).length) (fun i=>(S.arcs k).length-i) 0 (zL _) ?_ ?_
   .refine yh [] [] [] ?_;simp only[st,spcO,spcC,ybh,yho,allQ,live,yc,zD,go_sem,zA,zC,↓reduceIte,reduceCtorEq];exact⟨fun _ _ _ _ e=>e,fun i _=>yjm [] rfl rfl,fun i b hb=>⟨b,hb,yds rfl hb (yem hb)⟩⟩
   .intro i hi
    by_cases hlt2:i<(S.arcs k).length
    .have h4:=h.to k hlt i hlt2;obtain⟨⟨a,t⟩,hat⟩:∃p,(S.arcs k).getD i (0,0)=p:=⟨_,rfl⟩;rw[hat]at h4;simp only at h4;have d2:=dec_lt hlt2;have hst:=ybql S hlt2;rw[hat]at hst;simp only at hst;have hln:=ytv h (k:=k) (i:=i) (by omega) (by omega) (by omega) t
     obtain⟨f,hf⟩:∃f,yge S k i=f:=⟨_,rfl⟩;obtain⟨f',hf'⟩:∃f,yge S k (i+1)=f:=⟨_,rfl⟩;rw[hf]at hst hln;rw[hf']at hst;have hst0:∀j,¬j=t->f' j=f j:=fun j hj=>by rw[hst,if_neg hj]
     have hst1:f' t=f t++[k]:=by rw[hst,if_pos rfl]
     by_cases q:(f t).length=0
     .simp only[ybln,ybte,ybxq,ybuy,ybba,st,spcO,spcC,ybh,d2,hat,hf,rowC,yho,rowB,q,clash,go_sem,zA,zB,zJ,zC,Nat.reduceMul,↓reduceIte,reduceCtorEq]
      repeat refine zH (by first|omega|decide|exact ikw (by omega) (by omega)) ?_
      refine yj (i+1) (by omega) (by omega) ?_
      refine yh [(60,fun j=>if j=t then(36,0)else(60,j))] [] [] ?_
      simp only[hf',allQ,live,yc,yx,go_sem,zA,zC,↓reduceIte,reduceCtorEq];refine⟨⟨fun i _=>ybam (by decide) (by decide),fun i _=>ybam (by decide) (by decide),fun i _=>yqn (by decide) (by decide),fun i _=>yqn (by decide) (by decide),fun i _ j _=>ywc (by decide)⟩,by omega,fun i hi=>?_,fun i b hb=>?_⟩
      .refine ynq (F:=60) (e:=3) (k:=.i64) (f:=f') [(60,fun j=>if j=t then(36,0)else(60,j))] ?_ rfl
       by_cases e:i=t
       .subst e;have e1:(f' i).length=1:=by rw[hst1,zF,q];rfl
        simp only[e1,go_sem,↓reduceIte,reduceCtorEq]
       .simp only[hst0 i e,e,go_sem,↓reduceIte]
      .by_cases e:i=t
       .subst e;rw[hst1]at hb;simp only[go_sem,zA,↓reduceIte];exact yds (e:=3) (k:=.i64) rfl hb (ybme q rfl)
       .rw[hst0 i e]at hb;simp only[e,go_sem,zA,↓reduceIte];exact⟨_,hb,yds (e:=3) (k:=.i64) rfl hb (yem (e:=3) (k:=.i64) hb)⟩
     .have q0:0<(f t).length:=by omega
      simp only[ybln,ybte,ybxq,ybuy,ybba,st,spcO,spcC,ybh,d2,hat,hf,rowC,yho,rowB,q,clash,go_sem,zA,zB,zJ,zC,↓reduceIte,reduceCtorEq]
      repeat refine zH (by first|omega|decide|exact ikw (by omega) (by omega)) ?_
      refine yj (i+1) (by omega) (by omega) ?_
      refine yh [(60,fun j=>if j=t then(36,0)else(60,j))] [] [] ?_
      simp only[hf',allQ,live,yc,yx,go_sem,zA,zC,↓reduceIte,reduceCtorEq];refine⟨⟨fun i _=>ybam (by decide) (by decide),fun i _=>ybam (by decide) (by decide),fun i _=>yqn (by decide) (by decide),fun i _=>yqn (by decide) (by decide),fun i _ j _=>ywc (by decide)⟩,by omega,fun i hi=>?_,fun i b hb=>?_⟩
      .refine ynq (F:=60) (e:=3) (k:=.i64) (f:=f') [(60,fun j=>if j=t then(36,0)else(60,j))] ?_ rfl
       by_cases e:i=t
       .subst e;have e1:(f' i).length=(f i).length+1:=by rw[hst1,zF];rfl
        have e2:¬(f i).length+1=0:=by omega
        simp only[e1,e2,go_sem,↓reduceIte]
       .simp only[hst0 i e,e,go_sem,↓reduceIte]
      .by_cases e:i=t
       .subst e;rw[hst1]at hb;simp only[go_sem,zA,↓reduceIte];exact yds (e:=3) (k:=.i64) rfl hb (ybcf (g':=fun i=>zAV 1 (zAW (i*1) [.i .i64 (k:Int)])) rfl (fun _ _=>rfl) rfl)
       .rw[hst0 i e]at hb;simp only[e,go_sem,zA,↓reduceIte];exact⟨_,hb,yds (e:=3) (k:=.i64) rfl hb (yem (e:=3) (k:=.i64) hb)⟩
    .obtain rfl:i=(S.arcs k).length:=by omega
     have hnx:yge S k (S.arcs k).length=yge S (k+1) 0:=funext fun j=>yxm S k j;simp only[ybln,ybba,st,spcO,spcC,ybh,zI,clash,hnx,go_sem,zA,zB,↓reduceIte,reduceCtorEq];refine⟨ikw (by omega) (by omega),?_⟩
     refine yj (k+1) (by omega) (by omega) ?_
     refine yh [] [] [] ?_;simp only[yho,allQ,live,yc,yx,go_sem,zA,zC,↓reduceIte,reduceCtorEq];exact⟨fun _ _ _ _ e=>e,by omega,fun i _=>yjm [] rfl rfl,fun i b hb=>⟨b,hb,yds rfl hb (yem hb)⟩⟩
  .obtain rfl:k=S.N:=by omega
   simp only[ybxp,ybyv,st,spcO,zI,go_sem,zA,zB,↓reduceIte,reduceCtorEq];have hlen:∀q,q<S.N->(yge S S.N 0 q).length<=262144:=fun q _=>ytv h (k:=S.N) (i:=0) (by omega) (by omega) (by omega) q
   refine⟨fun q hq=>?_,ydp fun q hq=>?_⟩
   .unfold rowC
    by_cases e:(yge S S.N 0 q).length=0
    .simp only[e,go_sem,↓reduceIte]
    .simp only[e,yho,rowB,go_sem,zA,↓reduceIte]
   .unfold rowC
    by_cases e:(yge S S.N 0 q).length=0
    .simp only[e,SimL,ych,srcS,go_sem,↓reduceIte];exact ybhl
    .simp only[e,yho,rowB,SimL,ych,srcS,go_sem,zA,↓reduceIte];exact Sim.refl _
end Sh
end
section
namespace Sh
open Ev Go.RowKit
theorem Ct.fnd{P:Program}{g:FuncId}{args:List SV}{α:Type}{R:SV->α->Prop}{V:α->SV}{Q:SV->Prop}(h:Ct P g args fun r=>∃x,R r x)(hs:∀r x,R r x->Sim r (V x))(hq:∀r x,R r x->Q (V x)):Ct P g args Q:=fun G m us h1 h2 h3=>by
 obtain⟨v,m',r,a,b,c,⟨x,hx⟩,e⟩:=h G m us h1 h2 h3;exact⟨v,m',V x,a,b,c,hq r x hx,hs r x hx _ _ _ e⟩
def natO(L:List Nat):Fam:=.one (some ⟨3,false,1,L.length,fun i=>[.i .i64 ((L.getD i 0:Nat):Int)]⟩)
theorem ybku(L:List Nat)(x:Nat){i:Nat}(hi:i<L.length+1):(if i<L.length then[SV.i .i64 ((L.getD i 0:Nat):Int)]else zAV 1 (zAW ((i-L.length)*1) [SV.i .i64 (x:Int)]))=[SV.i .i64 (((L++[x]).getD i 0:Nat):Int)]:=by
 by_cases q:i<L.length
 .rw[if_pos q];simp[zX,zN q]
 .obtain rfl:i=L.length:=by omega
  rw[if_neg q,zAK];simp[zX]
structure OrdL(S:Spc)(lg:Nat->Bool)(L:List Nat):Prop where
 lt:∀x∈L,x<S.N
 len:L.length=S.N
 all:∀k,k<S.N->k∈L
structure _root_.Go.Proofs.YthclbjjgfcgbgaaGreatDoor.Spc.free(S:Spc)(lg:Nat->Bool):Prop where
 ne:∀k,k<S.N->lg k=false->S.arcs k≠[]
 cyc:∀f m,Back S.N S.arcs f m->False
def ylq(lg:Nat->Bool)(k:Nat):List Nat:=(zK k).filter lg
theorem ybrn(lg:Nat->Bool)(k:Nat):ylq lg (k+1)=ylq lg k++if lg k=true then[k]else[]:=by
 unfold ylq;rw[zAD,zM];congr 1;cases h:lg k<;>simp[h]
theorem ybkd(lg:Nat->Bool)(k:Nat):(ylq lg k).length<=k:=by
 have:=zAB lg (zK k);unfold ylq
 simpa using this
theorem ycfz{lg:Nat->Bool}{n k:Nat}(hk:k<n):k∈ylq lg n↔lg k=true:=by
 unfold ylq;rw[zAE,zAG];exact⟨fun h=>h.2,fun h=>⟨hk,h⟩⟩
theorem ydbn(lg:Nat->Bool)(n:Nat):(ylq lg n).Nodup:=List.Pairwise.filter _ List.nodup_range
theorem ydfi(lg:Nat->Bool)(n:Nat):∀x∈ylq lg n,x<n:=fun x h=>List.mem_range.1 (List.mem_filter.1 h).1
theorem yfi{h:Nm->Nm}{vir:List Nat}{O1 O:Own}{X:List SV}{k:IntKind}{x:Int}(e:X=[.i k x]):telL h vir [] O1 O X [.i k x]:=by
 subst e;exact⟨.inl ⟨(yhe _ _ _).2 trivial,by rw[ydw];exact Sim.refl _,rfl⟩,rfl,trivial⟩
set_option maxHeartbeats 1000000 in
theorem ybmj{S:Spc}(h:S.ok){lg:Nat->Bool}(hf:S.free lg):Ct zG 135 [.ag (spcC S),ybb S.N lg] fun r=>∃L,Sim r (ych L)/\OrdL S lg L:=by
 refine ydeg _ _ ?_;have hle:=h.le;have hS:=ybfp h;simp only[spcC,ybh,ych]at hS;simp only[c135,ydbd,yczd,ycrd,spcC,ybh,ybb,clash,go_sem,zA,zB,zC,↓reduceIte,reduceCtorEq];refine ybd (σ:=Nat) (fun k=>⟨[(15,.i .i64 k),(14,.i .i64 (S.N:Nat)),(13,ybb S.N lg),(1,ybb S.N lg),(2,.pt (2,0) 0 0),(5,.os (70,0) 0 (ylq lg k).length true)],[(2,spcO S),(70,natO (ylq lg k))]⟩) (fun k=>k<=S.N) (fun k=>S.N-k) 0 (zL _) ?_ ?_
 .refine yh [] [70] [] ?_;simp only[spcO,spcC,ybh,ybb,natO,show ylq lg 0=[]from rfl,allQ,live,yc,zD,go_sem,zA,zC,zAX,↓reduceIte,reduceCtorEq]
  exact⟨(70,0),rfl,rfl,rfl⟩
 .intro k hk
  by_cases hlt:k<S.N
  .have d1:=dec_lt hlt;have hfl:=ybkd lg k;have hsn:=ybrn lg k;obtain⟨L,hL⟩:∃L,ylq lg k=L:=⟨_,rfl⟩;obtain⟨L',hL'⟩:∃L,ylq lg (k+1)=L:=⟨_,rfl⟩;rw[hL]at hfl;rw[hL,hL']at hsn;cases hq:lg k with
   | true =>
     rw[hq,if_pos rfl]at hsn;simp only[ybmr,ybxs,ybzi,ybta,ycdg,ybb,natO,hL,d1,hq,clash,go_sem,zA,zB,zJ,zC,↓reduceIte,reduceCtorEq]
     repeat refine zH (by first|omega|decide|exact ikw (by omega) (by omega)) ?_
     refine yj (k+1) (by omega) (by omega) ?_
     refine yh [(70,fun i=>(24,i))] [] [] ?_;simp only[spcO,spcC,ybh,hL',hsn,zF,allQ,live,yc,yx,go_sem,zA,zC,↓reduceIte,reduceCtorEq];exact⟨by omega,fun i hi=>yfi (ybku L k hi)⟩
   | false =>
     rw[hq,if_neg (by decide),zV]at hsn
     simp only[ybmr,ybxs,ybzi,ybta,ycdg,ybb,natO,hL,d1,hq,clash,go_sem,zA,zB,↓reduceIte,reduceCtorEq]
     repeat refine zH (by first|omega|decide|exact ikw (by omega) (by omega)) ?_
     refine yj (k+1) (by omega) (by omega) ?_
     refine yh [] [] [] ?_;simp only[spcO,spcC,ybh,hL',hsn,allQ,live,yc,yx,go_sem,zA,zC,↓reduceIte,reduceCtorEq];omega
  .obtain rfl:k=S.N:=by omega
   simp only[ybmr,ycmi,natO,spcO,spcC,ybh,ybb,zI,go_sem,zA,zB,↓reduceIte];have hst:OrdI S lg (ylq lg S.N) 0 0 fun _=>0:=OrdI.start (ydbn _ _) (ydfi _ _) fun k hk=>ycfz hk;have hfl:=ybkd lg S.N
   generalize ylq lg S.N=L0 at hst hfl
   refine hS.use ?_;simp only[ybg,ycxu,ybwt,clash,go_sem,zA,zB,zC,↓reduceIte,reduceCtorEq]
   repeat refine zH (by first|omega|decide|exact ikw (by omega) (by omega)) ?_
   refine ybd (σ:=Nat×List Nat×(Nat->Nat)) (fun x=>⟨[(10,.i .i64 x.1),(5,.os (70,0) 0 x.2.1.length true),(9,.os (30,0) 0 S.N true),(8,.sl 1 S.N fun j=>[ych (srcS S j)]),(1,ybb S.N lg),(2,.pt (2,0) 0 0)],
    [(2,spcO S),(70,natO x.2.1),(30,.one (some ⟨3,false,1,S.N,fun k=>[.i .i64 (x.2.2 k:Nat)]⟩))]⟩) (fun x=>OrdI S lg x.2.1 x.1 0 x.2.2) (fun x=>S.N+1-x.1) (0,L0,fun _=>0) hst ?_ ?_
   .refine yh [] [] [] ?_;simp only[spcO,spcC,ybh,ybb,natO,ych,allQ,live,yc,zD,go_sem,zA,zC,↓reduceIte,reduceCtorEq]
   .rintro⟨i,L,E⟩ hI;simp only at hI ⊢;have hLn:=hI.len;have hiL:=hI.hi
    by_cases hlt:i<L.length
    .have d1 := dec_lt hlt;obtain⟨x,hx⟩:∃x,L.getD i 0=x:=⟨_,rfl⟩;have hxN:x<S.N:=by rw[<-hx,getD_at hlt];exact hI.lt _ (zT _)
     have hsl:=ytv h (k:=S.N) (i:=0) (by omega) (by omega) (by omega) x
     change (srcS S x).length<=262144 at hsl
     simp only[ybil,ybun,ycci,natO,ych,ybb,d1,hx,clash,go_sem,zA,zB,↓reduceIte,reduceCtorEq]
     repeat refine zH (by first|omega|decide|exact ikw (by omega) (by omega)) ?_
     refine ybd (σ:=Nat×List Nat×(Nat->Nat)) (fun y=>⟨[(45,.i .i64 y.1),(44,.i .i64 ((srcS S x).length:Nat)),(43,ych (srcS S x)),(10,.i .i64 i),(5,.os (70,0) 0 y.2.1.length true),(9,.os (30,0) 0 S.N true),(8,.sl 1 S.N fun j=>[ych (srcS S j)]),(1,ybb S.N lg),(2,.pt (2,0) 0 0)],
      [(2,spcO S),(70,natO y.2.1),(30,.one (some ⟨3,false,1,S.N,fun k=>[.i .i64 (y.2.2 k:Nat)]⟩))]⟩) (fun y=>OrdI S lg y.2.1 i y.1 y.2.2/\i<y.2.1.length/\y.2.1.getD i 0=x/\y.1<=(srcS S x).length) (fun y=>(srcS S x).length-y.1) (0,L,E) ⟨hI,hlt,hx,zL _⟩ ?_ ?_
     .refine yh [] [] [] ?_;simp only[spcO,spcC,ybh,ybb,natO,ych,allQ,live,yc,zD,go_sem,zA,zC,↓reduceIte,reduceCtorEq]
     .rintro⟨j,L,E⟩ ⟨hI,hlt,hx,hj⟩;simp only at hI hlt hx hj ⊢;have hLn:=hI.len
      by_cases hlt2:j<(srcS S x).length
      .have d2:=dec_lt hlt2;obtain⟨k,hk⟩:∃k,(srcS S x).getD j 0=k:=⟨_,rfl⟩;have hkN:k<S.N:=by rw[<-hk,getD_at hlt2];exact yclc (.inr ⟨rfl,zAQ _⟩) _ (zT _)
       have hal:=h.len hkN;obtain⟨hEk,hI'⟩:=hI.step hlt (by rw[hx];exact hlt2) (by rw[hx];exact hk) hkN
       simp only at hI';obtain⟨E',hE'⟩:∃E',(fun q=>if q=k then E k+1 else E q)=E':=⟨_,rfl⟩
       have hE1:∀(i:Nat),i<S.N->(if i=k then[SV.i .i64 ((E k:Int)+1)]else[SV.i .i64 (E i:Int)])=[SV.i .i64 (E' i:Int)]:=fun i _=>by
        rw[<-hE']
        by_cases q:i=k
        .simp only[if_pos q];rfl
        .simp only[if_neg q]
       rw[hE']at hI';cases hq:lg k with
       | true =>
         rw[hq,if_neg (fun q=>by cases q.1)]at hI'
         simp only[ytt,ybau,yzm,yyw,yzh,natO,ych,ybb,spcO,spcC,ybh,d2,hk,hq,clash,go_sem,zA,zB,↓reduceIte,reduceCtorEq]
         repeat refine zH (by first|omega|decide|exact ikw (by omega) (by omega)) ?_
         refine yj (j+1,L,_) ⟨hI',hlt,hx,hlt2⟩ (by show _-(j+1)<_-j;omega) ?_
         refine yh [] [] [] ?_;simp only[allQ,live,yc,yx,go_sem,zA,zC,↓reduceIte,reduceCtorEq];exact⟨by omega,fun i hi=>yfi (hE1 i hi)⟩
       | false =>
         by_cases hE:E k+1=(S.arcs k).length
         .rw[if_pos ⟨hq,hE⟩]at hI';have d3:(((E k:Int)+1)==((S.arcs k).length:Int))=true:=by rw[beq_iff_eq];omega
          simp only[ytt,ybau,yzm,yyw,yceb,yzh,natO,ych,ybb,spcO,spcC,ybh,d2,d3,hk,hq,clash,go_sem,zA,zB,zJ,zC,↓reduceIte,reduceCtorEq]
          repeat refine zH (by first|omega|decide|exact ikw (by omega) (by omega)) ?_
          refine yj (j+1,L++[k],_) ⟨hI',by show i<(L++[k]).length;rw[zF];omega,by show(L++[k]).getD i 0=x;rw[<-hx];simp only[zX,zN hlt],hlt2⟩ (by show _-(j+1)<_-j;omega) ?_
          refine yh [(70,fun i=>(76,i))] [] [] ?_;simp only[zF,allQ,live,yc,yx,go_sem,zA,zC,↓reduceIte,reduceCtorEq];exact⟨by omega,fun i hi=>yfi (ybku L k hi),fun i hi=>yfi (hE1 i hi)⟩
         .rw[if_neg (fun q=>hE q.2)]at hI';have d3:(((E k:Int)+1)==((S.arcs k).length:Int))=false:=by rw[beq_eq_false_iff_ne];omega
          simp only[ytt,ybau,yzm,yyw,yzh,natO,ych,ybb,spcO,spcC,ybh,d2,d3,hk,hq,clash,go_sem,zA,zB,↓reduceIte,reduceCtorEq]
          repeat refine zH (by first|omega|decide|exact ikw (by omega) (by omega)) ?_
          refine yj (j+1,L,_) ⟨hI',hlt,hx,hlt2⟩ (by show _-(j+1)<_-j;omega) ?_
          refine yh [] [] [] ?_;simp only[allQ,live,yc,yx,go_sem,zA,zC,↓reduceIte,reduceCtorEq];exact⟨by omega,fun i hi=>yfi (hE1 i hi)⟩
      .obtain rfl:j=(srcS S x).length:=by omega
       have hI2:=hI.next hlt (by rw[hx])
       simp only[ytt,natO,ych,ybb,spcO,spcC,ybh,zI,clash,go_sem,zA,zB,↓reduceIte,reduceCtorEq]
       repeat refine zH (by first|omega|decide|exact ikw (by omega) (by omega)) ?_
       refine yj (i+1,L,E) hI2 (by show S.N+1-(i+1)<S.N+1-i;omega) ?_
       refine yh [] [] [] ?_;simp only[allQ,live,yc,yx,go_sem,zA,zC,↓reduceIte,reduceCtorEq];omega
    .obtain rfl:i=L.length:=by omega
     have hall:=hI.all (fun k hk a ha=>h.mem hk ha) hf.ne hf.cyc;simp only[ybil,ybxx,natO,zI,go_sem,zA,zB,↓reduceIte,reduceCtorEq];exact⟨L,Sim.refl _,hI.lt,Nat.le_antisymm hLn (ydgu hall),hall⟩
def allO(n:Nat)(b:Bool):Fam:=.one (some ⟨4,false,1,n,fun _=>[.b b]⟩)
theorem ycas{h:Nm->Nm}{vir:List Nat}{O1 O:Own}{X:List SV}{x:Bool}(e:X=[.b x]):telL h vir [] O1 O X [.b x]:=by
 subst e;exact⟨.inl ⟨(yhe _ _ _).2 trivial,by rw[ydw];exact Sim.refl _,rfl⟩,rfl,trivial⟩
set_option maxHeartbeats 1000000 in
theorem ybdv{S:Spc}(h:S.ok){lg:Nat->Bool}(hf:S.free lg):Cm zG 72 [] [] [.ag (spcC S),ybb S.N lg] fun r o=>r = .tp [.os (1,0) 0 S.N true,.i .i64 0]/\o=[(1,allO S.N true)]:=by
 refine ydgs [] [] _ _ _ ?_;have hle:=h.le;have hC:=yox h lg;have hO:=ybmj h hf;simp only[spcC,ybh,ybb]at hC hO;simp only[c72,ydky,ydlp,spcC,ybh,ybb,clash,go_sem,zA,zB,zC,↓reduceIte,reduceCtorEq];refine hC.use ?_;simp only[ybg,ydud,ydmp,ydrc,clash,zY,go_sem,zA,zB,zC,↓reduceIte,reduceCtorEq]
 repeat refine zH (by first|omega|decide|exact ikw (by omega) (by omega)) ?_
 refine hO.fnd (V:=ych) (fun r L h=>h.1) fun r L hL=>?_;obtain⟨-,hlt,hlen,hall⟩:=hL;simp only[ych,go_sem]
 let mk:Nat->Nat->Bool:=fun i k=>decide (k∈L.take i)
 refine ybd (σ:=Nat) (fun i=>⟨[(23,.i .i64 i),(22,.i .i64 (L.length:Nat)),(21,ych L),(7,.os (18,0) 0 S.N true)],[(18,.one (some ⟨4,false,1,S.N,fun k=>[.b (mk i k)]⟩))]⟩) (fun i=>i<=L.length) (fun i=>L.length-i) 0 (zL _) ?_ ?_
 .refine yh [] [] [] ?_;simp only[ych,mk,allQ,live,yc,zD,go_sem,zA,zC,↓reduceIte,reduceCtorEq]
 .intro i hi
  by_cases hlt2:i<L.length
  .have d1:=dec_lt hlt2;obtain⟨k,hk⟩:∃k,L.getD i 0=k:=⟨_,rfl⟩;have hkN:k<S.N:=by rw[<-hk,getD_at hlt2];exact hlt _ (zT _)
   have hmk:∀q,mk (i+1) q=if q=k then true else mk i q:=fun q=>by
    show decide (q∈L.take (i+1))=if q=k then true else decide (q∈L.take i)
    rw[yfy 0 hlt2,hk]
    by_cases e:q=k
    .simp[e]
    .simp[e]
   simp only[ydid,ydtw,ydsg,ydvh,ych,d1,hk,clash,go_sem,zA,zB,↓reduceIte,reduceCtorEq]
   repeat refine zH (by first|omega|decide|exact ikw (by omega) (by omega)) ?_
   refine yj (i+1) (by omega) (by omega) ?_
   refine yh [] [] [] ?_;simp only[hmk,allQ,live,yc,yx,go_sem,zA,zC,↓reduceIte,reduceCtorEq];refine⟨by omega,fun q _=>ycas ?_⟩
   by_cases e:q=k
   .rw[if_pos e,if_pos e]
   .rw[if_neg e,if_neg e]
  .obtain rfl:i=L.length:=by omega
   simp only[ydid,ycrl,ych,zI,ygm,go_sem,zA,zB,↓reduceIte,reduceCtorEq];refine⟨.tp [.os (1,0) 0 S.N true,.i .i64 0],[(1,allO S.N true)],?_,?_,rfl,rfl⟩
   .refine ybl [(1,fun i=>(18,i))] [] [] ?_;simp only[allO,mk,zS,allQ,live,yc,ytr,go_sem,zC,↓reduceIte,reduceCtorEq];exact fun i hi=>hall i hi
   .simp only[allO,ycc,yev,allQ,live,go_sem,↓reduceIte]
set_option maxHeartbeats 1000000 in
theorem ycjx{S:Spc}(h:S.ok){lg:Nat->Bool}(hf:S.free lg):Returns zG 17 [.ag (spcC S),ybb S.N lg] (.tp [ybb S.N fun _=>false,.i .i64 0]):=by
 refine Returns.of (ydbx [72] _ _ ?_);have hle:=h.le;have hA:=ybdv h hf;simp only[spcC,ybh,ybb]at hA;simp only[c17,ydox,ydoi,spcC,ybh,ybb,clash,go_sem,zA,zB,zC,↓reduceIte,reduceCtorEq];refine yea hA [] 50 [] [] ?_ ?_
 .simp only[go_sem,ycc,yev,ydz,ydm,allQ,live,yc,go_sem,zB,↓reduceIte,reduceCtorEq]
 rintro r o' ⟨rfl,rfl⟩;simp only[allO,ymm,ykm,nuF,nu,difN,ydz,ydm,Fam.ren,OB.ren,dim,yhj,ybxg,yoi,yij,go_sem,zA,zB,↓reduceIte,reduceCtorEq];simp only[ydwg,ydqw,clash,zY,go_sem,zA,zB,↓reduceIte];refine ybd (σ:=Nat) (fun i=>⟨[(20,.i .i64 i),(19,.i .i64 (S.N:Nat)),(6,.os (51,0) 0 S.N true)],[(51,.one (some ⟨4,false,1,S.N,fun k=>[.b (!decide (k<i))]⟩))]⟩) (fun i=>i<=S.N) (fun i=>S.N-i) 0 (zL _) ?_ ?_
 .refine yh [] [] [] ?_;simp only[go_sem,allQ,live,yc,ytr,zD,go_sem,zA,zC,↓reduceIte,reduceCtorEq];exact fun i _=>by simp
 .intro i hi
  by_cases hlt2:i<S.N
  .have d1:=dec_lt hlt2;simp only[yddy,ydvv,ydux,ydvz,d1,clash,go_sem,zA,zB,↓reduceIte,reduceCtorEq]
   repeat refine zH (by first|omega|decide|exact ikw (by omega) (by omega)) ?_
   refine yj (i+1) (by omega) (by omega) ?_
   refine yh [] [] [] ?_;simp only[go_sem,allQ,live,yc,yx,go_sem,zA,zC,↓reduceIte,reduceCtorEq];refine⟨by omega,fun q _=>ycas ?_⟩
   by_cases e:q=i
   .subst e;rw[if_pos rfl];simp
   .rw[if_neg e];congr 2;rw[show decide (q<i)=decide (q<i+1)from decide_eq_decide.2 (by omega)]
  .obtain rfl:i=S.N:=by omega
   simp only[yddy,ydwq,zI,go_sem,zA,zB,↓reduceIte,reduceCtorEq];exact yxg ⟨ybbx fun k hk=>by rw[decide_eq_true hk];rfl,Sim.refl _,trivial⟩
end Sh
end
section
namespace Sh
open Ev Go.RowKit
set_option maxHeartbeats 1000000 in
theorem ybcq{S:Spc}(h:S.ok){lg:Nat->Bool}(hf:S.free lg):Ct zG 74 [.ag (spcC S),ybb S.N lg] fun r=>∃L,Sim r (.tp [ych L,.i .i64 0])/\OrdL S lg L:=by
 refine ydkr _ _ ?_;have hle:=h.le;have hC:=yox h lg;have hO:=ybmj h hf;simp only[spcC,ybh,ybb]at hC hO;simp only[c74,ydqx,ydkv,spcC,ybh,ybb,clash,go_sem,zA,zB,zC,↓reduceIte,reduceCtorEq];refine hC.use ?_;simp only[ybg,ydwu,ydwm,ydrj,clash,zY,go_sem,zA,zB,↓reduceIte,reduceCtorEq];refine hO.fnd (V:=ych) (fun r L h=>h.1) fun r L hL=>?_;obtain⟨-,hL⟩:=hL;simp only[ydtd,clash,ych,hL.len,zI,go_sem,zA,zB,↓reduceIte,reduceCtorEq]
 exact⟨L,by rw[hL.len];exact Sim.refl _,hL⟩
theorem ybpx{s t:Nat}(hs:s<2^32):Returns zG 78 [.ag [.i .u32 (s:Nat),.i .i64 (t:Nat)]] (.i .i64 (popP s:Nat)):=by
 refine Returns.of (ydlh _ _ ?_);have hO:=ybmz hs;simp only[c78,ydks,ydnp,clash,go_sem,zA,zB,zJ,zC,↓reduceIte,reduceCtorEq];refine hO.use ?_;simp only[ybg,clash,go_sem,zA,zB,↓reduceIte,reduceCtorEq];exact Sim.refl _
structure MvB(S:Spc)(lg:Nat->Bool)(B:Nat->Nat->Prop):Prop where
 zero:∀k,k<S.N->B k 0
 arc:∀k,k<S.N->lg k=false->∀i,i<(S.arcs k).length->∀x,B ((S.arcs k).getD i (0,0)).2 x->B k (popP ((S.arcs k).getD i (0,0)).1+x)
set_option maxHeartbeats 2000000 in
theorem ybgp{S:Spc}(h:S.ok){lg:Nat->Bool}(hf:S.free lg){B:Nat->Nat->Prop}(hB:MvB S lg B) :
 Ct zG 77 [.ag (spcC S),ybb S.N lg,.fn 78 [] []] fun r=>∃f:Nat->Nat,Sim r (.tp [.sl 1 S.N fun k=>[.i .i64 (f k:Nat)],.i .i64 0])/\(∀k,k<S.N->B k (f k))/\∀k,k<S.N->f k<=1000000:=by
 refine ydwc _ _ ?_;have hle:=h.le;have hO:=ybcq h hf;simp only[spcC,ybh,ybb]at hO;simp only[c77,ydtz,ydwx,spcC,ybh,ybb,clash,go_sem,zA,zB,zC,↓reduceIte,reduceCtorEq];refine hO.fnd (V:=fun L=>.tp [ych L,.i .i64 0]) (fun r L h=>h.1) fun r L hL=>?_;obtain⟨-,hlt,hlen,hall⟩:=hL;simp only[ybg,ydmf,ydnu,ydob,clash,ych,zY,go_sem,zA,zB,zC,↓reduceIte,reduceCtorEq]
 repeat refine zH (by first|omega|decide|exact ikw (by omega) (by omega)) ?_
 refine ybd (σ:=Nat×(Nat->Nat)) (fun x=>⟨[(29,.i .i64 x.1),(28,.i .i64 (L.length:Nat)),(27,ych L),(10,.os (26,0) 0 S.N true),(1,ybb S.N lg),(2,.fn 78 [] []),(3,.pt (3,0) 0 0)],
  [(3,spcO S),(26,.one (some ⟨3,false,1,S.N,fun k=>[.i .i64 (x.2 k:Nat)]⟩))]⟩) (fun x=>x.1<=L.length/\(∀k,k<S.N->B k (x.2 k))/\∀k,x.2 k<=24*x.1) (fun x=>L.length-x.1) (0,fun _=>0) ⟨zL _,hB.zero,fun _=>zL _⟩ ?_ ?_
 .refine yh [] [] [] ?_;simp only[ych,ybb,spcO,spcC,ybh,allQ,live,yc,zD,go_sem,zA,zC,↓reduceIte,reduceCtorEq]
 .rintro⟨i,f⟩ ⟨hi,hf1,hf2⟩;simp only at hi hf1 hf2 ⊢
  by_cases hlt2:i<L.length
  .have d1 := dec_lt hlt2;obtain⟨k,hk⟩:∃k,L.getD i 0=k:=⟨_,rfl⟩;have hkN:k<S.N:=by rw[<-hk,getD_at hlt2];exact hlt _ (zT _)
   have hal:=h.len hkN;cases hq:lg k with
   | true =>
     simp only[ycgo,ydht,ydhs,ybyz,ych,ybb,d1,hk,hq,clash,go_sem,zA,zB,↓reduceIte,reduceCtorEq]
     repeat refine zH (by first|omega|decide|exact ikw (by omega) (by omega)) ?_
     refine yj (i+1,f) ⟨hlt2,hf1,fun q=>by have:=hf2 q;show f q<=24*(i+1);omega⟩ (by show _-(i+1)<_-i;omega) ?_
     refine yh [] [] [] ?_;simp only[spcO,spcC,ybh,allQ,live,yc,yx,go_sem,zA,zC,↓reduceIte,reduceCtorEq];omega
   | false =>
     simp only[ycgo,ydht,ydhs,ydun,ych,ybb,spcO,spcC,ybh,d1,hk,hq,clash,go_sem,zA,zB,↓reduceIte,reduceCtorEq]
     repeat refine zH (by first|omega|decide|exact ikw (by omega) (by omega)) ?_
     refine ybd (σ:=Nat×(Nat->Nat)) (fun y=>⟨[(43,.i .i64 y.1),(42,.i .i64 ((S.arcs k).length:Nat)),(41,ybh (S.arcs k)),(12,.i .i64 k),(29,.i .i64 i),(28,.i .i64 (L.length:Nat)),(27,ych L),(10,.os (26,0) 0 S.N true),(1,ybb S.N lg),(2,.fn 78 [] []),(3,.pt (3,0) 0 0)],
      [(3,spcO S),(26,.one (some ⟨3,false,1,S.N,fun k=>[.i .i64 (y.2 k:Nat)]⟩))]⟩) (fun y=>y.1<=(S.arcs k).length/\(∀k,k<S.N->B k (y.2 k))/\(∀q,q≠k->y.2 q<=24*i)/\y.2 k<=24*(i+1)) (fun y=>(S.arcs k).length-y.1) (0,f) ⟨zL _,hf1,fun q _=>hf2 q,by have:=hf2 k;show f k<=24*(i+1);omega⟩ ?_ ?_
     .refine yh [] [] [] ?_;simp only[ych,ybb,spcO,spcC,ybh,allQ,live,yc,zD,go_sem,zA,zC,↓reduceIte,reduceCtorEq]
     .rintro⟨j,f⟩ ⟨hj,hf1,hf2,hf3⟩;simp only at hj hf1 hf2 hf3 ⊢
      by_cases hlt3:j<(S.arcs k).length
      .have d2:=dec_lt hlt3;have hto:=h.to k hkN j hlt3;have hsub:=(h.sub k hkN j hlt3).1;have harc:=hB.arc k hkN hq j hlt3;have hne:((S.arcs k).getD j (0,0)).2≠k:=fun e=>hf.cyc (fun _=>k) 1 ⟨by omega,fun _=>rfl,fun _=>hkN,fun _=>⟨_,by rw[getD_at hlt3];exact zT _,e⟩⟩
       obtain⟨⟨a,t⟩,hat⟩:∃p,(S.arcs k).getD j (0,0)=p:=⟨_,rfl⟩;rw[hat]at hto hsub harc hne;simp only at hto hsub harc hne;have hM:=ybpx (s:=a) (t:=t) (by omega)
       have hpa:=ydfw a hsub;have hft:=hf2 t hne;obtain⟨f',hf'⟩:∃f':Nat->Nat,(fun q=>if q=k then max (f k) (popP a+f t)else f q)=f':=⟨_,rfl⟩
       have hk':f' k=max (f k) (popP a+f t):=by rw[<-hf'];simp
       have hq':∀q,q≠k->f' q=f q:=fun q e=>by rw[<-hf'];simp[e]
       have hE1:∀(i:Nat),i<S.N->(if i=k then[SV.i .i64 (max (f k:Int) ((popP a:Int)+(f t:Int)))]else[SV.i .i64 (f i:Int)])=[SV.i .i64 (f' i:Int)]:=fun i _=>by
        by_cases q:i=k
        .subst q;rw[if_pos rfl,hk'];congr 2;omega
        .rw[if_neg q,hq' i q]
       simp only[ybwq,ycmb,ycnn,ycls,ych,ybb,spcO,spcC,ybh,d2,hat,clash,go_sem,zA,zB,zC,↓reduceIte,reduceCtorEq]
       repeat refine zH (by first|omega|decide|exact ikw (by omega) (by omega)) ?_
       refine hM.use ?_;simp only[ybg,clash,go_sem,zA,zB,↓reduceIte,reduceCtorEq]
       repeat refine zH (by first|omega|decide|exact ikw (by omega) (by omega)) ?_
       refine yj (j+1,f') ⟨hlt3,fun q hqN=>?_,fun q e=>by show f' q<=_;rw[hq' q e];exact hf2 q e,by show f' k<=_;rw[hk'];omega⟩ (by show _-(j+1)<_-j;omega) ?_
       .show B q (f' q)
        by_cases e:q=k
        .subst e;rw[hk'];rcases Nat.le_total (f q) (popP a+f t)with r|r
         .rw[Nat.max_eq_right r];exact harc _ (hf1 t hto)
         .rw[Nat.max_eq_left r];exact hf1 q hqN
        .rw[hq' q e];exact hf1 q hqN
       refine yh [] [] [] ?_;simp only[allQ,live,yc,yx,go_sem,zA,zC,↓reduceIte,reduceCtorEq];exact⟨by omega,fun i hi=>yfi (hE1 i hi)⟩
      .obtain rfl:j=(S.arcs k).length:=by omega
       simp only[ybwq,ybyz,ych,ybb,spcO,spcC,ybh,zI,clash,go_sem,zA,zB,↓reduceIte,reduceCtorEq]
       repeat refine zH (by first|omega|decide|exact ikw (by omega) (by omega)) ?_
       refine yj (i+1,f) ⟨hlt2,hf1,fun q=>?_⟩ (by show _-(i+1)<_-i;omega) ?_
       .show f q<=24*(i+1)
        by_cases e:q=k
        .rw[e];exact hf3
        .have:=hf2 q e;omega
       refine yh [] [] [] ?_;simp only[allQ,live,yc,yx,go_sem,zA,zC,↓reduceIte,reduceCtorEq];omega
  .obtain rfl:i=L.length:=by omega
   simp only[ycgo,ycve,ych,zI,go_sem,zA,zB,↓reduceIte,reduceCtorEq];exact⟨f,Sim.refl _,hf1,fun k _=>by have:=hf2 k;omega⟩
theorem yciq{S:Spc}(h:S.ok){lg:Nat->Bool}(hf:S.free lg){B:Nat->Nat->Prop}(hB:MvB S lg B) :
 Ct zG 20 [.ag (spcC S),ybb S.N lg] fun r=>∃f:Nat->Nat,Sim r (.tp [.sl 1 S.N fun k=>[.i .i64 (f k:Nat)],.i .i64 0])/\(∀k,k<S.N->B k (f k))/\∀k,k<S.N->f k<=1000000:=by
 refine ydme _ _ ?_;have hG:=ybgp h hf hB;simp only[spcC,ybh,ybb]at hG;simp only[c20,ydoh,ydsc,spcC,ybh,ybb,clash,go_sem,zA,zB,zC,↓reduceIte,reduceCtorEq];refine hG.fnd (V:=fun f:Nat->Nat=>.tp [.sl 1 S.N fun k=>[.i .i64 (f k:Nat)],.i .i64 0]) (fun r f h=>h.1) fun r f hf=>?_;simp only[ybg,clash,go_sem,zA,zB,↓reduceIte,reduceCtorEq];exact⟨f,Sim.refl _,hf.2⟩
end Sh
end
section
def ybw(s:Nat):List Nat:=(zK 32).filter s.testBit
theorem ybdd{p q:Nat->Bool}{n t:Nat}(ht:t<n)(h1:p t=true)(h2:∀i,i<t->p i=false)(h3:∀i,q i=(p i && !decide (i=t))):(zK n).filter p=t::(zK n).filter q:=by
 obtain⟨d,rfl⟩:∃d,n=t+(d+1):=⟨n-t-1,by omega⟩
 rw[List.range_add,zM,zM,List.range_succ_eq_map];have a1:(zK t).filter p=[]:=List.filter_eq_nil_iff.2 fun x hx=>by rw[h2 x (List.mem_range.1 hx)];simp
 have a2:(zK t).filter q=[]:=List.filter_eq_nil_iff.2 fun x hx=>by rw[h3,h2 x (List.mem_range.1 hx)];simp
 rw[a1,a2,List.map_cons,zAN,zAN,zBA,List.filter_cons_of_pos h1,List.filter_cons_of_neg (by rw[h3];simp)]
 congr 1;refine List.filter_congr fun x hx=>?_;obtain⟨y,hy,rfl⟩:=List.mem_map.1 hx;obtain⟨z,_,rfl⟩:=List.mem_map.1 hy;rw[h3];have:decide (t+z.succ=t)=false:=decide_eq_false (by omega)
 rw[this];simp
theorem ycgv{x:Nat}(h0:x≠0)(h:x<2^32):zAC 32 x<32/\x.testBit (zAC 32 x)=true/\(∀i,i<zAC 32 x->x.testBit i=false)/\∀i,(x&&&(x-1)).testBit i=(x.testBit i && !decide (i=zAC 32 x)):=by
 obtain⟨m,hm,hk⟩:=Lib.ctzFrom_spec 32 x (by omega) h
 have e:zAC 32 x=zBD 32 x:=by simp[zAC,h0]
 rw[e];obtain⟨k,hkk⟩:∃k,zBD 32 x=k:=⟨_,rfl⟩;rw[hkk]at hm hk ⊢;have hp:0<2^k:=Nat.two_pow_pos k
 have b1:∀j,x.testBit j=if j<k then false else(2*m+1).testBit (j-k):=fun j=>by
  have:=zAH (2*m+1) hp j;rw[zBA,<-hm]at this;rw[this];simp
 have e2:x-1=2^k*(2*m)+(2^k-1):=by
  have:2^k*(2*m+1)=2^k*(2*m)+2^k:=by rw[Nat.mul_add,Nat.mul_one]
  omega
 have b2:∀j,(x-1).testBit j=if j<k then(2^k-1).testBit j else(2*m).testBit (j-k):=fun j=>by
  rw[e2];exact zAH (2*m) (show 2^k-1<2^k by omega) j
 refine⟨hk,by rw[b1,if_neg (by omega),zAK];simp,fun i hi=>by rw[b1,if_pos hi],fun i=>?_⟩
 rw[Nat.testBit_and,b1,b2]
 by_cases q:i<k
 .rw[if_pos q];simp
 .rw[if_neg q,if_neg q]
  by_cases q2:i=k
  .subst q2;simp
  .obtain⟨j,hj⟩:∃j,i-k=j+1:=⟨i-k-1,by omega⟩
   rw[hj,zAR,zAR,show(2*m+1)/2=m by omega,show 2*m/2=m by omega]
   simp[q2]
theorem yqc:ybw 0=[]:=List.filter_eq_nil_iff.2 fun x _=>by simp
theorem ypv{x:Nat}(h0:x≠0)(h:x<2^32):ybw x=zAC 32 x::ybw (x&&&(x-1)):=by
 obtain⟨h1,h2,h3,h4⟩:=ycgv h0 h;exact ybdd h1 h2 h3 h4
def ydo(s:Nat):Nat->Nat
 |0=>s
 |k+1=>ydo s k&&&(ydo s k-1)
theorem ynh{s:Nat}(h:s<2^32):∀k,ydo s k<2^32
 |0=>h
 |k+1=>Nat.lt_of_le_of_lt Nat.and_le_left (ynh h k)
theorem ypx{s:Nat}(h:s<2^32):∀k,ybw (ydo s k)=(ybw s).drop k
 |0=>by simp[ydo]
 | k + 1=>by
   have ih:=ypx h k;show ybw (ydo s k&&&(ydo s k-1))=_
   by_cases h0:ydo s k=0
   .rw[h0,yqc]at ih;rw[h0,Nat.zero_and,yqc,<-zAU,<-ih];rfl
   .rw[ypv h0 (ynh h k)]at ih;rw[<-zAU,<-ih];rfl
theorem rest_end{s k:Nat}(h:s<2^32)(hk:k<=(ybw s).length):ydo s k=0↔k=(ybw s).length:=by
 have hd:=ypx h k;constructor
 .intro e;rw[e,yqc]at hd;have:=congrArg List.length hd;rw[List.length_drop,zAS]at this;omega
 .intro e;rw[e,List.drop_length]at hd;refine zAJ fun q=>?_;rw[<-e]at hd;rw[ypv q (ynh h k)]at hd;cases hd
theorem ydia{s k:Nat}(h:s<2^32)(hk:k<(ybw s).length):ydo s k≠0/\zAC 32 (ydo s k)=(ybw s).getD k 0:=by
 have h0:ydo s k≠0:=fun e=>by have:=(rest_end h (Nat.le_of_lt hk)).1 e;omega
 refine⟨h0,?_⟩;have hd:=ypx h k;rw[ypv h0 (ynh h k),List.drop_eq_getElem_cons hk]at hd;have:=(List.cons.inj hd).1;rw[this,List.getD_eq_getElem?_getD,List.getElem?_eq_getElem hk];rfl
theorem ybxe{s v:Nat}:v∈ybw s↔v<32/\s.testBit v=true:=by
 unfold ybw;rw[zAE,zAG]
end
section
open Go.RowKit
theorem ydpd(x a:Nat)(hx:x<4294967296)(hx0:x≠0)(hlow:x&&&(4294967296-x)=a) :
 bits BinOp.and IntKind.u32 (x:Int) (-(x:Int)%4294967296)*125613361%4294967296/134217728=((a*125613361%4294967296/134217728:Nat):Int):=by
 have e1:-(x:Int)%4294967296=((4294967296-x:Nat):Int):=by omega
 have e2:bits BinOp.and IntKind.u32 (x:Int) ((4294967296-x:Nat):Int)=((x&&&(4294967296-x):Nat):Int):=u32_and (a:=x) (b:=4294967296-x) (by omega) (by omega)
 rw[e1,e2,hlow];omega
set_option maxHeartbeats 1000000 in
theorem yddt (x k idx:Nat) (w:World) (hx0:((x:Int)==0)=false) (key:bits BinOp.and IntKind.u32 (x:Int) (-(x:Int)%4294967296)*125613361%4294967296/134217728=(idx:Int))
 (hi:idx<32) (hk:k<32) (hcell:w.cell? ⟨0,idx,none⟩=some (.int .u8 k)) :
 Calls zG 173 #[.int .u32 x] w fun e w'=>e = .returned (.int .i64 k)/\w'=w:=by
 go_enter zBB,zAY
 go_wp2_with (simp only[key])
 go_ret
 exact⟨rfl,rfl⟩
theorem ydeb(w:World):Calls zG 173 #[.int .u32 0] w fun e w'=>e = .returned (.int .i64 32)/\w'=w:=by
 go_enter zBB,zAY
 go_wp2
 go_ret
 exact⟨rfl,rfl⟩
theorem ydls{w:World}{x:Nat}(hx:x<2^32)(hw:∃e fz,w.heap[0]?=some (.cells Ev.ybdw.toArray e fz)) :
 Calls zG 173 #[.int .u32 x] w fun e w'=>e = .returned (.int .i64 (zAC 32 x))/\w'=w:=by
 by_cases hx0:x=0
 .subst hx0;exact ydeb w
 .obtain⟨hlow,hk⟩:=Lib.lowest_bit 32 x hx0 hx;obtain⟨hi,htab⟩:=Lib.deBruijn32_at _ hk;obtain⟨e,fz,hw⟩:=hw;refine yddt x _ _ w (by simp;omega) (ydpd x _ hx hx0 hlow) hi hk ?_
  have keyN:∀j,j<32->([0,1,28,2,29,14,24,3,30,22,20,15,25,17,4,8,31,27,13,23,21,19,16,7,26,12,18,6,11,5,10,9]:List Int)[j]?=some ((Lib.deBruijn32tab.getD j 0:Nat):Int):=by decide +kernel
  have key:∀j,j<32->Ev.ybdw[j]?=some (.int .u8 (Lib.deBruijn32tab.getD j 0:Nat)):=fun j hj=>by
   unfold Ev.ybdw;rw[List.getElem?_map,keyN j hj];rfl
  rw[World.cell?,hw];have:=key _ hi;rw[htab]at this
  simpa using this
namespace Sh
open Ev
end Sh
end
section
namespace Ev
open Go Go.RowKit
theorem ybjr(v:Value):(T.sets .leaf 0 [v]).get 0=some v:=ybxl (l:=[v]) (j:=0) (by simp)
noncomputable def yyb(x:Nat):ABlk:=.cells (T.sets .leaf 0 [.int .u32 x]) 1 77 0
def setAt(b x:Nat)(m:Mem):Prop:=∃c,m.b.get b=some (.cells c 1 77 0)/\c.get 0=some (.int .u32 x)
section
variable {φ:Phi}{M:AM}{w:World}{m:Mem}{b x y:Nat}
theorem yzp(h:setAt b x m)(hR:Rel φ M w)(hs:Sub m M):∃l cs,φ b=some l/\l.sz=0/\l.base+1<=l.size/\l.ob=none/\w.heap[l.blk]?=some (.cells cs 77 (0,0))/\cs.size=l.size/\cs[l.base]?=some (.int .u32 x):=by
 obtain⟨c,h1,h2⟩:=h;obtain⟨l,cs,e',fz,g1,g2,g3,g4,g5,g6,g7⟩:=hR.cellsAt (hs _ _ h1);obtain⟨q1,q2,q3⟩:=g4 (by decide)
 subst q1 q2;obtain⟨v',k1,k2⟩:=g7 0 _ (by omega) h2
 have e:=k2.eq_simple rfl;subst e;exact⟨l,cs.toArray,g1,g2,g3,q3,g5,by simpa using g6,by simpa using k1⟩
theorem yddp(h:setAt b x m)(hR:Rel φ M w)(hs:Sub m M){l:Loc}(hl:φ b=some l) :
 Rel φ (upd M b (some (yyb y))) (w.setCell ⟨l.blk,l.base,none⟩ (.int .u32 y))/\WG φ M w φ (upd M b (some (yyb y))) (w.setCell ⟨l.blk,l.base,none⟩ (.int .u32 y)):=by
 obtain⟨l',cs,g1,g2,g3,g4,g5,g6,g7⟩:=yzp h hR hs;rw[hl]at g1;cases g1
 obtain⟨c,h1,_⟩:=h;rw[setCell_eq_setRow w l.blk l.base cs _ _ _ g5];refine hR.setRow (hs _ _ h1) hl ⟨g2,g3,(cs.setIfInBounds l.base (.int .u32 y)).toList,77,(0,0),⟨fun _=>⟨rfl,rfl,g4⟩,fun o ho=>(by rw[g4]at ho;cases ho)⟩,?_,by simpa using g6,fun j v hj hv=>?_⟩
 .rw[Array.toArray_toList];exact setRow_heap w _ _ _ _ _ g5
 .obtain rfl:j=0:=by omega
  rw[ybjr]at hv;cases hv
  refine⟨.int .u32 y,?_,.simple rfl⟩;have hlt:l.base<cs.size:=by omega
  simp[hlt]
end
noncomputable def yql(b y:Nat)(m:Mem):Mem:=m.app (.upd b (yyb y))
theorem ybqv(b y:Nat)(m:Mem)(i:Nat):(yql b y m).b.get i=if i=b then some (yyb y)else m.b.get i:=by
 unfold yql;rw[Sh.yyp];exact T.set_at _ _ _ _
noncomputable def ycrf(b s:Nat):It where
 n:=(ybw s).length
 el:=fun k=>[.int .i64 ((ybw s).getD k 0:Nat)]
 pre:=fun k m=>setAt b (ydo s k) m
 adv:=fun k m=>yql b (ydo s (k+1)) m
 step:=fun k φ M w M' w'=>∃l,φ b=some l/\M'=upd M b (some (yyb (ydo s (k+1))))/\w'=w.setCell ⟨l.blk,l.base,none⟩ (.int .u32 (ydo s (k+1):Nat))
theorem ydjj{a:Nat}(h0:a≠0)(h:a<2^32):bits BinOp.and IntKind.u32 (a:Int) (IntKind.wrap .u32 ((a:Int)-1))=((a&&&(a-1):Nat):Int):=by
 have e:IntKind.wrap .u32 ((a:Int)-1)=((a-1:Nat):Int):=by
  have e1:(a:Int)-1=((a-1:Nat):Int):=by omega
  rw[e1];exact ykz (by omega)
 rw[e];exact u32_and (a:=a) (b:=a-1) h (by omega)
set_option maxRecDepth 100000 in
set_option maxHeartbeats 2000000 in
theorem ycgm{b s:Nat}(hs32:s<2^32):ItOk zG 172 [.pointer (some ⟨b,0,none⟩)] (ycrf b s):=by
 refine⟨fun args w=>ybt yrs zBC rfl args w,fun k m hk hw hp=>?_,?_,?_⟩
 .obtain⟨c,h1,_⟩:=hp;have hb:=hw _ _ h1;show Grow m (yql b _ m);unfold yql
  exact⟨ybtw hw (fun i hi=>by
   have hi:i∈[b]:=hi;rw[List.mem_singleton.1 hi];exact⟨_,h1⟩),(yuj m _).1⟩
 .rintro k φ M w m M' w' hk hw hR hs hp ⟨l,hl,rfl,rfl⟩;obtain⟨r1,r2⟩:=yddp (y:=ydo s (k+1)) hp hR hs hl;obtain⟨c,h1,_⟩:=hp;refine⟨φ.le_refl,fun _ _=>rfl,r1,fun i x hx=>?_,fun i hi hn=>?_,r2⟩
  .have hx:(yql b (ydo s (k+1)) m).b.get i=some x:=hx;rw[ybqv]at hx;show(if i=b then _ else _)=_
   split at hx
   .rename_i q;rw[if_pos q];exact hx
   .rename_i q;rw[if_neg q];exact hs _ _ hx
  .show(if i=b then _ else _)=_
   rw[if_neg fun q=>?_];subst q;rcases hn with hn|hn
   .rw[h1]at hn;cases hn
   .have hn:i<(yql i (ydo s (k+1)) m).low:=hn;unfold yql at hn;rw[Sh.yyp]at hn;have hn:i<Nat.min m.low i:=hn;exact absurd hn (Nat.not_lt.2 (Nat.min_le_right m.low i))
 .intro l St Stop φ M w cap' hread hgrow hyield h0 hcap;obtain⟨box,rfl,hbox⟩:=yfq hcap;obtain⟨lc,hlc,_,rfl⟩:=hbox.ptr_inv;obtain⟨N,hN⟩:∃N,(ybw s).length=N:=⟨_,rfl⟩;have Hread:=zO hread;have Hgrow:=zO hgrow;have Hyield:=zO hyield;have H0:=zO h0;have Hlc:=zO hlc
  have cellOf:Hid (∀k φ' M' W,St k φ' M' W->φ.le φ'/\W.cell? ⟨lc.blk,lc.base,none⟩=some (.int .u32 (ydo s k:Nat))/\W.frozen? ⟨lc.blk,lc.base,none⟩=false/\(∃e fz,W.heap[0]?=some (.cells ybdw.toArray e fz))/\lc.blk<W.heap.size):=zO fun k φ' M' W hst=>by
   obtain⟨hle,m,hR,hsu,hpre⟩:=hread k φ' M' W hst;obtain⟨l',cs,g1,g2,g3,g4,g5,g6,g7⟩:=yzp hpre hR hsu;rw[hle _ _ hlc]at g1;cases g1
   exact⟨hle,by simp[World.cell?,g5,g7],by simp[World.frozen?,g5],(hR.gl _ rfl).1,(Array.getElem?_eq_some_iff.1 g5).1⟩
  clear hread hgrow hyield h0 hbox hlc hcap
  refine callsIn_of_wp zBC rfl trivial ?_
  simp only[Tryz.ntmps172,List.size_toArray,List.length_cons,zAS,zB,Nat.reduceSub,Array.replicate_succ,
   Array.replicate_zero,List.push_toArray,List.append_toArray,zAN,List.cons_append]
  gi_wp2
  gi_loopg [] N (fun q wr=>∃k:Nat,q+k=N/\Hid (∃φ' M',φ.le φ'/\St k φ' M' wr))
  case atStart=>exact⟨0,by omega,zO ⟨φ,M,φ.le_refl,H0.out⟩⟩
  case round =>
   obtain⟨k,hq,hst⟩:=hrel;obtain⟨φ1,M1,hle1,hst1⟩:=hst.out;obtain⟨_,hc1,hf1,hg1,hb1⟩:=cellOf.out _ _ _ _ hst1
   by_cases hlt:k<N
   .obtain⟨h0,hz⟩:=ydia hs32 (k:=k) (by omega)
    have hx32:=ynh hs32 k;have key:=ydjj h0 hx32;have hrs:ydo s (k+1)=ydo s k&&&(ydo s k-1):=rfl;obtain⟨x,hx⟩:∃x,ydo s k=x:=⟨_,rfl⟩;obtain⟨y,hy⟩:∃y,ydo s (k+1)=y:=⟨_,rfl⟩;rw[hx]at hc1 h0 hz hx32 key hrs;rw[hy]at hrs;rw[<-hrs]at key;have hne:((x:Int)!=0)=true:=by rw[bne_iff_ne];omega
    have htz:=ydls (w:=wr) (x:=x) hx32 hg1;rw[hz]at htz;obtain⟨v,hv⟩:∃v,(ybw s).getD k 0=v:=⟨_,rfl⟩
    obtain⟨fn,tmps,assign,body,hy',hRd⟩:=Hyield.out k φ1 M1 wr [.int .i64 (v:Nat)] (by show k<(ybw s).length;omega) hst1 (by
     show VRL φ1 [.int .i64 ((ybw s).getD k 0:Nat)] _;rw[hv];exact .cons (.simple rfl) .nil)
    rw[hv]at htz;have hyl:(Instr.yield l #[.int .i64 (v:Int)]).run zG wr = .ok (.round l fn tmps assign body) wr:=hy';have Hst1:=zO hst1;have Hle1:=zO hle1;have Hy:=zO hy;have Hx:=zO hx
    clear hst hst1 hle1 hy' hg1 hz hrs hx hy
    gi_wp2
    refine⟨trivial,callsIn_wide.2 (htz.mono ?_)⟩;rintro e w' ⟨rfl,rfl⟩
    gi_wp2
    refine hRd.mono ?_;rintro e W3 (⟨rfl,φ3,M3,hle3,⟨m3,hR3,hS3,hp3⟩,hst3⟩|⟨rfl,hstop⟩)
    .obtain⟨l',cs,g1,g2,g3,g4,g5,g6,g7⟩:=yzp hp3 hR3 hS3;rw[hle3 _ _ (Hle1.out _ _ Hlc.out)]at g1;cases g1
     have hc3:W3.cell? ⟨lc.blk,lc.base,none⟩=some (.int .u32 (x:Nat)):=by
      have hxe:ydo s k=x:=Hx.out;simp[World.cell?,g5,g7,hxe]
     have hf3:W3.frozen? ⟨lc.blk,lc.base,none⟩=false:=by simp[World.frozen?,g5]
     have Hst3:=zO (hst3 _ _ ⟨lc,hle3 _ _ (Hle1.out _ _ Hlc.out),rfl,rfl⟩);have Hle3:=zO hle3
     clear hst3 hle3 hRd hyl hR3 hS3 hp3 g2 g3 g4 g5 g6 g7
     gi_wp2
     gi_roundg (gk-1)
     case measure=>omega
     case rel =>
      have hthis:=Hst3.out;rw[Hy.out]at hthis;refine⟨k+1,by omega,zO ⟨φ3,upd M3 b (some (yyb y)),Phi.le_trans Hle1.out Hle3.out,?_⟩⟩
      clear Hread Hgrow Hyield H0 cellOf Hst3
      have e1:IntKind.wrap .u32 ((x:Int)-1)=(x:Int)-1:=by
       have e:(x:Int)-1=((x-1:Nat):Int):=by omega
       rw[e];exact ykz (by omega)
      rw[e1]at key;rw[key];exact hthis
    .have Hstop:=zO hstop
     clear hstop hRd hyl
     gi_wp2
     refine bodyPost_ret (results_none rfl _ _ _) rfl ?_;exact⟨⟨_,rfl⟩,.inr Hstop.out⟩
   .have hk:k=N:=by omega
    have h0:ydo s k=0:=(rest_end hs32 (by omega)).2 (by omega)
    rw[h0]at hc1;have Hst1:=zO hst1;have Hle1:=zO hle1
    clear hst hst1 hle1 hg1
    gi_wp2
    go_end0
    exact⟨⟨_,rfl⟩,.inl ⟨φ1,M1,by
     have:=Hst1.out;rw[hk,<-hN]at this;exact this⟩⟩
end Ev
end
section
section
variable {nm nc nr:ByteArray}{g:Gr}{c:Conf}{u v s:Nat}
end
end
section
end
section
namespace Sh
open Ev Go.RowKit
def setO(x:Nat):OB:=⟨77,true,1,1,fun _=>[.i .u32 x]⟩
def ybzj(b s:Nat):ItS:=⟨(ybw s).length,fun k=>[.i .i64 ((ybw s).getD k 0:Nat)],[(b,0)],fun k o=>lookO o (b,0)=some (setO (ydo s k)),fun k o=>(SS.own ⟨[],o⟩ (b,0) (some (setO (ydo s (k+1))))).o⟩
theorem ybug{b s:Nat}(hs:s<2^32):ItC zG 172 [.pt (b,0) 0 0] (ybzj b s):=by
 intro lo F ω st f m us hc hr hown;obtain⟨u,rfl,hu⟩:=rvl1 hr;obtain⟨k,z,hk,rfl⟩:=hu.pt_inv;have hown0:lookO st.o (b,0)=some (setO (ydo s 0)):=hown;obtain⟨hz,_⟩:=hc.ownAt hown0 hk (.inl (show(1:Nat)≠0 by decide))
 have hz:z=1:=hz;subst hz;refine⟨ycrf k s,ycgm hs,rfl,fun F' ω' s' f' m' j hF hω hc' hj hown'=>?_⟩;have hk':=hω (b,0) List.mem_cons_self _ hk;have hown':lookO s'.o (b,0)=some (setO (ydo s j)):=hown';obtain⟨_,Tb,L,g1,g2⟩:=hc'.ownAt hown' hk' (.inl (show(1:Nat)≠0 by decide))
 obtain⟨g3,g4,_,g5⟩:=g2 0 (by show 0<1;omega)
 refine⟨?_,fun hlt=>⟨.cons .i .nil,?_⟩⟩
 .refine⟨Tb,g1,?_⟩;have h0:=g5 0 (by show 0<1;omega)
  have g4:RVL F' ω' [.i .u32 (ydo s j:Nat)] (L 0):=g4;obtain⟨v,e,hv⟩:=rvl1 g4;rw[e,hv.int_inv]at h0;exact h0
 .exact hc'.upd (b:=setO (ydo s (j+1))) ⟨_,hown'⟩ hk' (show 77≠CU by decide) (Tb:=T.sets .leaf 0 [.int .u32 (ydo s (j+1):Nat)]) (L:=fun _=>[.int .u32 (ydo s (j+1):Nat)]) fun i hi=>by
   have hi:i<1:=hi;obtain rfl:i=0:=by omega
   refine⟨rfl,.cons .i .nil,rfl,fun q hq=>?_⟩;have hq:q<1:=hq;obtain rfl:q=0:=by omega
   exact ybjr _
theorem ycgz{s:Nat}:Cm zG 129 [] [] [.i .u32 s] fun r o=>r = .fn 172 [] [.pt (1,0) 0 0]/\o=[(1,.one (some (setO s)))]:=by
 refine yciu [] [] _ _ _ ?_;simp only[c129,ycwr,ycpn,clash,ygm,go_sem,zA,zB,zC,↓reduceIte,reduceCtorEq];refine⟨.fn 172 [] [.pt (1,0) 0 0],[(1,.one (some (setO s)))],?_,?_,rfl,rfl⟩
 .refine yh [] [] [] ?_;simp only[setO,allQ,live,yc,go_sem,zC,↓reduceIte,reduceCtorEq]
 .simp only[setO,ycc,yev,allQ,live,go_sem,↓reduceIte]
theorem ycgc{s v:Nat}(hs:s<2^24)(h:v∈ybw s):v<24/\s.testBit v=true:=by
 have hb:=(ybxe.1 h).2;refine⟨zAJ fun q=>?_,hb⟩;rw[Nat.testBit_lt_two_pow (Nat.lt_of_lt_of_le hs (Nat.pow_le_pow_right (by omega) (by omega)))]at hb
 cases hb
theorem getD_mem{l:List Nat}{k:Nat}(h:k<l.length):l.getD k 0∈l:=by rw[getD_at h];exact zT h
end Sh
end
section
namespace Sh
open Go Ev
end Sh
end
section
namespace Sh
open Ev Go.RowKit
end Sh
end
section
namespace Sh
open Ev Go.RowKit
end Sh
end
section
namespace Sh
open Ev Go.RowKit
end Sh
end
section
def chTo(perm:Nat->Bool)(e n:Nat):List Nat:=(zK n).filter fun s=>decide (s≠0/\s&&&e=s)&&perm s
def chP(perm:Nat->Bool)(e:Nat):List Nat:=chTo perm e 16
def nxB(e s:Nat):Nat:=((s+4294967296-e)%4294967296)&&&e
set_option maxRecDepth 100000 in
theorem ybbi:∀e,e<16->e≠0->(4294967296-e)&&&e≠0/\(4294967296-e)&&&e<16/\((4294967296-e)&&&e)&&&e=(4294967296-e)&&&e/\∀t,t<16->t≠0->t&&&e=t->(4294967296-e)&&&e<=t:=by decide +kernel
set_option maxRecDepth 100000 in
theorem ybij:((zK 16).all fun e=>(zK 16).all fun s=>s==0 || !(s&&&e==s)||(nxB e s==0&&(zK 16).all fun t=>!(t&&&e==t)||zBE t s)||(zBF s (nxB e s)&&zBF (nxB e s) 16&&(nxB e s&&&e==nxB e s)&&(zK 16).all fun t=>!(t&&&e==t)||zBE t s||zBE (nxB e s) t))=true:=by decide +kernel
theorem yboh(e:Nat)(he:e<16)(s:Nat)(hs:s<16)(h0:s≠0)(h1:s&&&e=s):(nxB e s=0/\∀t,t<16->t&&&e=t->t<=s)\/(s<nxB e s/\nxB e s<16/\nxB e s&&&e=nxB e s/\∀t,t<16->t&&&e=t->s<t->nxB e s<=t):=by
 have h:=List.all_eq_true.1 (List.all_eq_true.1 ybij e (List.mem_range.2 he)) s (List.mem_range.2 hs);rw[zW,zW,zW]at h;rcases h with((h|h)|h)|h
 .exact absurd (beq_iff_eq.1 h) h0
 .rw[zAI,beq_eq_false_iff_ne]at h;exact absurd h1 h
 .rw[zU,beq_iff_eq]at h;refine .inl ⟨h.1,fun t ht h2=>?_⟩;have:=List.all_eq_true.1 h.2 t (List.mem_range.2 ht);rw[zW,zAI,beq_eq_false_iff_ne]at this;exact this.elim (fun q=>absurd h2 q) zQ
 .rw[zU,zU,zU,beq_iff_eq]at h;obtain⟨⟨⟨a,b⟩,c⟩,d⟩:=h;have a:s+1<=nxB e s:=zQ a;have b:nxB e s+1<=16:=zQ b;refine .inr ⟨a,b,c,fun t ht h2 h3=>?_⟩;have:=List.all_eq_true.1 d t (List.mem_range.2 ht);rw[zW,zW,zAI,beq_eq_false_iff_ne]at this;rcases this with(q|q)|q
  .exact absurd h2 q
  .have:=zQ q;omega
  .exact zQ q
theorem ykd{perm:Nat->Bool}{e n:Nat}:∀d,(∀t,n<=t->t<n+d->¬(t≠0/\t&&&e=t))->chTo perm e (n+d)=chTo perm e n
 |0,_=>rfl
 | d+1,h=>by
   have ih:=ykd (perm:=perm) d fun t h1 h2=>h t h1 (by omega)
   rw[<-ih,<-Nat.add_assoc];unfold chTo;rw[zAD,zM];have:=h (n+d) (by omega) (by omega)
   simp only[zAA,decide_eq_false this,Bool.false_and,Bool.false_eq_true,if_false,zAT,zV]
theorem ybzl{perm:Nat->Bool}{e s:Nat}(h:s≠0/\s&&&e=s):chTo perm e (s+1)=chTo perm e s++if perm s=true then[s]else[]:=by
 unfold chTo;rw[zAD,zM];congr 1;cases hp:perm s<;>simp only[zAA,decide_eq_true h,hp,Bool.true_and,zAT]<;>rfl
theorem ybkk{perm:Nat->Bool}{e l:Nat}(h:∀t,t<l->¬(t≠0/\t&&&e=t)):chTo perm e l=[]:=by
 have:=ykd (perm:=perm) (n:=0) l fun t _ h2=>h t (by omega)
 rw[Nat.zero_add]at this;exact this
theorem ybna{perm:Nat->Bool}{e n s:Nat}(h:s∈chTo perm e n):s<n/\s≠0/\s&&&e=s/\perm s=true:=by
 unfold chTo at h;rw[zAE,zAG,zU,decide_eq_true_iff]at h;exact⟨h.1,h.2.1.1,h.2.1.2,h.2.2⟩
theorem ybfw(perm:Nat->Bool)(e n:Nat):(chTo perm e n).Pairwise (· < ·):=List.Pairwise.filter _ List.pairwise_lt_range
theorem yyu(perm:Nat->Bool)(e n:Nat):(chTo perm e n).length<=n:=by
 have:=zAB (fun s=>decide (s≠0/\s&&&e=s)&&perm s) (zK n);unfold chTo
 simpa using this
theorem ybmq(perm:Nat->Bool):chP perm 0=[]:=by
 unfold chP;refine ybkk fun t _ h=>h.1 ?_;rw[<-h.2,Nat.and_zero]
theorem ydpa{perm:Nat->Bool}{e:Nat}(he:e<16)(h0:e≠0)(hp:perm ((4294967296-e)&&&e)=true):chP perm e≠[]:=fun h=>by
 obtain⟨h1,h2,h3,_⟩:=ybbi e he h0
 have:((4294967296-e)&&&e)∈chP perm e:=by
  unfold chP chTo;rw[zAE,zAG,zU,decide_eq_true_iff];exact⟨h2,⟨h1,h3⟩,hp⟩
 rw[h]at this;cases this
theorem ydfs{a b:Nat}(ha:a<2^32)(hb:b<2^32):IntKind.wrap .u32 ((a:Int)-(b:Int))=(((a+4294967296-b)%4294967296:Nat):Int):=by
 unfold IntKind.wrap;simp[IntKind.bits,IntKind.signed];omega
namespace Sh
open Ev Go.RowKit
def usO(F:Nat)(L:List Nat):Nat×Fam:=(F,.one (some ⟨77,false,1,L.length,fun i=>[.i .u32 ((L.getD i 0:Nat):Int)]⟩))
theorem ydfn(L:List Nat)(x:Nat){i:Nat}(hi:i<L.length+1):(if i<L.length then[SV.i .u32 ((L.getD i 0:Nat):Int)]else zAV 1 (zAW ((i-L.length)*1) [SV.i .u32 (x:Int)]))=[SV.i .u32 (((L++[x]).getD i 0:Nat):Int)]:=by
 by_cases q:i<L.length
 .rw[if_pos q];simp[zX,zN q]
 .obtain rfl:i=L.length:=by omega
  rw[if_neg q,zAK];simp[zX]
set_option maxHeartbeats 1000000 in
theorem ybhh{net:List Nat}{kind:Int}(hkd:kind=2\/kind=3){e:Nat}(he:e<16){perm:Nat->Bool}(hperm:∀s,s≠0->s<16->s&&&e=s->Returns zG 171 [usV net,.i .i64 kind,.i .u32 (e:Nat),.i .u32 (s:Nat)] (.b (perm s))) :
 Returns zG 128 [usV net,.i .i64 kind,.i .u32 (e:Nat)] (.tp [usV (chP perm e),.i .i64 0]):=by
 refine Returns.of (ydig _ _ ?_)
 by_cases h0:e=0
 .subst h0;rw[ybmq];simp only[c128,ybuq,ybru,yczb,usV,clash,zD,go_sem,zA,zB,↓reduceIte,reduceCtorEq];exact yxg ⟨ybhl,Sim.refl _,trivial⟩
 .have z0 : ((e:Int)==0)=false:=by rw[beq_eq_false_iff_ne];omega
  have k1:(kind==1)=false:=by rw[beq_eq_false_iff_ne];omega
  have k4:(kind==4)=false:=by rw[beq_eq_false_iff_ne];omega
  have hO:=ybmz (s:=e) (by omega)
  have hp4:popP e<=10:=(by decide +kernel:∀e,e<16->popP e<=10) e he
  have d1:decide (((popP e:Nat):Int)>10)=false:=by simp;omega
  have a1:=u32_neg (a:=e) (by omega) (by omega)
  have a2:=u32_and (a:=2^32-e) (b:=e) (by omega) (by omega)
  simp only[IntKind.bits]at a2;obtain⟨l1,l2,l3,l4⟩:=ybbi e he h0
  change ((4294967296-e)&&&e)≠0 at l1
  obtain⟨l,hl⟩:∃l,(4294967296-e)&&&e=l:=⟨_,rfl⟩;have hl':(2^32-e)&&&e=l:=hl;rw[hl]at l1 l2 l3 l4;rw[hl']at a2;simp only[c128,ybuq,ybru,ycmw,ycly,ycpi,ybxt,ybww,usV,z0,k1,k4,clash,go_sem,zA,zB,zC,↓reduceIte,reduceCtorEq];refine hO.use ?_;simp only[ybg,ybyn,d1,a1,a2,IntKind.signed,clash,go_sem,zA,zB,↓reduceIte,reduceCtorEq]
  refine ybd (σ:=Nat×List Nat) (fun y=>⟨[(10,.i .u32 (y.1:Nat)),(8,.pt (8,0) 0 0),(0,usV net),(1,.i .i64 kind),(2,.i .u32 (e:Nat))],[(8,.one (some ⟨38,true,1,1,fun _=>[.os (70,0) 0 y.2.length true]⟩)),usO 70 y.2]⟩)
   (fun y=>(y.1=0/\y.2=chP perm e)\/(y.1≠0/\y.1<16/\y.1&&&e=y.1/\y.2=chTo perm e y.1)) (fun y=>if y.1=0 then 0 else 16-y.1) (l,[]) (.inr ⟨l1,l2,l3,(ybkk fun t ht h=>by have:=l4 t (by omega) h.1 h.2;omega).symm⟩) ?_ ?_
  .refine yh [] [70] [] ?_;simp only[usV,usO,allQ,live,yc,go_sem,zA,zC,zAX,↓reduceIte,reduceCtorEq];exact fun i _=>⟨(70,0),rfl,rfl,rfl⟩
  .rintro⟨s,L⟩ hinv;simp only at hinv;rcases hinv with⟨rfl,rfl⟩|⟨h1,h2,h3,rfl⟩
   .simp only[ybhk,ybvf,usV,usO,zD,zY,clash,go_sem,zA,zB,↓reduceIte,reduceCtorEq];exact Sim.refl _
   .simp only at h1 h2 h3 ⊢;have d2:((s:Int)!=0)=true:=by rw[bne_iff_ne];omega
    have b1:=ydfs (a:=s) (b:=e) (by omega) (by omega)
    have b2:=u32_and (a:=(s+4294967296-e)%4294967296) (b:=e) (by omega) (by omega)
    change _=((nxB e s:Nat):Int)at b2
    simp only[IntKind.bits]at b2;have hP:=hperm s h1 h2 h3;have hsn:=ybzl (perm:=perm) ⟨h1,h3⟩;have hcl:=yyu perm e s
    have hnx:∀L,L=chTo perm e (s+1)->((nxB e s=0/\L=chP perm e)\/(nxB e s≠0/\nxB e s<16/\nxB e s&&&e=nxB e s/\L=chTo perm e (nxB e s)))/\(if nxB e s=0 then 0 else 16-nxB e s)<(if s=0 then 0 else 16-s):=fun L hL=>by
     subst hL;rw[if_neg h1];rcases yboh e he s h2 h1 h3 with⟨n1,n2⟩|⟨n1,n2,n3,n4⟩
     .refine⟨.inl ⟨n1,?_⟩,by rw[if_pos n1];omega⟩
      have:=ykd (perm:=perm) (e:=e) (n:=s+1) (16-(s+1)) fun t h1 h2 h=>by have:=n2 t (by omega) h.2;omega
      rw[show s+1+(16-(s+1))=16 by omega]at this
      exact this.symm
     .refine⟨.inr ⟨by omega,n2,n3,?_⟩,by rw[if_neg (by omega)];omega⟩
      have:=ykd (perm:=perm) (e:=e) (n:=s+1) (nxB e s-(s+1)) fun t h1 h2 h=>by have:=n4 t (by omega) h.2 (by omega);omega
      rw[show s+1+(nxB e s-(s+1))=nxB e s by omega]at this
      exact this.symm
    obtain⟨L,hL⟩:∃L,chTo perm e s=L:=⟨_,rfl⟩;obtain⟨L',hL'⟩:∃L,chTo perm e (s+1)=L:=⟨_,rfl⟩;rw[hL]at hcl hsn;rw[hL']at hsn hnx;simp only[usV]at hP;simp only[ybhk,yccn,usV,usO,d2,hL,clash,go_sem,zA,zB,↓reduceIte,reduceCtorEq];refine hP.use ?_;cases hp:perm s with
    | true =>
      rw[hp,if_pos rfl]at hsn;simp only[ybg,ybid,ybvm,b1,b2,clash,go_sem,zA,zB,zJ,zC,↓reduceIte,reduceCtorEq]
      repeat refine zH (by first|omega|decide|exact ikw (by omega) (by omega)) ?_
      refine yj (nxB e s,L') (hnx _ rfl).1 (hnx _ rfl).2 ?_;refine yh [(70,fun i=>(51,i))] [] [] ?_;simp only[hsn,zF,allQ,live,yc,go_sem,zA,zC,↓reduceIte,reduceCtorEq];exact fun i hi=>yfi (ydfn L s hi)
    | false =>
      rw[hp,if_neg (by decide),zV]at hsn
      simp only[ybg,ybid,b1,b2,clash,go_sem,zA,zB,↓reduceIte,reduceCtorEq]
      repeat refine zH (by first|omega|decide|exact ikw (by omega) (by omega)) ?_
      refine yj (nxB e s,L') (hnx _ rfl).1 (hnx _ rfl).2 ?_;refine yh [] [] [] ?_;simp only[hsn,allQ,live,yc,go_sem,zA,zC,↓reduceIte,reduceCtorEq]
theorem yblm{s e:Nat}(h:s&&&e=s):difB s e=0:=by
 unfold difB;rw[h,Nat.xor_self]
end Sh
end
end Go.Proofs.YthclbjjgfcgbgaaGreatDoor
