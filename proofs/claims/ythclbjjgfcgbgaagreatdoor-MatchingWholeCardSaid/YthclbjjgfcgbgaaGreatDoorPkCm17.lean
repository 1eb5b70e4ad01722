/- Joined. -/
import Derived.Test.YthclbjjgfcgbgaaGreatDoorPkCm16
set_option linter.unusedSimpArgs false
set_option linter.unusedVariables false
set_option maxRecDepth 8000
open Nat renaming reduceEqDiff->zA,reduceAdd->zB,reduceLT->zC,reduceLeDiff->zD,zero_le->zK,le_of_ble_eq_true->zN,reduceBEq->zAF,sub_self->zAH,le_refl->zAM,ble_eq_true_of_le->zAO,blt->zAW,mul_one->zBA,div_eq_of_lt->zBD,mul_add_div->zBI,two_pow_pos->zBJ,reduceSub->zBK,lt_or_ge->zBM,mul_comm->zBP,ble->zBQ
open And renaming intro->zF
open Int renaming natCast_zero->zG,lt_irrefl->zJ,reduceBNe->zU
open Go.Proofs.Tryz renaming prog->zH,func133->zBN,func134->zBO
open List renaming length_append->zI,getElem?_append_left->zM,range->zO,getD->zQ,take_length->zS,filter_append->zV,append_nil->zW,getElem_mem->zY,getElem?_eq_getElem->zZ,take_succ_eq_append_getElem->zAA,filter_cons->zAB,length_filter_le->zAC,range_succ->zAD,take_zero->zAE,pairwise_singleton->zAI,map_append->zAJ,length_map->zAK,mem_filter->zAL,mem_range->zAN,getElem_of_mem->zAR,append_toArray->zAS,map_nil->zAT,take->zAU,drop->zAV,count_append->zAX,size_toArray->zAY,push_toArray->zAZ,length_cons->zBB,cons_append->zBC,filter_nil->zBE,length_nil->zBF,nil_append->zBG,headD_cons->zBH
open Go.Lib renaming hid->zL
open Bool renaming and_eq_true->zT,or_eq_true->zX,not_eq_true'->zAG
open Array renaming replicate_succ->zAP,replicate_zero->zAQ
open Classical renaming byContradiction->zBL
open Go
namespace Go.Proofs.YthclbjjgfcgbgaaGreatDoor
section
theorem ykq{α:Type}{l:List α}{k:Nat}{d:α}(h:k<l.length):l.getD k d=l[k]:=by simp[zQ,h]
structure Spc where
 N:Nat
 en:Nat->Nat
 arcs:Nat->List (Nat×Nat)
def ybjb(l:List (Nat×Nat))(i:Nat):Nat:=if i=0 then 0 else(l.getD (i-1) (0,0)).1
def sumA(S:Spc):Nat->Nat
 |0=>0
 |k+1=>sumA S k+(S.arcs k).length
structure Spc.ok(S:Spc):Prop where
 pos:0<S.N
 le:S.N<=32768
 lt:∀k,k<S.N->S.en k<2^24
 ne:∀k,k<S.N->(S.en k=0↔(S.arcs k).length=0)
 sub:∀k,k<S.N->∀i,i<(S.arcs k).length->((S.arcs k).getD i (0,0)).1<2^24/\difB ((S.arcs k).getD i (0,0)).1 (S.en k)=0
 asc:∀k,k<S.N->∀i,i<(S.arcs k).length->ybjb (S.arcs k) i<((S.arcs k).getD i (0,0)).1
 to:∀k,k<S.N->∀i,i<(S.arcs k).length->((S.arcs k).getD i (0,0)).2<S.N
 tot:sumA S S.N<=262144
theorem ykk(S:Spc):∀{n k:Nat},k<=n->sumA S k<=sumA S n
 |0,k,h=>by rw[Nat.le_zero.1 h];exact zAM _
 | n + 1,k,h=>by
   rcases zBM k (n+1)with q|q
   .have:=ykk S (n:=n) (k:=k) (by omega)
    show _<=sumA S n+_;omega
   .rw[show k=n+1 by omega];exact zAM _
theorem Spc.ok.len{S:Spc}(h:S.ok){k:Nat}(hk:k<S.N):(S.arcs k).length<=262144:=by
 have h1:=ykk S (n:=S.N) (k:=k+1) (by omega)
 have h2:=h.tot;have:sumA S (k+1)=sumA S k+(S.arcs k).length:=rfl;omega
theorem Spc.ok.mem{S:Spc}(h:S.ok){k:Nat}(hk:k<S.N){a:Nat×Nat}(ha:a∈S.arcs k):a.2<S.N:=by
 obtain⟨i,hi,rfl⟩:=zAR ha;have:=h.to k hk i hi
 rwa [ykq hi]at this
def ygb(S:Spc)(k i:Nat):List (Nat×Nat):=(zO k).flatMap (fun q=>(S.arcs q).map fun a=>(q,a.2))++((S.arcs k).take i).map fun a=>(k,a.2)
def ygn(S:Spc)(k i j:Nat):List Nat:=((ygb S k i).filter fun p=>p.2==j).map (·.1)
theorem yqt(S:Spc)(k:Nat):ygb S k (S.arcs k).length=ygb S (k+1) 0:=by
 unfold ygb;rw[zS,zAD,List.flatMap_append];simp
theorem ywq(S:Spc)(k j:Nat):ygn S k (S.arcs k).length j=ygn S (k+1) 0 j:=by unfold ygn;rw[yqt]
theorem yxs(S:Spc)(j:Nat):ygn S 0 0 j=[]:=rfl
theorem ybbt(S:Spc){k i:Nat}(hi:i<(S.arcs k).length):ygb S k (i+1)=ygb S k i++[(k,((S.arcs k).getD i (0,0)).2)]:=by
 unfold ygb;rw[zAA hi,zAJ,<-List.append_assoc,ykq hi];rfl
theorem ybqp(S:Spc){k i:Nat}(hi:i<(S.arcs k).length)(j:Nat):ygn S k (i+1) j=if j=((S.arcs k).getD i (0,0)).2 then ygn S k i j++[k]else ygn S k i j:=by
 unfold ygn;rw[ybbt S hi,zV,zAJ]
 by_cases q:j=((S.arcs k).getD i (0,0)).2
 .rw[if_pos q];have:((k,((S.arcs k).getD i (0,0)).2).2==j)=true:=by rw[q];exact beq_self_eq_true _
  rw[zAB,this];rfl
 .rw[if_neg q];have:((k,((S.arcs k).getD i (0,0)).2).2==j)=false:=by rw[beq_eq_false_iff_ne];exact Ne.symm q
  rw[zAB,this];simp
theorem ymt(S:Spc):∀k,(ygb S k 0).length=sumA S k
 |0=>rfl
 | k+1=>by
   rw[<-yqt];have ih:=ymt S k;unfold ygb at ih ⊢;simp only[zAE,zAT,zW]at ih;rw[zI,ih,zS,zAK];rfl
theorem ytr{S:Spc}(h:S.ok){k i:Nat}(hk:k<=S.N)(hi:k<S.N->i<=(S.arcs k).length)(hi0:k=S.N->i=0)(j:Nat):(ygn S k i j).length<=262144:=by
 have h1:(ygb S k i).length<=262144:=by
  rcases zBM k S.N with q|q
  .have h2:=ykk S (n:=S.N) (k:=k+1) (by omega)
   have h3:=h.tot;have h4:=ymt S k;unfold ygb at h4 ⊢;simp only[zAE,zAT,zW]at h4;rw[zI,h4,zAK,List.length_take];have:sumA S (k+1)=sumA S k+(S.arcs k).length:=rfl;omega
  .rw[hi0 (by omega),ymt,show k=S.N by omega];exact h.tot
 unfold ygn;rw[zAK];exact Nat.le_trans (zAC _ _) h1
theorem yciu{S:Spc}{k i j:Nat}(hk:k<S.N\/i=0/\k<=S.N):∀x∈ygn S k i j,x<S.N:=fun x hx=>by
 unfold ygn at hx;obtain⟨p,hp,rfl⟩:=List.mem_map.1 hx;have hp:=(List.mem_filter.1 hp).1;unfold ygb at hp;rcases List.mem_append.1 hp with q|q
 .obtain⟨y,hy,q⟩:=List.mem_flatMap.1 q;obtain⟨a,_,rfl⟩:=List.mem_map.1 q;have:=List.mem_range.1 hy;show y<S.N;omega
 .obtain⟨a,ha,rfl⟩:=List.mem_map.1 q;rcases hk with h|⟨h,_⟩
  .exact h
  .rw[h]at ha;simp at ha
def srcS(S:Spc)(j:Nat):List Nat:=ygn S S.N 0 j
theorem ybdl{S:Spc}{k:Nat}(j:Nat):∀n,(ygn S n 0 j).count k=if k<n then(S.arcs k).countP (fun a=>a.2==j)else 0
 |0=>by simp[yxs]
 | n + 1=>by
   have ih:=ybdl (S:=S) (k:=k) j n
   have e:ygn S (n+1) 0 j=ygn S n 0 j++((S.arcs n).filter fun a=>a.2==j).map fun _=>n:=by
    rw[<-ywq];unfold ygn ygb;simp only[zS,zAE,zAT,zW,zV,zAJ,List.filter_map,List.map_map];rfl
   rw[e,zAX,ih]
   by_cases q:k=n
   .subst q;rw[if_neg (by omega),if_pos (by omega),List.map_const',List.count_replicate_self,<-List.countP_eq_length_filter]
    omega
   .rw[List.count_eq_zero.2 (fun hm=>q (by obtain⟨_,_,rfl⟩:=List.mem_map.1 hm;rfl))]
    by_cases q2:k<n
    .rw[if_pos q2,if_pos (by omega)];omega
    .rw[if_neg q2,if_neg (by omega)]
structure OrdI(S:Spc)(lg:Nat->Bool)(L:List Nat)(i j:Nat)(E:Nat->Nat):Prop where
 nd:L.Nodup
 lt:∀x∈L,x<S.N
 set:∀k,k<S.N->lg k=true->k∈L
 hi:i<=L.length
 cnt:∀k,k<S.N->E k=yrs (S.arcs k) (L.take i)+(if i<L.length then((srcS S (L.getD i 0)).take j).count k else 0)
 inn:∀k,k<S.N->lg k=false->(k∈L↔0<(S.arcs k).length/\E k=(S.arcs k).length)
section
variable {S:Spc}{lg:Nat->Bool}{L:List Nat}{i j:Nat}{E:Nat->Nat}
theorem OrdI.start(hnd:L.Nodup)(hlt:∀x∈L,x<S.N)(hset:∀k,k<S.N->(k∈L↔lg k=true)):OrdI S lg L 0 0 fun _=>0 :=
 ⟨hnd,hlt,fun k hk h=>(hset k hk).2 h,zK _,fun k hk=>by rw[zAE,ybuc];simp,fun k hk h=>⟨fun hm=>(by rw[(hset k hk).1 hm]at h;cases h),fun q=>by omega⟩⟩
theorem ygm{α:Type}{l:List α}{i:Nat}(d:α)(hi:i<l.length):l.take (i+1)=l.take i++[l.getD i d]:=by
 rw[zAA hi,ykq hi]
theorem OrdI.cnt_le(h:OrdI S lg L i j E)(hi:i<L.length){k:Nat}(hk:k<S.N):yrs (S.arcs k) (L.take i)+(srcS S (L.getD i 0)).count k=yrs (S.arcs k) (L.take (i+1)):=by
 rw[ygm 0 hi,ybos]
 .unfold srcS;rw[ybdl,if_pos hk]
 .intro hm;have:=h.nd;rw[<-List.take_append_drop (i+1) L,ygm 0 hi]at this;have h2:=(List.nodup_append.1 (List.nodup_append.1 this).1).2.2;exact h2 _ hm _ (List.mem_singleton.2 rfl) rfl
theorem ychc(l:List (Nat×Nat))(A:List Nat):yrs l A<=l.length:=List.countP_le_length
theorem ykf{l:List Nat}{j:Nat}(hj:j<l.length)(k:Nat):(l.take (j+1)).count k=(l.take j).count k+if l.getD j 0=k then 1 else 0:=by
 rw[ygm 0 hj,zAX,List.count_singleton];simp
theorem OrdI.step(h:OrdI S lg L i j E)(hi:i<L.length)(hj:j<(srcS S (L.getD i 0)).length){k:Nat}(hk:(srcS S (L.getD i 0)).getD j 0=k)(hkN:k<S.N) :
 E k<(S.arcs k).length/\(let E':=fun q=>if q=k then E k+1 else E q
 OrdI S lg (if lg k=false/\E k+1=(S.arcs k).length then L++[k]else L) i (j+1) E'):=by
 have hlt:E k<(S.arcs k).length:=by
  have h1:=h.cnt k hkN;rw[if_pos hi]at h1;have h2:=h.cnt_le hi hkN;have h3:=ychc (S.arcs k) (L.take (i+1));have h4:=ykf hj k;rw[if_pos hk]at h4;have h5:((srcS S (L.getD i 0)).take (j+1)).count k<=(srcS S (L.getD i 0)).count k:=(List.take_sublist _ _).count_le _;omega
 refine⟨hlt,?_⟩
 have hcnt:∀q,q<S.N->(if q=k then E k+1 else E q)=yrs (S.arcs q) (L.take i)+((srcS S (L.getD i 0)).take (j+1)).count q:=fun q hq=>by
  have h1:=h.cnt q hq;rw[if_pos hi]at h1;rw[ykf hj q,hk]
  by_cases e:q=k
  .subst e;rw[if_pos rfl,if_pos rfl];omega
  .rw[if_neg e,if_neg (Ne.symm e)];omega
 by_cases q:lg k=false/\E k+1=(S.arcs k).length
 .simp only[if_pos q]
  have hno:k∉L:=fun hm=>by
   have:=((h.inn k hkN q.1).1 hm).2;omega
  refine⟨?_,fun x hx=>?_,fun x hx hl=>List.mem_append_left _ (h.set x hx hl),by rw[zI];have:=h.hi;omega,fun x hx=>?_,fun x hx hl=>?_⟩
  .exact List.nodup_append.2 ⟨h.nd,zAI _ _,fun a ha b hb=>by rw[List.mem_singleton.1 hb];rintro rfl;exact hno ha⟩
  .rcases List.mem_append.1 hx with r|r
   .exact h.lt x r
   .rw[List.mem_singleton.1 r];exact hkN
  .have e1:(L++[k]).take i=L.take i:=List.take_append_of_le_length h.hi
   have e2:(L++[k]).getD i 0=L.getD i 0:=by
    simp only[zQ,zM hi]
   have hl:i<(L++[k]).length:=by rw[zI];omega
   rw[e1,e2,if_pos hl];exact hcnt x hx
  .by_cases e:x=k
   .subst e;rw[if_pos rfl];exact⟨fun _=>⟨by omega,q.2⟩,fun _=>List.mem_append_right _ (List.mem_singleton.2 rfl)⟩
   .rw[if_neg e];refine Iff.trans ?_ (h.inn x hx hl);rw[List.mem_append,List.mem_singleton];exact⟨fun r=>r.resolve_right e,.inl⟩
 .simp only[if_neg q];refine⟨h.nd,h.lt,h.set,h.hi,fun x hx=>by rw[if_pos hi];exact hcnt x hx,fun x hx hl=>?_⟩
  by_cases e:x=k
  .subst e;rw[if_pos rfl];exact⟨fun hm=>absurd ((h.inn x hx hl).1 hm).2 (by omega),fun r=>absurd ⟨hl,r.2⟩ q⟩
  .rw[if_neg e];exact h.inn x hx hl
theorem OrdI.next(h:OrdI S lg L i j E)(hi:i<L.length)(hj:j=(srcS S (L.getD i 0)).length):OrdI S lg L (i+1) 0 E :=
 ⟨h.nd,h.lt,h.set,hi,fun k hk=>by
   have h1:=h.cnt k hk;rw[if_pos hi,hj,zS]at h1;rw[h1,h.cnt_le hi hk];simp,h.inn⟩
theorem OrdI.all(h:OrdI S lg L L.length j E)(hto:∀k,k<S.N->∀a∈S.arcs k,a.2<S.N)(hne:∀k,k<S.N->lg k=false->S.arcs k≠[])(hcyc:∀f m,Back S.N S.arcs f m->False):∀k,k<S.N->k∈L:=by
 refine ydgz h.set (fun k hk hl hn ha=>(h.inn k hk hl).2 ⟨List.length_pos_iff.2 hn,?_⟩) hto hne hcyc;have h1:=h.cnt k hk;rw[if_neg (by omega),zS]at h1
 rw[h1,ybxv.2 ha];rfl
theorem OrdI.len(h:OrdI S lg L i j E):L.length<=S.N:=by
 have:=yhl (l2:=zO S.N) h.nd fun x hx=>List.mem_range.2 (h.lt x hx)
 simpa using this
end
end
section
namespace Sh
open Ev Go.RowKit
def ybk(l:List (Nat×Nat)):SV:=.sl 2 l.length (fun i=>[.i .u32 ((l.getD i (0,0)).1:Nat),.i .i64 ((l.getD i (0,0)).2:Nat)])
def spcC(S:Spc):List SV:=[.sl 1 S.N (fun k=>[.i .u32 (S.en k:Nat)]),.sl 1 S.N (fun k=>[ybk (S.arcs k)])]
def yba(n:Nat)(f:Nat->Bool):SV:=.sl 1 n (fun k=>[.b (f k)])
theorem dec_lt{a b:Nat}(h:a<b):decide ((a:Int)<(b:Int))=true:=by simp;omega
theorem ybpk{e n:Nat}{l:List (Nat×Nat)}(he:e<2^24)(hne:e=0↔l.length=0)(hll:l.length<=262144)(hsub:∀i,i<l.length->(l.getD i (0,0)).1<2^24/\difB (l.getD i (0,0)).1 e=0)(hasc:∀i,i<l.length->ybjb l i<(l.getD i (0,0)).1)(hto:∀i,i<l.length->(l.getD i (0,0)).2<n) :
 Returns zH 180 [.i .u32 (e:Nat),ybk l,.i .i64 (n:Nat)] (.b true):=by
 refine Returns.of (ydcq _ _ ?_);obtain⟨m,hm⟩:∃m,l.length=m:=⟨_,rfl⟩;have s0:e>>>24=0:=by rw[Nat.shiftRight_eq_div_pow];omega
 have f0:((((e>>>24:Nat):Int))!=0)=false:=by rw[s0];rfl
 have f1:(((e:Int)!=0)!=decide ((m:Int)>0))=false:=by
  rw[hm]at hne
  by_cases q:e=0
  .have:=hne.1 q;subst q;subst this;rfl
  .have q2:m≠0:=fun r=>q (hne.2 r);have a1:((e:Int)!=0)=true:=by rw[bne_iff_ne];omega
   have a2:decide ((m:Int)>0)=true:=by simp;omega
   rw[a1,a2];rfl
 simp only[c180,ycyy,yctl,ycpf,ycpo,ybk,hm,ybzc,f0,f1,go_sem,Int.reduceToNat,zA,zB,↓reduceIte,reduceCtorEq];refine⟨by decide,?_⟩
 refine ybf (σ:=Nat) (fun k=>⟨[(23,.i .i64 k),(22,.i .i64 m),(21,.sl 2 m (fun i=>[.i .u32 ((l.getD i (0,0)).1:Nat),.i .i64 ((l.getD i (0,0)).2:Nat)])),(0,.i .u32 (e:Nat)),(2,.i .i64 (n:Nat)),(7,.i .u32 (ybjb l k:Nat))],[]⟩)
  (fun k=>k<=m) (fun k=>m-k) 0 (zK _) ?_ ?_
 .refine yh [] [] [] ?_;simp only[ybjb,allQ,live,yc,zG,go_sem,zA,↓reduceIte,reduceCtorEq]
 .intro k hk
  by_cases hlt:k<m
  .obtain⟨h1,h2⟩:=hsub k (by omega)
   have h3:=hasc k (by omega)
   have h4:=hto k (by omega)
   have hp:ybjb l (k+1)=(l.getD k (0,0)).1:=rfl;obtain⟨⟨a,t⟩,hat⟩:∃p,l.getD k (0,0)=p:=⟨_,rfl⟩;rw[hat]at h1 h2 h3 h4 hp;simp only at h1 h2 h3 h4 hp;have d1:=dec_lt hlt;have d2:decide ((a:Int)<=(ybjb l k:Int))=false:=by simp;omega
   have d3:=u32_andNot (a:=a) (b:=e) (by omega) (by omega)
   rw[h2]at d3;simp only[IntKind.bits]at d3;have d4:decide ((t:Int)<0)=false:=by simp
   have d5:decide ((t:Int)>=(n:Int))=false:=by simp;omega
   have d6:((((0:Nat):Int))!=0)=false:=rfl;simp only[ycea,yczn,ycza,yctq,ycwy,ycax,ybhr,hat,d1,d2,d3,d4,d5,d6,splice,go_sem,zA,zB,zD,zC,↓reduceIte,reduceCtorEq];refine⟨⟨by omega,by omega⟩,ikw (by omega) (by omega),?_⟩
   refine yj (k+1) (by omega) (by omega) ?_
   refine yh [] [] [] ?_;simp only[hp,allQ,live,yc,yx,go_sem,zA,↓reduceIte,reduceCtorEq];omega
  .obtain rfl:k=m:=by omega
   simp only[ycea,ybhr,zJ,yvd,go_sem,zA,↓reduceIte]
def spcO(S:Spc):Fam:=.one (some ⟨41,true,2,1,fun _=>spcC S⟩)
theorem ybrk{S:Spc}(h:S.ok):Returns zH 136 [.ag (spcC S)] (.b true):=by
 refine Returns.of (ydek _ _ ?_);have hp:=h.pos;have hle:=h.le;have f1:decide ((S.N:Int)<1)=false:=by simp;omega
 have f2:decide ((S.N:Int)>32768)=false:=by simp;omega
 have f3:((S.N:Int)!=(S.N:Int))=false:=by simp
 simp only[c136,ydax,ycsl,yczo,yctr,ycqo,spcC,ybk,f1,f2,f3,go_sem,zA,zB,zD,zC,↓reduceIte,reduceCtorEq];refine ybf (σ:=Nat) (fun k=>⟨[(23,.i .i64 k),(22,.i .i64 (S.N:Nat)),(3,.i .i64 (S.N:Nat)),(4,.i .i64 (sumA S k:Nat)),(1,.pt (1,0) 0 0)],[(1,spcO S)]⟩) (fun k=>k<=S.N) (fun k=>S.N-k) 0 (zK _) ?_ ?_
 .refine yh [] [] [] ?_;simp only[spcO,spcC,ybk,sumA,allQ,live,yc,zG,go_sem,zA,zC,↓reduceIte,reduceCtorEq]
 .intro k hk
  by_cases hlt:k<S.N
  .have hv:=ybpk (h.lt k hlt) (h.ne k hlt) (h.len hlt) (h.sub k hlt) (h.asc k hlt) (h.to k hlt);simp only[ybk]at hv;have d1:=dec_lt hlt;have hs:((sumA S k:Nat):Int)+((S.arcs k).length:Nat)=((sumA S (k+1):Nat):Int):=by show _=((sumA S k+(S.arcs k).length:Nat):Int);omega
   have hm:=ykk S (n:=S.N) (k:=k+1) (by omega)
   have ht:=h.tot;have d2:decide (((sumA S (k+1):Nat):Int)>262144)=false:=by simp;omega
   simp only[ybtk,ycox,ycnv,ycxi,ycev,spcO,spcC,ybk,d1,d2,hs,clash,go_sem,zA,zB,zD,↓reduceIte,reduceCtorEq];refine⟨by omega,ikw (by omega) (by omega),by omega,by omega,hv.use ?_⟩
   simp only[ybh,clash,go_sem,zA,zB,↓reduceIte,reduceCtorEq]
   try refine⟨by decide,?_⟩
   refine⟨ikw (by omega) (by omega),?_⟩
   refine yj (k+1) (by omega) (by omega) ?_
   refine yh [] [] [] ?_;simp only[allQ,live,yc,yx,go_sem,zA,zC,↓reduceIte,reduceCtorEq];omega
  .obtain rfl:k=S.N:=by omega
   simp only[ybtk,ybxl,zJ,yvd,go_sem,zA,↓reduceIte]
theorem yoz{S:Spc}(h:S.ok)(lg:Nat->Bool):Returns zH 73 [.ag (spcC S),yba S.N lg] (.i .i64 0):=by
 refine Returns.of (ydnx _ _ ?_);have hv:=ybrk h;have f3:((S.N:Int)!=(S.N:Int))=false:=by simp
 simp only[spcC,ybk]at hv;simp only[c73,ydsc,ydma,spcC,ybk,yba,clash,go_sem,zA,zB,zC,↓reduceIte];refine hv.use ?_;simp only[ybh,ydzh,ydva,clash,f3,go_sem,zA,zB,zD,↓reduceIte,reduceCtorEq];exact Sim.refl _
theorem ybpz{S:Spc}(h:S.ok){lg:Nat->Bool}(hl:∀k,k<S.N->lg k=true->(S.arcs k).length=0):Returns zH 18 [.ag (spcC S),yba S.N lg] (.tp [.b true,.i .i64 0]):=by
 refine Returns.of (ydyh _ _ ?_);have hv:=yoz h lg;have hle:=h.le;simp only[spcC,ybk,yba]at hv;simp only[c18,ydmt,ydvu,spcC,ybk,yba,clash,go_sem,zA,zB,zC,↓reduceIte,reduceCtorEq];refine hv.use ?_;simp only[ybh,ydyr,ydyn,clash,zU,go_sem,zA,zB,↓reduceIte,reduceCtorEq];refine ybf (σ:=Nat) (fun k=>⟨[(20,.i .i64 k),(19,.i .i64 (S.N:Nat)),(18,.sl 1 S.N fun k=>[ybk (S.arcs k)]),(1,yba S.N lg)],[]⟩) (fun k=>k<=S.N) (fun k=>S.N-k) 0 (zK _) ?_ ?_
 .refine yh [] [] [] ?_;simp only[ybk,yba,allQ,live,yc,zG,go_sem,zA,↓reduceIte,reduceCtorEq]
 .intro k hk
  by_cases hlt:k<S.N
  .have d1:=dec_lt hlt;cases hq:lg k with
   | false =>
     simp only[ycgx,ydim,ydbw,ycaa,ybk,yba,d1,hq,clash,go_sem,zA,zB,↓reduceIte,reduceCtorEq];refine⟨⟨by omega,by omega⟩,⟨by omega,by omega⟩,ikw (by omega) (by omega),?_⟩
     refine yj (k+1) (by omega) (by omega) ?_
     refine yh [] [] [] ?_;simp only[allQ,live,yc,yx,go_sem,zA,↓reduceIte,reduceCtorEq];omega
   | true =>
     have h0:=hl k hlt hq;simp only[ycgx,ydim,ydbw,ydon,ybk,yba,d1,hq,clash,h0,go_sem,zA,zB,↓reduceIte,reduceCtorEq];refine⟨⟨by omega,by omega⟩,⟨by omega,by omega⟩,?_⟩
     refine ybf (σ:=Unit) (fun _=>⟨[(32,.i .i64 0),(31,.i .i64 0),(20,.i .i64 k),(19,.i .i64 (S.N:Nat)),(18,.sl 1 S.N fun k=>[ybk (S.arcs k)]),(1,yba S.N lg)],[]⟩) (fun _=>True) (fun _=>0) () trivial ?_ ?_
     .refine yh [] [] [] ?_;simp only[ybk,yba,allQ,live,yc,zG,go_sem,zA,↓reduceIte,reduceCtorEq]
     .intro _ _;simp only[ydtd,ycaa,ybk,yba,zJ,clash,go_sem,zA,zB,↓reduceIte,reduceCtorEq];refine⟨ikw (by omega) (by omega),?_⟩
      refine yj (k+1) (by omega) (by omega) ?_
      refine yh [] [] [] ?_;simp only[allQ,live,yc,yx,go_sem,zA,↓reduceIte,reduceCtorEq];omega
  .obtain rfl:k=S.N:=by omega
   simp only[ycgx,ycri,zJ,go_sem,zA,zB,↓reduceIte];exact Sim.refl _
end Sh
end
section
namespace Sh
open Ev Go.RowKit
def yci(l:List Nat):SV:=.sl 1 l.length (fun i=>[.i .i64 ((l.getD i 0:Nat):Int)])
def rowC(F:Nat)(f:Nat->List Nat)(j:Nat):SV:=if (f j).length=0 then .a (.slice none 0 0)else .os (F,j) 0 (f j).length true
def rowB(e:Nat)(k:IntKind)(l:List Nat):Option OB:=if l.length=0 then none else some ⟨e,false,1,l.length,fun i=>[.i k ((l.getD i 0:Nat):Int)]⟩
def yhw(e:Nat)(k:IntKind)(f:Nat->List Nat):Fam:=.many fun j=>rowB e k (f j)
theorem yjr{F e j:Nat}{k:IntKind}{f:Nat->List Nat}{O:Own}(ρ:List (Nat×(Nat->Nm))){X:SV}(hX:X=if (f j).length=0 then .a (.slice none 0 0)else .os (rid ρ (F,j)) 0 (f j).length true)(hO:lookO O (F,j)=rowB e k (f j)) :
 (Sim X (ren (rid ρ) 5 (rowC F f j))/\cln (lv [] O) 5 (rowC F f j)=true)/\one1 (rowC F f j)=true:=by
 subst hX;unfold rowC
 by_cases q:(f j).length=0
 .simp only[if_pos q];exact⟨⟨Sim.refl _,rfl⟩,rfl⟩
 .simp only[if_neg q];refine⟨⟨Sim.refl _,?_⟩,rfl⟩;show(live O (F,j) && !(List.elem F []))=true;unfold live;rw[hO];unfold rowB;rw[if_neg q];rfl
theorem yea{e:Nat}{k:IntKind}{l:List Nat}{b:OB}{h:Nm->Nm}{O1 O2:Own}(he:mapE e=false)(hb:rowB e k l=some b){c:OB}(hc:(c.e=e/\c.bx=false/\c.z=1/\c.n=l.length)/\∀i,i<l.length->c.g i=[.i k ((l.getD i 0:Nat):Int)]) :
 (c.e=b.e/\c.bx=b.bx/\c.z=b.z/\c.n=b.n)/\(mapE b.e=true->∀i,c.g i=b.g i)/\∀i,i<b.n->telL h [] [] O1 O2 (c.g i) (b.g i):=by
 unfold rowB at hb;split at hb
 .cases hb
 .cases hb
  refine⟨hc.1,fun q=>?_,fun i hi=>?_⟩
  .have q:mapE e=true:=q;rw[he]at q;cases q
  .rw[hc.2 i hi];exact⟨.inl ⟨(yhn _ _ _).2 trivial,by rw[yec];exact Sim.refl _,rfl⟩,rfl,trivial⟩
theorem yeu{e:Nat}{k:IntKind}{l:List Nat}{b:OB}(hb:rowB e k l=some b):(b.e=e/\b.bx=false/\b.z=1/\b.n=l.length)/\∀i,i<l.length->b.g i=[.i k ((l.getD i 0:Nat):Int)]:=by
 unfold rowB at hb;split at hb
 .cases hb
 .cases hb;exact⟨⟨rfl,rfl,rfl,rfl⟩,fun _ _=>rfl⟩
theorem ybmk{e:Nat}{k:IntKind}{l:List Nat}{x:Nat}(h:l.length=0){g:Nat->List SV}(hg:g 0=[.i k (x:Int)]):((⟨e,false,1,1,g⟩:OB).e=e/\(⟨e,false,1,1,g⟩:OB).bx=false/\(⟨e,false,1,1,g⟩:OB).z=1/\(⟨e,false,1,1,g⟩:OB).n=(l++[x]).length)/\∀i,i<(l++[x]).length->(⟨e,false,1,1,g⟩:OB).g i=[.i k (((l++[x]).getD i 0:Nat):Int)]:=by
 obtain rfl:l=[]:=List.eq_nil_of_length_eq_zero h;refine⟨⟨rfl,rfl,rfl,rfl⟩,fun i hi=>?_⟩;obtain rfl:i=0:=by simp at hi;omega
 exact hg
theorem ybcs{e n:Nat}{k:IntKind}{l:List Nat}{x:Nat}{g g':Nat->List SV}(hn:n=l.length)(hg:∀i,i<l.length->g i=[.i k ((l.getD i 0:Nat):Int)])(hg':g' 0=[.i k (x:Int)]) :
 ((⟨e,false,1,n+1,fun i=>if i<n then g i else g' (i-n)⟩:OB).e=e/\(⟨e,false,1,n+1,fun i=>if i<n then g i else g' (i-n)⟩:OB).bx=false/\(⟨e,false,1,n+1,fun i=>if i<n then g i else g' (i-n)⟩:OB).z=1/\(⟨e,false,1,n+1,fun i=>if i<n then g i else g' (i-n)⟩:OB).n=(l++[x]).length) /\
   ∀i,i<(l++[x]).length->(⟨e,false,1,n+1,fun i=>if i<n then g i else g' (i-n)⟩:OB).g i=[.i k (((l++[x]).getD i 0:Nat):Int)]:=by
 subst hn;refine⟨⟨rfl,rfl,rfl,by rw[zI];rfl⟩,fun i hi=>?_⟩
 show(if i<l.length then g i else g' (i-l.length))=_
 by_cases q:i<l.length
 .rw[if_pos q,hg i q];simp[zQ,zM q]
 .have:i=l.length:=by simp at hi;omega
  subst this;rw[if_neg q,zAH,hg'];simp[zQ]
theorem yna{F e j:Nat}{k:IntKind}{f:Nat->List Nat}{O1 O:Own}(ρ:List (Nat×(Nat->Nm))){X:List SV}(hX:X=[if (f j).length=0 then .a (.slice none 0 0)else .os (rid ρ (F,j)) 0 (f j).length true])(hO:lookO O (F,j)=rowB e k (f j)):telL (rid ρ) [] [] O1 O X [rowC F f j]:=by
 subst hX;obtain⟨⟨h1,h2⟩,h3⟩:=yjr (X:=if (f j).length=0 then .a (.slice none 0 0)else .os (rid ρ (F,j)) 0 (f j).length true) ρ rfl hO
 exact⟨.inl ⟨(yhn _ _ _).2 trivial,by rw[yec];exact h1,h2⟩,h3,trivial⟩
theorem ybar{a b c d t i:Nat}(h1:c≠a)(h2:c≠b):((c,d):Nm)=(if i=t then((a,0):Nm)else(b,i))->False:=fun e=>by
 split at e
 .exact h1 (congrArg Prod.fst e)
 .exact h2 (congrArg Prod.fst e)
theorem yql{a b c d t i:Nat}(h1:c≠a)(h2:c≠b):(if i=t then((a,0):Nm)else(b,i))=((c,d):Nm)->False:=fun e=>ybar h1 h2 e.symm
theorem ywm{a b t i j:Nat}(h:a≠b)(e:(if i=t then((a,0):Nm)else(b,i))=if j=t then((a,0):Nm)else(b,j)):i=j:=by
 by_cases q1:i=t<;>by_cases q2:j=t
 .omega
 .rw[if_pos q1,if_neg q2]at e;exact absurd (congrArg Prod.fst e) h
 .rw[if_neg q1,if_pos q2]at e;exact absurd (congrArg Prod.fst e).symm h
 .rw[if_neg q1,if_neg q2]at e;exact congrArg Prod.snd e
theorem ybin{S:Spc}(h:S.ok):Returns zH 179 [.ag (spcC S)] (.sl 1 S.N fun j=>[yci (srcS S j)]):=by
 refine Returns.of (yded _ _ ?_);have hle:=h.le;simp only[c179,ycrr,ydaq,ycqf,spcC,ybk,clash,go_sem,zA,zB,zC,↓reduceIte,reduceCtorEq];refine⟨by omega,?_⟩
 let st:Nat->Nat->Own:=fun k i=>[(1,spcO S),(11,.one (some ⟨22,false,1,S.N,fun j=>[rowC 60 (ygn S k i) j]⟩)),(60,yhw 3 .i64 (ygn S k i))]
 refine ybf (σ:=Nat) (fun k=>⟨[(15,.i .i64 k),(14,.i .i64 (S.N:Nat)),(13,.sl 1 S.N fun k=>[ybk (S.arcs k)]),(1,.pt (1,0) 0 0),(3,.os (11,0) 0 S.N true)],st k 0⟩) (fun k=>k<=S.N) (fun k=>S.N-k) 0 (zK _) ?_ ?_
 .refine yh [] [] [] ?_;simp only[st,spcO,spcC,ybk,rowC,yhw,rowB,yxs,allQ,live,yc,zG,go_sem,zA,zC,↓reduceIte,reduceCtorEq]
 .intro k hk
  by_cases hlt:k<S.N
  .have d1 := dec_lt hlt;have hal:=h.len hlt;simp only[ybtf,ycmp,ydbe,st,ybk,d1,clash,go_sem,zA,zB,↓reduceIte,reduceCtorEq];refine⟨⟨by omega,by omega⟩,?_⟩
   refine ybf (σ:=Nat) (fun i=>⟨[(22,.i .i64 i),(21,.i .i64 ((S.arcs k).length:Nat)),(20,ybk (S.arcs k)),(4,.i .i64 k),(15,.i .i64 k),(14,.i .i64 (S.N:Nat)),(13,.sl 1 S.N fun k=>[ybk (S.arcs k)]),(1,.pt (1,0) 0 0),(3,.os (11,0) 0 S.N true)],st k i⟩)
    (fun i=>i<=(S.arcs k).length) (fun i=>(S.arcs k).length-i) 0 (zK _) ?_ ?_
   .refine yh [] [] [] ?_;simp only[st,spcO,spcC,ybk,yhw,allQ,live,yc,zG,go_sem,zA,zC,↓reduceIte,reduceCtorEq];exact⟨fun _ _ _ _ e=>e,fun i _=>yjr [] rfl rfl,fun i b hb=>⟨b,hb,yea rfl hb (yeu hb)⟩⟩
   .intro i hi
    by_cases hlt2:i<(S.arcs k).length
    .have h4:=h.to k hlt i hlt2;obtain⟨⟨a,t⟩,hat⟩:∃p,(S.arcs k).getD i (0,0)=p:=⟨_,rfl⟩;rw[hat]at h4;simp only at h4;have d2:=dec_lt hlt2;have hst:=ybqp S hlt2;rw[hat]at hst;simp only at hst;have hln:=ytr h (k:=k) (i:=i) (by omega) (by omega) (by omega) t
     obtain⟨f,hf⟩:∃f,ygn S k i=f:=⟨_,rfl⟩;obtain⟨f',hf'⟩:∃f,ygn S k (i+1)=f:=⟨_,rfl⟩;rw[hf]at hst hln;rw[hf']at hst;have hst0:∀j,¬j=t->f' j=f j:=fun j hj=>by rw[hst,if_neg hj]
     have hst1:f' t=f t++[k]:=by rw[hst,if_pos rfl]
     by_cases q:(f t).length=0
     .simp only[yble,ybvo,ycbg,ybvj,ybaz,st,spcO,spcC,ybk,d2,hat,hf,rowC,yhw,rowB,q,clash,go_sem,zA,zB,zD,zC,Nat.reduceMul,↓reduceIte,reduceCtorEq]
      repeat refine zF (by first|omega|decide|exact ikw (by omega) (by omega)) ?_
      refine yj (i+1) (by omega) (by omega) ?_
      refine yh [(60,fun j=>if j=t then(36,0)else(60,j))] [] [] ?_
      simp only[hf',allQ,live,yc,yx,go_sem,zA,zC,↓reduceIte,reduceCtorEq];refine⟨⟨fun i _=>ybar (by decide) (by decide),fun i _=>ybar (by decide) (by decide),fun i _=>yql (by decide) (by decide),fun i _=>yql (by decide) (by decide),fun i _ j _=>ywm (by decide)⟩,by omega,fun i hi=>?_,fun i b hb=>?_⟩
      .refine yna (F:=60) (e:=3) (k:=.i64) (f:=f') [(60,fun j=>if j=t then(36,0)else(60,j))] ?_ rfl
       by_cases e:i=t
       .subst e;have e1:(f' i).length=1:=by rw[hst1,zI,q];rfl
        simp only[e1,go_sem,↓reduceIte,reduceCtorEq]
       .simp only[hst0 i e,e,go_sem,↓reduceIte]
      .by_cases e:i=t
       .subst e;rw[hst1]at hb;simp only[go_sem,zA,↓reduceIte];exact yea (e:=3) (k:=.i64) rfl hb (ybmk q rfl)
       .rw[hst0 i e]at hb;simp only[e,go_sem,zA,↓reduceIte];exact⟨_,hb,yea (e:=3) (k:=.i64) rfl hb (yeu (e:=3) (k:=.i64) hb)⟩
     .have q0:0<(f t).length:=by omega
      simp only[yble,ybvo,ycbg,ybvj,ybaz,st,spcO,spcC,ybk,d2,hat,hf,rowC,yhw,rowB,q,clash,go_sem,zA,zB,zD,zC,↓reduceIte,reduceCtorEq]
      repeat refine zF (by first|omega|decide|exact ikw (by omega) (by omega)) ?_
      refine yj (i+1) (by omega) (by omega) ?_
      refine yh [(60,fun j=>if j=t then(36,0)else(60,j))] [] [] ?_
      simp only[hf',allQ,live,yc,yx,go_sem,zA,zC,↓reduceIte,reduceCtorEq];refine⟨⟨fun i _=>ybar (by decide) (by decide),fun i _=>ybar (by decide) (by decide),fun i _=>yql (by decide) (by decide),fun i _=>yql (by decide) (by decide),fun i _ j _=>ywm (by decide)⟩,by omega,fun i hi=>?_,fun i b hb=>?_⟩
      .refine yna (F:=60) (e:=3) (k:=.i64) (f:=f') [(60,fun j=>if j=t then(36,0)else(60,j))] ?_ rfl
       by_cases e:i=t
       .subst e;have e1:(f' i).length=(f i).length+1:=by rw[hst1,zI];rfl
        have e2:¬(f i).length+1=0:=by omega
        simp only[e1,e2,go_sem,↓reduceIte]
       .simp only[hst0 i e,e,go_sem,↓reduceIte]
      .by_cases e:i=t
       .subst e;rw[hst1]at hb;simp only[go_sem,zA,↓reduceIte];exact yea (e:=3) (k:=.i64) rfl hb (ybcs (g':=fun i=>zAU 1 (zAV (i*1) [.i .i64 (k:Int)])) rfl (fun _ _=>rfl) rfl)
       .rw[hst0 i e]at hb;simp only[e,go_sem,zA,↓reduceIte];exact⟨_,hb,yea (e:=3) (k:=.i64) rfl hb (yeu (e:=3) (k:=.i64) hb)⟩
    .obtain rfl:i=(S.arcs k).length:=by omega
     have hnx:ygn S k (S.arcs k).length=ygn S (k+1) 0:=funext fun j=>ywq S k j;simp only[yble,ybaz,st,spcO,spcC,ybk,zJ,clash,hnx,go_sem,zA,zB,↓reduceIte,reduceCtorEq];refine⟨ikw (by omega) (by omega),?_⟩
     refine yj (k+1) (by omega) (by omega) ?_
     refine yh [] [] [] ?_;simp only[yhw,allQ,live,yc,yx,go_sem,zA,zC,↓reduceIte,reduceCtorEq];exact⟨fun _ _ _ _ e=>e,by omega,fun i _=>yjr [] rfl rfl,fun i b hb=>⟨b,hb,yea rfl hb (yeu hb)⟩⟩
  .obtain rfl:k=S.N:=by omega
   simp only[ybtf,ybus,st,spcO,zJ,go_sem,zA,zB,↓reduceIte,reduceCtorEq];have hlen:∀q,q<S.N->(ygn S S.N 0 q).length<=262144:=fun q _=>ytr h (k:=S.N) (i:=0) (by omega) (by omega) (by omega) q
   refine⟨fun q hq=>?_,ydp fun q hq=>?_⟩
   .unfold rowC
    by_cases e:(ygn S S.N 0 q).length=0
    .simp only[e,go_sem,↓reduceIte]
    .simp only[e,yhw,rowB,go_sem,zA,↓reduceIte]
   .unfold rowC
    by_cases e:(ygn S S.N 0 q).length=0
    .simp only[e,SimL,yci,srcS,go_sem,↓reduceIte];exact ybkd
    .simp only[e,yhw,rowB,SimL,yci,srcS,go_sem,zA,↓reduceIte];exact Sim.refl _
end Sh
end
section
namespace Sh
open Ev Go.RowKit
theorem Ct.fnd{P:Program}{g:FuncId}{args:List SV}{α:Type}{R:SV->α->Prop}{V:α->SV}{Q:SV->Prop}(h:Ct P g args fun r=>∃x,R r x)(hs:∀r x,R r x->Sim r (V x))(hq:∀r x,R r x->Q (V x)):Ct P g args Q:=fun G m us h1 h2 h3=>by
 obtain⟨v,m',r,a,b,c,⟨x,hx⟩,e⟩:=h G m us h1 h2 h3;exact⟨v,m',V x,a,b,c,hq r x hx,hs r x hx _ _ _ e⟩
def natO(L:List Nat):Fam:=.one (some ⟨3,false,1,L.length,fun i=>[.i .i64 ((L.getD i 0:Nat):Int)]⟩)
theorem ybmc(L:List Nat)(x:Nat){i:Nat}(hi:i<L.length+1):(if i<L.length then[SV.i .i64 ((L.getD i 0:Nat):Int)]else zAU 1 (zAV ((i-L.length)*1) [SV.i .i64 (x:Int)]))=[SV.i .i64 (((L++[x]).getD i 0:Nat):Int)]:=by
 by_cases q:i<L.length
 .rw[if_pos q];simp[zQ,zM q]
 .obtain rfl:i=L.length:=by omega
  rw[if_neg q,zAH];simp[zQ]
structure OrdL(S:Spc)(lg:Nat->Bool)(L:List Nat):Prop where
 lt:∀x∈L,x<S.N
 len:L.length=S.N
 all:∀k,k<S.N->k∈L
structure _root_.Go.Proofs.YthclbjjgfcgbgaaGreatDoor.Spc.free(S:Spc)(lg:Nat->Bool):Prop where
 ne:∀k,k<S.N->lg k=false->S.arcs k≠[]
 cyc:∀f m,Back S.N S.arcs f m->False
def ylq(lg:Nat->Bool)(k:Nat):List Nat:=(zO k).filter lg
theorem yced(lg:Nat->Bool)(k:Nat):ylq lg (k+1)=ylq lg k++if lg k=true then[k]else[]:=by
 unfold ylq;rw[zAD,zV];congr 1;cases h:lg k<;>simp[h]
theorem yboi(lg:Nat->Bool)(k:Nat):(ylq lg k).length<=k:=by
 have:=zAC lg (zO k);unfold ylq
 simpa using this
theorem ycgw{lg:Nat->Bool}{n k:Nat}(hk:k<n):k∈ylq lg n↔lg k=true:=by
 unfold ylq;rw[zAL,zAN];exact⟨fun h=>h.2,fun h=>⟨hk,h⟩⟩
theorem ydee(lg:Nat->Bool)(n:Nat):(ylq lg n).Nodup:=List.Pairwise.filter _ List.nodup_range
theorem ydel(lg:Nat->Bool)(n:Nat):∀x∈ylq lg n,x<n:=fun x h=>List.mem_range.1 (List.mem_filter.1 h).1
theorem yfn{h:Nm->Nm}{vir:List Nat}{O1 O:Own}{X:List SV}{k:IntKind}{x:Int}(e:X=[.i k x]):telL h vir [] O1 O X [.i k x]:=by
 subst e;exact⟨.inl ⟨(yhn _ _ _).2 trivial,by rw[yec];exact Sim.refl _,rfl⟩,rfl,trivial⟩
set_option maxHeartbeats 1000000 in
theorem yblt{S:Spc}(h:S.ok){lg:Nat->Bool}(hf:S.free lg):Ct zH 135 [.ag (spcC S),yba S.N lg] fun r=>∃L,Sim r (yci L)/\OrdL S lg L:=by
 refine ydht _ _ ?_;have hle:=h.le;have hS:=ybin h;simp only[spcC,ybk,yci]at hS;simp only[c135,ycvy,ycuy,ycvp,spcC,ybk,yba,clash,go_sem,zA,zB,zC,↓reduceIte,reduceCtorEq];refine ybf (σ:=Nat) (fun k=>⟨[(15,.i .i64 k),(14,.i .i64 (S.N:Nat)),(13,yba S.N lg),(1,yba S.N lg),(2,.pt (2,0) 0 0),(5,.os (70,0) 0 (ylq lg k).length true)],[(2,spcO S),(70,natO (ylq lg k))]⟩) (fun k=>k<=S.N) (fun k=>S.N-k) 0 (zK _) ?_ ?_
 .refine yh [] [70] [] ?_;simp only[spcO,spcC,ybk,yba,natO,show ylq lg 0=[]from rfl,allQ,live,yc,zG,go_sem,zA,zC,zAF,↓reduceIte,reduceCtorEq]
  exact⟨(70,0),rfl,rfl,rfl⟩
 .intro k hk
  by_cases hlt:k<S.N
  .have d1:=dec_lt hlt;have hfl:=yboi lg k;have hsn:=yced lg k;obtain⟨L,hL⟩:∃L,ylq lg k=L:=⟨_,rfl⟩;obtain⟨L',hL'⟩:∃L,ylq lg (k+1)=L:=⟨_,rfl⟩;rw[hL]at hfl;rw[hL,hL']at hsn;cases hq:lg k with
   | true =>
     rw[hq,if_pos rfl]at hsn;simp only[ybls,ybve,ybwc,ybst,ycbs,yba,natO,hL,d1,hq,clash,go_sem,zA,zB,zD,zC,↓reduceIte,reduceCtorEq]
     repeat refine zF (by first|omega|decide|exact ikw (by omega) (by omega)) ?_
     refine yj (k+1) (by omega) (by omega) ?_
     refine yh [(70,fun i=>(24,i))] [] [] ?_;simp only[spcO,spcC,ybk,hL',hsn,zI,allQ,live,yc,yx,go_sem,zA,zC,↓reduceIte,reduceCtorEq];exact⟨by omega,fun i hi=>yfn (ybmc L k hi)⟩
   | false =>
     rw[hq,if_neg (by decide),zW]at hsn
     simp only[ybls,ybve,ybwc,ybst,ycbs,yba,natO,hL,d1,hq,clash,go_sem,zA,zB,↓reduceIte,reduceCtorEq]
     repeat refine zF (by first|omega|decide|exact ikw (by omega) (by omega)) ?_
     refine yj (k+1) (by omega) (by omega) ?_
     refine yh [] [] [] ?_;simp only[spcO,spcC,ybk,hL',hsn,allQ,live,yc,yx,go_sem,zA,zC,↓reduceIte,reduceCtorEq];omega
  .obtain rfl:k=S.N:=by omega
   simp only[ybls,ycwu,natO,spcO,spcC,ybk,yba,zJ,go_sem,zA,zB,↓reduceIte];have hst:OrdI S lg (ylq lg S.N) 0 0 fun _=>0:=OrdI.start (ydee _ _) (ydel _ _) fun k hk=>ycgw hk;have hfl:=yboi lg S.N
   generalize ylq lg S.N=L0 at hst hfl
   refine hS.use ?_;simp only[ybh,ycuo,ybuq,clash,go_sem,zA,zB,zC,↓reduceIte,reduceCtorEq]
   repeat refine zF (by first|omega|decide|exact ikw (by omega) (by omega)) ?_
   refine ybf (σ:=Nat×List Nat×(Nat->Nat)) (fun x=>⟨[(10,.i .i64 x.1),(5,.os (70,0) 0 x.2.1.length true),(9,.os (30,0) 0 S.N true),(8,.sl 1 S.N fun j=>[yci (srcS S j)]),(1,yba S.N lg),(2,.pt (2,0) 0 0)],
    [(2,spcO S),(70,natO x.2.1),(30,.one (some ⟨3,false,1,S.N,fun k=>[.i .i64 (x.2.2 k:Nat)]⟩))]⟩) (fun x=>OrdI S lg x.2.1 x.1 0 x.2.2) (fun x=>S.N+1-x.1) (0,L0,fun _=>0) hst ?_ ?_
   .refine yh [] [] [] ?_;simp only[spcO,spcC,ybk,yba,natO,yci,allQ,live,yc,zG,go_sem,zA,zC,↓reduceIte,reduceCtorEq]
   .rintro⟨i,L,E⟩ hI;simp only at hI ⊢;have hLn:=hI.len;have hiL:=hI.hi
    by_cases hlt:i<L.length
    .have d1 := dec_lt hlt;obtain⟨x,hx⟩:∃x,L.getD i 0=x:=⟨_,rfl⟩;have hxN:x<S.N:=by rw[<-hx,getD_at hlt];exact hI.lt _ (zY _)
     have hsl:=ytr h (k:=S.N) (i:=0) (by omega) (by omega) (by omega) x
     change (srcS S x).length<=262144 at hsl
     simp only[ybis,yceg,ybxn,natO,yci,yba,d1,hx,clash,go_sem,zA,zB,↓reduceIte,reduceCtorEq]
     repeat refine zF (by first|omega|decide|exact ikw (by omega) (by omega)) ?_
     refine ybf (σ:=Nat×List Nat×(Nat->Nat)) (fun y=>⟨[(45,.i .i64 y.1),(44,.i .i64 ((srcS S x).length:Nat)),(43,yci (srcS S x)),(10,.i .i64 i),(5,.os (70,0) 0 y.2.1.length true),(9,.os (30,0) 0 S.N true),(8,.sl 1 S.N fun j=>[yci (srcS S j)]),(1,yba S.N lg),(2,.pt (2,0) 0 0)],
      [(2,spcO S),(70,natO y.2.1),(30,.one (some ⟨3,false,1,S.N,fun k=>[.i .i64 (y.2.2 k:Nat)]⟩))]⟩) (fun y=>OrdI S lg y.2.1 i y.1 y.2.2/\i<y.2.1.length/\y.2.1.getD i 0=x/\y.1<=(srcS S x).length) (fun y=>(srcS S x).length-y.1) (0,L,E) ⟨hI,hlt,hx,zK _⟩ ?_ ?_
     .refine yh [] [] [] ?_;simp only[spcO,spcC,ybk,yba,natO,yci,allQ,live,yc,zG,go_sem,zA,zC,↓reduceIte,reduceCtorEq]
     .rintro⟨j,L,E⟩ ⟨hI,hlt,hx,hj⟩;simp only at hI hlt hx hj ⊢;have hLn:=hI.len
      by_cases hlt2:j<(srcS S x).length
      .have d2:=dec_lt hlt2;obtain⟨k,hk⟩:∃k,(srcS S x).getD j 0=k:=⟨_,rfl⟩;have hkN:k<S.N:=by rw[<-hk,getD_at hlt2];exact yciu (.inr ⟨rfl,zAM _⟩) _ (zY _)
       have hal:=h.len hkN;obtain⟨hEk,hI'⟩:=hI.step hlt (by rw[hx];exact hlt2) (by rw[hx];exact hk) hkN
       simp only at hI';obtain⟨E',hE'⟩:∃E',(fun q=>if q=k then E k+1 else E q)=E':=⟨_,rfl⟩
       have hE1:∀(i:Nat),i<S.N->(if i=k then[SV.i .i64 ((E k:Int)+1)]else[SV.i .i64 (E i:Int)])=[SV.i .i64 (E' i:Int)]:=fun i _=>by
        rw[<-hE']
        by_cases q:i=k
        .simp only[if_pos q];rfl
        .simp only[if_neg q]
       rw[hE']at hI';cases hq:lg k with
       | true =>
         rw[hq,if_neg (fun q=>by cases q.1)]at hI'
         simp only[yue,yzt,ybao,yyw,yzn,natO,yci,yba,spcO,spcC,ybk,d2,hk,hq,clash,go_sem,zA,zB,↓reduceIte,reduceCtorEq]
         repeat refine zF (by first|omega|decide|exact ikw (by omega) (by omega)) ?_
         refine yj (j+1,L,_) ⟨hI',hlt,hx,hlt2⟩ (by show _-(j+1)<_-j;omega) ?_
         refine yh [] [] [] ?_;simp only[allQ,live,yc,yx,go_sem,zA,zC,↓reduceIte,reduceCtorEq];exact⟨by omega,fun i hi=>yfn (hE1 i hi)⟩
       | false =>
         by_cases hE:E k+1=(S.arcs k).length
         .rw[if_pos ⟨hq,hE⟩]at hI';have d3:(((E k:Int)+1)==((S.arcs k).length:Int))=true:=by rw[beq_iff_eq];omega
          simp only[yue,yzt,ybao,yyw,ybsu,yzn,natO,yci,yba,spcO,spcC,ybk,d2,d3,hk,hq,clash,go_sem,zA,zB,zD,zC,↓reduceIte,reduceCtorEq]
          repeat refine zF (by first|omega|decide|exact ikw (by omega) (by omega)) ?_
          refine yj (j+1,L++[k],_) ⟨hI',by show i<(L++[k]).length;rw[zI];omega,by show(L++[k]).getD i 0=x;rw[<-hx];simp only[zQ,zM hlt],hlt2⟩ (by show _-(j+1)<_-j;omega) ?_
          refine yh [(70,fun i=>(76,i))] [] [] ?_;simp only[zI,allQ,live,yc,yx,go_sem,zA,zC,↓reduceIte,reduceCtorEq];exact⟨by omega,fun i hi=>yfn (ybmc L k hi),fun i hi=>yfn (hE1 i hi)⟩
         .rw[if_neg (fun q=>hE q.2)]at hI';have d3:(((E k:Int)+1)==((S.arcs k).length:Int))=false:=by rw[beq_eq_false_iff_ne];omega
          simp only[yue,yzt,ybao,yyw,yzn,natO,yci,yba,spcO,spcC,ybk,d2,d3,hk,hq,clash,go_sem,zA,zB,↓reduceIte,reduceCtorEq]
          repeat refine zF (by first|omega|decide|exact ikw (by omega) (by omega)) ?_
          refine yj (j+1,L,_) ⟨hI',hlt,hx,hlt2⟩ (by show _-(j+1)<_-j;omega) ?_
          refine yh [] [] [] ?_;simp only[allQ,live,yc,yx,go_sem,zA,zC,↓reduceIte,reduceCtorEq];exact⟨by omega,fun i hi=>yfn (hE1 i hi)⟩
      .obtain rfl:j=(srcS S x).length:=by omega
       have hI2:=hI.next hlt (by rw[hx])
       simp only[yue,natO,yci,yba,spcO,spcC,ybk,zJ,clash,go_sem,zA,zB,↓reduceIte,reduceCtorEq]
       repeat refine zF (by first|omega|decide|exact ikw (by omega) (by omega)) ?_
       refine yj (i+1,L,E) hI2 (by show S.N+1-(i+1)<S.N+1-i;omega) ?_
       refine yh [] [] [] ?_;simp only[allQ,live,yc,yx,go_sem,zA,zC,↓reduceIte,reduceCtorEq];omega
    .obtain rfl:i=L.length:=by omega
     have hall:=hI.all (fun k hk a ha=>h.mem hk ha) hf.ne hf.cyc;simp only[ybis,ybue,natO,zJ,go_sem,zA,zB,↓reduceIte,reduceCtorEq];exact⟨L,Sim.refl _,hI.lt,Nat.le_antisymm hLn (ydgo hall),hall⟩
def allO(n:Nat)(b:Bool):Fam:=.one (some ⟨4,false,1,n,fun _=>[.b b]⟩)
theorem yccc{h:Nm->Nm}{vir:List Nat}{O1 O:Own}{X:List SV}{x:Bool}(e:X=[.b x]):telL h vir [] O1 O X [.b x]:=by
 subst e;exact⟨.inl ⟨(yhn _ _ _).2 trivial,by rw[yec];exact Sim.refl _,rfl⟩,rfl,trivial⟩
set_option maxHeartbeats 1000000 in
theorem ybbm{S:Spc}(h:S.ok){lg:Nat->Bool}(hf:S.free lg):Cm zH 72 [] [] [.ag (spcC S),yba S.N lg] fun r o=>r = .tp [.os (1,0) 0 S.N true,.i .i64 0]/\o=[(1,allO S.N true)]:=by
 refine ydhz [] [] _ _ _ ?_;have hle:=h.le;have hC:=yoz h lg;have hO:=yblt h hf;simp only[spcC,ybk,yba]at hC hO;simp only[c72,ydsr,ydsd,spcC,ybk,yba,clash,go_sem,zA,zB,zC,↓reduceIte,reduceCtorEq];refine hC.use ?_;simp only[ybh,ydnk,yduq,ydqr,clash,zU,go_sem,zA,zB,zC,↓reduceIte,reduceCtorEq]
 repeat refine zF (by first|omega|decide|exact ikw (by omega) (by omega)) ?_
 refine hO.fnd (V:=yci) (fun r L h=>h.1) fun r L hL=>?_;obtain⟨-,hlt,hlen,hall⟩:=hL;simp only[yci,go_sem]
 let mk:Nat->Nat->Bool:=fun i k=>decide (k∈L.take i)
 refine ybf (σ:=Nat) (fun i=>⟨[(23,.i .i64 i),(22,.i .i64 (L.length:Nat)),(21,yci L),(7,.os (18,0) 0 S.N true)],[(18,.one (some ⟨4,false,1,S.N,fun k=>[.b (mk i k)]⟩))]⟩) (fun i=>i<=L.length) (fun i=>L.length-i) 0 (zK _) ?_ ?_
 .refine yh [] [] [] ?_;simp only[yci,mk,allQ,live,yc,zG,go_sem,zA,zC,↓reduceIte,reduceCtorEq]
 .intro i hi
  by_cases hlt2:i<L.length
  .have d1:=dec_lt hlt2;obtain⟨k,hk⟩:∃k,L.getD i 0=k:=⟨_,rfl⟩;have hkN:k<S.N:=by rw[<-hk,getD_at hlt2];exact hlt _ (zY _)
   have hmk:∀q,mk (i+1) q=if q=k then true else mk i q:=fun q=>by
    show decide (q∈L.take (i+1))=if q=k then true else decide (q∈L.take i)
    rw[ygm 0 hlt2,hk]
    by_cases e:q=k
    .simp[e]
    .simp[e]
   simp only[ydch,ydsm,ydwi,ydvk,yci,d1,hk,clash,go_sem,zA,zB,↓reduceIte,reduceCtorEq]
   repeat refine zF (by first|omega|decide|exact ikw (by omega) (by omega)) ?_
   refine yj (i+1) (by omega) (by omega) ?_
   refine yh [] [] [] ?_;simp only[hmk,allQ,live,yc,yx,go_sem,zA,zC,↓reduceIte,reduceCtorEq];refine⟨by omega,fun q _=>yccc ?_⟩
   by_cases e:q=k
   .rw[if_pos e,if_pos e]
   .rw[if_neg e,if_neg e]
  .obtain rfl:i=L.length:=by omega
   simp only[ydch,ycrl,yci,zJ,yga,go_sem,zA,zB,↓reduceIte,reduceCtorEq];refine⟨.tp [.os (1,0) 0 S.N true,.i .i64 0],[(1,allO S.N true)],?_,?_,rfl,rfl⟩
   .refine ybi [(1,fun i=>(18,i))] [] [] ?_;simp only[allO,mk,zS,allQ,live,yc,yvd,go_sem,zC,↓reduceIte,reduceCtorEq];exact fun i hi=>hall i hi
   .simp only[allO,yby,ydn,allQ,live,go_sem,↓reduceIte]
set_option maxHeartbeats 1000000 in
theorem ycfx{S:Spc}(h:S.ok){lg:Nat->Bool}(hf:S.free lg):Returns zH 17 [.ag (spcC S),yba S.N lg] (.tp [yba S.N fun _=>false,.i .i64 0]):=by
 refine Returns.of (ydga [72] _ _ ?_);have hle:=h.le;have hA:=ybbm h hf;simp only[spcC,ybk,yba]at hA;simp only[c17,ydou,ydwo,spcC,ybk,yba,clash,go_sem,zA,zB,zC,↓reduceIte,reduceCtorEq];refine yco hA [] 50 [] [] ?_ ?_
 .simp only[go_sem,yby,ydn,ycs,yck,allQ,live,yc,go_sem,zB,↓reduceIte,reduceCtorEq]
 rintro r o' ⟨rfl,rfl⟩;simp only[allO,yiq,yhr,nuF,nu,difN,ycs,yck,Fam.ren,OB.ren,dim,ygr,ybyy,ymc,yfx,go_sem,zA,zB,↓reduceIte,reduceCtorEq];simp only[ydkq,ydss,clash,zU,go_sem,zA,zB,↓reduceIte];refine ybf (σ:=Nat) (fun i=>⟨[(20,.i .i64 i),(19,.i .i64 (S.N:Nat)),(6,.os (51,0) 0 S.N true)],[(51,.one (some ⟨4,false,1,S.N,fun k=>[.b (!decide (k<i))]⟩))]⟩) (fun i=>i<=S.N) (fun i=>S.N-i) 0 (zK _) ?_ ?_
 .refine yh [] [] [] ?_;simp only[go_sem,allQ,live,yc,yvd,zG,go_sem,zA,zC,↓reduceIte,reduceCtorEq];exact fun i _=>by simp
 .intro i hi
  by_cases hlt2:i<S.N
  .have d1:=dec_lt hlt2;simp only[ydji,ydmk,ydsq,ydqd,d1,clash,go_sem,zA,zB,↓reduceIte,reduceCtorEq]
   repeat refine zF (by first|omega|decide|exact ikw (by omega) (by omega)) ?_
   refine yj (i+1) (by omega) (by omega) ?_
   refine yh [] [] [] ?_;simp only[go_sem,allQ,live,yc,yx,go_sem,zA,zC,↓reduceIte,reduceCtorEq];refine⟨by omega,fun q _=>yccc ?_⟩
   by_cases e:q=i
   .subst e;rw[if_pos rfl];simp
   .rw[if_neg e];congr 2;rw[show decide (q<i)=decide (q<i+1)from decide_eq_decide.2 (by omega)]
  .obtain rfl:i=S.N:=by omega
   simp only[ydji,ydqv,zJ,go_sem,zA,zB,↓reduceIte,reduceCtorEq];exact ywu ⟨ybce fun k hk=>by rw[decide_eq_true hk];rfl,Sim.refl _,trivial⟩
end Sh
end
section
namespace Sh
open Ev Go.RowKit
set_option maxHeartbeats 1000000 in
theorem ybdp{S:Spc}(h:S.ok){lg:Nat->Bool}(hf:S.free lg):Ct zH 74 [.ag (spcC S),yba S.N lg] fun r=>∃L,Sim r (.tp [yci L,.i .i64 0])/\OrdL S lg L:=by
 refine ydun _ _ ?_;have hle:=h.le;have hC:=yoz h lg;have hO:=yblt h hf;simp only[spcC,ybk,yba]at hC hO;simp only[c74,yduo,ydwc,spcC,ybk,yba,clash,go_sem,zA,zB,zC,↓reduceIte,reduceCtorEq];refine hC.use ?_;simp only[ybh,ydqz,ydmg,ydof,clash,zU,go_sem,zA,zB,↓reduceIte,reduceCtorEq];refine hO.fnd (V:=yci) (fun r L h=>h.1) fun r L hL=>?_;obtain⟨-,hL⟩:=hL;simp only[ydww,clash,yci,hL.len,zJ,go_sem,zA,zB,↓reduceIte,reduceCtorEq]
 exact⟨L,by rw[hL.len];exact Sim.refl _,hL⟩
theorem ybqx{s t:Nat}(hs:s<2^32):Returns zH 78 [.ag [.i .u32 (s:Nat),.i .i64 (t:Nat)]] (.i .i64 (popP s:Nat)):=by
 refine Returns.of (ydoj _ _ ?_);have hO:=ybmn hs;simp only[c78,ydmv,ydwj,clash,go_sem,zA,zB,zD,zC,↓reduceIte,reduceCtorEq];refine hO.use ?_;simp only[ybh,clash,go_sem,zA,zB,↓reduceIte,reduceCtorEq];exact Sim.refl _
structure MvB(S:Spc)(lg:Nat->Bool)(B:Nat->Nat->Prop):Prop where
 zero:∀k,k<S.N->B k 0
 arc:∀k,k<S.N->lg k=false->∀i,i<(S.arcs k).length->∀x,B ((S.arcs k).getD i (0,0)).2 x->B k (popP ((S.arcs k).getD i (0,0)).1+x)
set_option maxHeartbeats 2000000 in
theorem ybij{S:Spc}(h:S.ok){lg:Nat->Bool}(hf:S.free lg){B:Nat->Nat->Prop}(hB:MvB S lg B) :
 Ct zH 77 [.ag (spcC S),yba S.N lg,.fn 78 [] []] fun r=>∃f:Nat->Nat,Sim r (.tp [.sl 1 S.N fun k=>[.i .i64 (f k:Nat)],.i .i64 0])/\(∀k,k<S.N->B k (f k))/\∀k,k<S.N->f k<=1000000:=by
 refine ydtk _ _ ?_;have hle:=h.le;have hO:=ybdp h hf;simp only[spcC,ybk,yba]at hO;simp only[c77,ydwv,ydkr,spcC,ybk,yba,clash,go_sem,zA,zB,zC,↓reduceIte,reduceCtorEq];refine hO.fnd (V:=fun L=>.tp [yci L,.i .i64 0]) (fun r L h=>h.1) fun r L hL=>?_;obtain⟨-,hlt,hlen,hall⟩:=hL;simp only[ybh,yduz,ydqn,ydoq,clash,yci,zU,go_sem,zA,zB,zC,↓reduceIte,reduceCtorEq]
 repeat refine zF (by first|omega|decide|exact ikw (by omega) (by omega)) ?_
 refine ybf (σ:=Nat×(Nat->Nat)) (fun x=>⟨[(29,.i .i64 x.1),(28,.i .i64 (L.length:Nat)),(27,yci L),(10,.os (26,0) 0 S.N true),(1,yba S.N lg),(2,.fn 78 [] []),(3,.pt (3,0) 0 0)],
  [(3,spcO S),(26,.one (some ⟨3,false,1,S.N,fun k=>[.i .i64 (x.2 k:Nat)]⟩))]⟩) (fun x=>x.1<=L.length/\(∀k,k<S.N->B k (x.2 k))/\∀k,x.2 k<=24*x.1) (fun x=>L.length-x.1) (0,fun _=>0) ⟨zK _,hB.zero,fun _=>zK _⟩ ?_ ?_
 .refine yh [] [] [] ?_;simp only[yci,yba,spcO,spcC,ybk,allQ,live,yc,zG,go_sem,zA,zC,↓reduceIte,reduceCtorEq]
 .rintro⟨i,f⟩ ⟨hi,hf1,hf2⟩;simp only at hi hf1 hf2 ⊢
  by_cases hlt2:i<L.length
  .have d1 := dec_lt hlt2;obtain⟨k,hk⟩:∃k,L.getD i 0=k:=⟨_,rfl⟩;have hkN:k<S.N:=by rw[<-hk,getD_at hlt2];exact hlt _ (zY _)
   have hal:=h.len hkN;cases hq:lg k with
   | true =>
     simp only[yclv,ydjd,ydbh,ybyq,yci,yba,d1,hk,hq,clash,go_sem,zA,zB,↓reduceIte,reduceCtorEq]
     repeat refine zF (by first|omega|decide|exact ikw (by omega) (by omega)) ?_
     refine yj (i+1,f) ⟨hlt2,hf1,fun q=>by have:=hf2 q;show f q<=24*(i+1);omega⟩ (by show _-(i+1)<_-i;omega) ?_
     refine yh [] [] [] ?_;simp only[spcO,spcC,ybk,allQ,live,yc,yx,go_sem,zA,zC,↓reduceIte,reduceCtorEq];omega
   | false =>
     simp only[yclv,ydjd,ydbh,ydnr,yci,yba,spcO,spcC,ybk,d1,hk,hq,clash,go_sem,zA,zB,↓reduceIte,reduceCtorEq]
     repeat refine zF (by first|omega|decide|exact ikw (by omega) (by omega)) ?_
     refine ybf (σ:=Nat×(Nat->Nat)) (fun y=>⟨[(43,.i .i64 y.1),(42,.i .i64 ((S.arcs k).length:Nat)),(41,ybk (S.arcs k)),(12,.i .i64 k),(29,.i .i64 i),(28,.i .i64 (L.length:Nat)),(27,yci L),(10,.os (26,0) 0 S.N true),(1,yba S.N lg),(2,.fn 78 [] []),(3,.pt (3,0) 0 0)],
      [(3,spcO S),(26,.one (some ⟨3,false,1,S.N,fun k=>[.i .i64 (y.2 k:Nat)]⟩))]⟩) (fun y=>y.1<=(S.arcs k).length/\(∀k,k<S.N->B k (y.2 k))/\(∀q,q≠k->y.2 q<=24*i)/\y.2 k<=24*(i+1)) (fun y=>(S.arcs k).length-y.1) (0,f) ⟨zK _,hf1,fun q _=>hf2 q,by have:=hf2 k;show f k<=24*(i+1);omega⟩ ?_ ?_
     .refine yh [] [] [] ?_;simp only[yci,yba,spcO,spcC,ybk,allQ,live,yc,zG,go_sem,zA,zC,↓reduceIte,reduceCtorEq]
     .rintro⟨j,f⟩ ⟨hj,hf1,hf2,hf3⟩;simp only at hj hf1 hf2 hf3 ⊢
      by_cases hlt3:j<(S.arcs k).length
      .have d2:=dec_lt hlt3;have hto:=h.to k hkN j hlt3;have hsub:=(h.sub k hkN j hlt3).1;have harc:=hB.arc k hkN hq j hlt3;have hne:((S.arcs k).getD j (0,0)).2≠k:=fun e=>hf.cyc (fun _=>k) 1 ⟨by omega,fun _=>rfl,fun _=>hkN,fun _=>⟨_,by rw[getD_at hlt3];exact zY _,e⟩⟩
       obtain⟨⟨a,t⟩,hat⟩:∃p,(S.arcs k).getD j (0,0)=p:=⟨_,rfl⟩;rw[hat]at hto hsub harc hne;simp only at hto hsub harc hne;have hM:=ybqx (s:=a) (t:=t) (by omega)
       have hpa:=ydfd a hsub;have hft:=hf2 t hne;obtain⟨f',hf'⟩:∃f':Nat->Nat,(fun q=>if q=k then max (f k) (popP a+f t)else f q)=f':=⟨_,rfl⟩
       have hk':f' k=max (f k) (popP a+f t):=by rw[<-hf'];simp
       have hq':∀q,q≠k->f' q=f q:=fun q e=>by rw[<-hf'];simp[e]
       have hE1:∀(i:Nat),i<S.N->(if i=k then[SV.i .i64 (max (f k:Int) ((popP a:Int)+(f t:Int)))]else[SV.i .i64 (f i:Int)])=[SV.i .i64 (f' i:Int)]:=fun i _=>by
        by_cases q:i=k
        .subst q;rw[if_pos rfl,hk'];congr 2;omega
        .rw[if_neg q,hq' i q]
       simp only[ycfa,ycoh,ycmr,yczm,yci,yba,spcO,spcC,ybk,d2,hat,clash,go_sem,zA,zB,zC,↓reduceIte,reduceCtorEq]
       repeat refine zF (by first|omega|decide|exact ikw (by omega) (by omega)) ?_
       refine hM.use ?_;simp only[ybh,clash,go_sem,zA,zB,↓reduceIte,reduceCtorEq]
       repeat refine zF (by first|omega|decide|exact ikw (by omega) (by omega)) ?_
       refine yj (j+1,f') ⟨hlt3,fun q hqN=>?_,fun q e=>by show f' q<=_;rw[hq' q e];exact hf2 q e,by show f' k<=_;rw[hk'];omega⟩ (by show _-(j+1)<_-j;omega) ?_
       .show B q (f' q)
        by_cases e:q=k
        .subst e;rw[hk'];rcases Nat.le_total (f q) (popP a+f t)with r|r
         .rw[Nat.max_eq_right r];exact harc _ (hf1 t hto)
         .rw[Nat.max_eq_left r];exact hf1 q hqN
        .rw[hq' q e];exact hf1 q hqN
       refine yh [] [] [] ?_;simp only[allQ,live,yc,yx,go_sem,zA,zC,↓reduceIte,reduceCtorEq];exact⟨by omega,fun i hi=>yfn (hE1 i hi)⟩
      .obtain rfl:j=(S.arcs k).length:=by omega
       simp only[ycfa,ybyq,yci,yba,spcO,spcC,ybk,zJ,clash,go_sem,zA,zB,↓reduceIte,reduceCtorEq]
       repeat refine zF (by first|omega|decide|exact ikw (by omega) (by omega)) ?_
       refine yj (i+1,f) ⟨hlt2,hf1,fun q=>?_⟩ (by show _-(i+1)<_-i;omega) ?_
       .show f q<=24*(i+1)
        by_cases e:q=k
        .rw[e];exact hf3
        .have:=hf2 q e;omega
       refine yh [] [] [] ?_;simp only[allQ,live,yc,yx,go_sem,zA,zC,↓reduceIte,reduceCtorEq];omega
  .obtain rfl:i=L.length:=by omega
   simp only[yclv,ycnu,yci,zJ,go_sem,zA,zB,↓reduceIte,reduceCtorEq];exact⟨f,Sim.refl _,hf1,fun k _=>by have:=hf2 k;omega⟩
theorem ycgq{S:Spc}(h:S.ok){lg:Nat->Bool}(hf:S.free lg){B:Nat->Nat->Prop}(hB:MvB S lg B) :
 Ct zH 20 [.ag (spcC S),yba S.N lg] fun r=>∃f:Nat->Nat,Sim r (.tp [.sl 1 S.N fun k=>[.i .i64 (f k:Nat)],.i .i64 0])/\(∀k,k<S.N->B k (f k))/\∀k,k<S.N->f k<=1000000:=by
 refine ydld _ _ ?_;have hG:=ybij h hf hB;simp only[spcC,ybk,yba]at hG;simp only[c20,ydyw,ydwx,spcC,ybk,yba,clash,go_sem,zA,zB,zC,↓reduceIte,reduceCtorEq];refine hG.fnd (V:=fun f:Nat->Nat=>.tp [.sl 1 S.N fun k=>[.i .i64 (f k:Nat)],.i .i64 0]) (fun r f h=>h.1) fun r f hf=>?_;simp only[ybh,clash,go_sem,zA,zB,↓reduceIte,reduceCtorEq];exact⟨f,Sim.refl _,hf.2⟩
end Sh
end
section
def chTo(perm:Nat->Bool)(e n:Nat):List Nat:=(zO n).filter fun s=>decide (s≠0/\s&&&e=s)&&perm s
def chP(perm:Nat->Bool)(e:Nat):List Nat:=chTo perm e 16
def nxB(e s:Nat):Nat:=((s+4294967296-e)%4294967296)&&&e
set_option maxRecDepth 100000 in
theorem yuf:∀e,e<16->e≠0->(4294967296-e)&&&e≠0/\(4294967296-e)&&&e<16/\((4294967296-e)&&&e)&&&e=(4294967296-e)&&&e/\∀t,t<16->t≠0->t&&&e=t->(4294967296-e)&&&e<=t:=by decide +kernel
set_option maxRecDepth 100000 in
theorem ybju:((zO 16).all fun e=>(zO 16).all fun s=>s==0 || !(s&&&e==s)||(nxB e s==0&&(zO 16).all fun t=>!(t&&&e==t)||zBQ t s)||(zAW s (nxB e s)&&zAW (nxB e s) 16&&(nxB e s&&&e==nxB e s)&&(zO 16).all fun t=>!(t&&&e==t)||zBQ t s||zBQ (nxB e s) t))=true:=by decide +kernel
theorem ybri(e:Nat)(he:e<16)(s:Nat)(hs:s<16)(h0:s≠0)(h1:s&&&e=s):(nxB e s=0/\∀t,t<16->t&&&e=t->t<=s)\/(s<nxB e s/\nxB e s<16/\nxB e s&&&e=nxB e s/\∀t,t<16->t&&&e=t->s<t->nxB e s<=t):=by
 have h:=List.all_eq_true.1 (List.all_eq_true.1 ybju e (List.mem_range.2 he)) s (List.mem_range.2 hs);rw[zX,zX,zX]at h;rcases h with((h|h)|h)|h
 .exact absurd (beq_iff_eq.1 h) h0
 .rw[zAG,beq_eq_false_iff_ne]at h;exact absurd h1 h
 .rw[zT,beq_iff_eq]at h;refine .inl ⟨h.1,fun t ht h2=>?_⟩;have:=List.all_eq_true.1 h.2 t (List.mem_range.2 ht);rw[zX,zAG,beq_eq_false_iff_ne]at this;exact this.elim (fun q=>absurd h2 q) zN
 .rw[zT,zT,zT,beq_iff_eq]at h;obtain⟨⟨⟨a,b⟩,c⟩,d⟩:=h;have a:s+1<=nxB e s:=zN a;have b:nxB e s+1<=16:=zN b;refine .inr ⟨a,b,c,fun t ht h2 h3=>?_⟩;have:=List.all_eq_true.1 d t (List.mem_range.2 ht);rw[zX,zX,zAG,beq_eq_false_iff_ne]at this;rcases this with(q|q)|q
  .exact absurd h2 q
  .have:=zN q;omega
  .exact zN q
theorem ykg{perm:Nat->Bool}{e n:Nat}:∀d,(∀t,n<=t->t<n+d->¬(t≠0/\t&&&e=t))->chTo perm e (n+d)=chTo perm e n
 |0,_=>rfl
 | d+1,h=>by
   have ih:=ykg (perm:=perm) d fun t h1 h2=>h t h1 (by omega)
   rw[<-ih,<-Nat.add_assoc];unfold chTo;rw[zAD,zV];have:=h (n+d) (by omega) (by omega)
   simp only[zAB,decide_eq_false this,Bool.false_and,Bool.false_eq_true,if_false,zBE,zW]
theorem ybwt{perm:Nat->Bool}{e s:Nat}(h:s≠0/\s&&&e=s):chTo perm e (s+1)=chTo perm e s++if perm s=true then[s]else[]:=by
 unfold chTo;rw[zAD,zV];congr 1;cases hp:perm s<;>simp only[zAB,decide_eq_true h,hp,Bool.true_and,zBE]<;>rfl
theorem yblu{perm:Nat->Bool}{e l:Nat}(h:∀t,t<l->¬(t≠0/\t&&&e=t)):chTo perm e l=[]:=by
 have:=ykg (perm:=perm) (n:=0) l fun t _ h2=>h t (by omega)
 rw[Nat.zero_add]at this;exact this
theorem yblg{perm:Nat->Bool}{e n s:Nat}(h:s∈chTo perm e n):s<n/\s≠0/\s&&&e=s/\perm s=true:=by
 unfold chTo at h;rw[zAL,zAN,zT,decide_eq_true_iff]at h;exact⟨h.1,h.2.1.1,h.2.1.2,h.2.2⟩
theorem ybgu(perm:Nat->Bool)(e n:Nat):(chTo perm e n).Pairwise (· < ·):=List.Pairwise.filter _ List.pairwise_lt_range
theorem ybba(perm:Nat->Bool)(e n:Nat):(chTo perm e n).length<=n:=by
 have:=zAC (fun s=>decide (s≠0/\s&&&e=s)&&perm s) (zO n);unfold chTo
 simpa using this
theorem yblo(perm:Nat->Bool):chP perm 0=[]:=by
 unfold chP;refine yblu fun t _ h=>h.1 ?_;rw[<-h.2,Nat.and_zero]
theorem ydrj{perm:Nat->Bool}{e:Nat}(he:e<16)(h0:e≠0)(hp:perm ((4294967296-e)&&&e)=true):chP perm e≠[]:=fun h=>by
 obtain⟨h1,h2,h3,_⟩:=yuf e he h0
 have:((4294967296-e)&&&e)∈chP perm e:=by
  unfold chP chTo;rw[zAL,zAN,zT,decide_eq_true_iff];exact⟨h2,⟨h1,h3⟩,hp⟩
 rw[h]at this;cases this
theorem ydbz{a b:Nat}(ha:a<2^32)(hb:b<2^32):IntKind.wrap .u32 ((a:Int)-(b:Int))=(((a+4294967296-b)%4294967296:Nat):Int):=by
 unfold IntKind.wrap;simp[IntKind.bits,IntKind.signed];omega
namespace Sh
open Ev Go.RowKit
def usO(F:Nat)(L:List Nat):Nat×Fam:=(F,.one (some ⟨77,false,1,L.length,fun i=>[.i .u32 ((L.getD i 0:Nat):Int)]⟩))
theorem ydcv(L:List Nat)(x:Nat){i:Nat}(hi:i<L.length+1):(if i<L.length then[SV.i .u32 ((L.getD i 0:Nat):Int)]else zAU 1 (zAV ((i-L.length)*1) [SV.i .u32 (x:Int)]))=[SV.i .u32 (((L++[x]).getD i 0:Nat):Int)]:=by
 by_cases q:i<L.length
 .rw[if_pos q];simp[zQ,zM q]
 .obtain rfl:i=L.length:=by omega
  rw[if_neg q,zAH];simp[zQ]
set_option maxHeartbeats 1000000 in
theorem ybil{net:List Nat}{kind:Int}(hkd:kind=2\/kind=3){e:Nat}(he:e<16){perm:Nat->Bool}(hperm:∀s,s≠0->s<16->s&&&e=s->Returns zH 171 [usV net,.i .i64 kind,.i .u32 (e:Nat),.i .u32 (s:Nat)] (.b (perm s))) :
 Returns zH 128 [usV net,.i .i64 kind,.i .u32 (e:Nat)] (.tp [usV (chP perm e),.i .i64 0]):=by
 refine Returns.of (ydiz _ _ ?_)
 by_cases h0:e=0
 .subst h0;rw[yblo];simp only[c128,ycdd,ybxe,ycnz,usV,clash,zG,go_sem,zA,zB,↓reduceIte,reduceCtorEq];exact ywu ⟨ybkd,Sim.refl _,trivial⟩
 .have z0 : ((e:Int)==0)=false:=by rw[beq_eq_false_iff_ne];omega
  have k1:(kind==1)=false:=by rw[beq_eq_false_iff_ne];omega
  have k4:(kind==4)=false:=by rw[beq_eq_false_iff_ne];omega
  have hO:=ybmn (s:=e) (by omega)
  have hp4:popP e<=10:=(by decide +kernel:∀e,e<16->popP e<=10) e he
  have d1:decide (((popP e:Nat):Int)>10)=false:=by simp;omega
  have a1:=u32_neg (a:=e) (by omega) (by omega)
  have a2:=u32_and (a:=2^32-e) (b:=e) (by omega) (by omega)
  simp only[IntKind.bits]at a2;obtain⟨l1,l2,l3,l4⟩:=yuf e he h0
  change ((4294967296-e)&&&e)≠0 at l1
  obtain⟨l,hl⟩:∃l,(4294967296-e)&&&e=l:=⟨_,rfl⟩;have hl':(2^32-e)&&&e=l:=hl;rw[hl]at l1 l2 l3 l4;rw[hl']at a2;simp only[c128,ycdd,ybxe,ycrn,ycmi,ycog,ybyt,ycel,usV,z0,k1,k4,clash,go_sem,zA,zB,zC,↓reduceIte,reduceCtorEq];refine hO.use ?_;simp only[ybh,ybua,d1,a1,a2,IntKind.signed,clash,go_sem,zA,zB,↓reduceIte,reduceCtorEq]
  refine ybf (σ:=Nat×List Nat) (fun y=>⟨[(10,.i .u32 (y.1:Nat)),(8,.pt (8,0) 0 0),(0,usV net),(1,.i .i64 kind),(2,.i .u32 (e:Nat))],[(8,.one (some ⟨38,true,1,1,fun _=>[.os (70,0) 0 y.2.length true]⟩)),usO 70 y.2]⟩)
   (fun y=>(y.1=0/\y.2=chP perm e)\/(y.1≠0/\y.1<16/\y.1&&&e=y.1/\y.2=chTo perm e y.1)) (fun y=>if y.1=0 then 0 else 16-y.1) (l,[]) (.inr ⟨l1,l2,l3,(yblu fun t ht h=>by have:=l4 t (by omega) h.1 h.2;omega).symm⟩) ?_ ?_
  .refine yh [] [70] [] ?_;simp only[usV,usO,allQ,live,yc,go_sem,zA,zC,zAF,↓reduceIte,reduceCtorEq];exact fun i _=>⟨(70,0),rfl,rfl,rfl⟩
  .rintro⟨s,L⟩ hinv;simp only at hinv;rcases hinv with⟨rfl,rfl⟩|⟨h1,h2,h3,rfl⟩
   .simp only[ybkb,ybto,usV,usO,zG,zU,clash,go_sem,zA,zB,↓reduceIte,reduceCtorEq];exact Sim.refl _
   .simp only at h1 h2 h3 ⊢;have d2:((s:Int)!=0)=true:=by rw[bne_iff_ne];omega
    have b1:=ydbz (a:=s) (b:=e) (by omega) (by omega)
    have b2:=u32_and (a:=(s+4294967296-e)%4294967296) (b:=e) (by omega) (by omega)
    change _=((nxB e s:Nat):Int)at b2
    simp only[IntKind.bits]at b2;have hP:=hperm s h1 h2 h3;have hsn:=ybwt (perm:=perm) ⟨h1,h3⟩;have hcl:=ybba perm e s
    have hnx:∀L,L=chTo perm e (s+1)->((nxB e s=0/\L=chP perm e)\/(nxB e s≠0/\nxB e s<16/\nxB e s&&&e=nxB e s/\L=chTo perm e (nxB e s)))/\(if nxB e s=0 then 0 else 16-nxB e s)<(if s=0 then 0 else 16-s):=fun L hL=>by
     subst hL;rw[if_neg h1];rcases ybri e he s h2 h1 h3 with⟨n1,n2⟩|⟨n1,n2,n3,n4⟩
     .refine⟨.inl ⟨n1,?_⟩,by rw[if_pos n1];omega⟩
      have:=ykg (perm:=perm) (e:=e) (n:=s+1) (16-(s+1)) fun t h1 h2 h=>by have:=n2 t (by omega) h.2;omega
      rw[show s+1+(16-(s+1))=16 by omega]at this
      exact this.symm
     .refine⟨.inr ⟨by omega,n2,n3,?_⟩,by rw[if_neg (by omega)];omega⟩
      have:=ykg (perm:=perm) (e:=e) (n:=s+1) (nxB e s-(s+1)) fun t h1 h2 h=>by have:=n4 t (by omega) h.2 (by omega);omega
      rw[show s+1+(nxB e s-(s+1))=nxB e s by omega]at this
      exact this.symm
    obtain⟨L,hL⟩:∃L,chTo perm e s=L:=⟨_,rfl⟩;obtain⟨L',hL'⟩:∃L,chTo perm e (s+1)=L:=⟨_,rfl⟩;rw[hL]at hcl hsn;rw[hL']at hsn hnx;simp only[usV]at hP;simp only[ybkb,ybxr,usV,usO,d2,hL,clash,go_sem,zA,zB,↓reduceIte,reduceCtorEq];refine hP.use ?_;cases hp:perm s with
    | true =>
      rw[hp,if_pos rfl]at hsn;simp only[ybh,ybjo,ybvi,b1,b2,clash,go_sem,zA,zB,zD,zC,↓reduceIte,reduceCtorEq]
      repeat refine zF (by first|omega|decide|exact ikw (by omega) (by omega)) ?_
      refine yj (nxB e s,L') (hnx _ rfl).1 (hnx _ rfl).2 ?_;refine yh [(70,fun i=>(51,i))] [] [] ?_;simp only[hsn,zI,allQ,live,yc,go_sem,zA,zC,↓reduceIte,reduceCtorEq];exact fun i hi=>yfn (ydcv L s hi)
    | false =>
      rw[hp,if_neg (by decide),zW]at hsn
      simp only[ybh,ybjo,b1,b2,clash,go_sem,zA,zB,↓reduceIte,reduceCtorEq]
      repeat refine zF (by first|omega|decide|exact ikw (by omega) (by omega)) ?_
      refine yj (nxB e s,L') (hnx _ rfl).1 (hnx _ rfl).2 ?_;refine yh [] [] [] ?_;simp only[hsn,allQ,live,yc,go_sem,zA,zC,↓reduceIte,reduceCtorEq]
def indB(net:List Nat)(s:Nat):Bool:=(ybw s).all fun v=>net.getD v 0&&&s==0
theorem yyo{net:List Nat}{s:Nat}(hs:s<2^32):indB net s=true↔∀v,s.testBit v=true->net.getD v 0&&&s=0:=by
 unfold indB;rw[List.all_eq_true];refine⟨fun h v hv=>?_,fun h v hv=>beq_iff_eq.2 (h v (ytd.1 hv).2)⟩
 have:v<32:=by
  refine zBL fun q=>?_;rw[Nat.testBit_lt_two_pow (Nat.lt_of_lt_of_le hs (Nat.pow_le_pow_right (by omega) (by omega)))]at hv
  cases hv
 exact beq_iff_eq.1 (h v (ytd.2 ⟨this,hv⟩))
set_option maxHeartbeats 1000000 in
theorem ybpo{net:List Nat}{s:Nat}(hs:s<2^24)(hn:∀v,s.testBit v=true->v<net.length)(hb:∀v,net.getD v 0<2^32) :
 Returns zH 206 [usV net,.i .u32 s] (.b (indB net s)):=by
 refine Returns.of (ycky [129] _ _ ?_);simp only[c206,ycqg,ycsc,usV,clash,go_sem,zA,zB,zC,↓reduceIte,reduceCtorEq];refine yco (ybmh (s:=s)) [(1,60)] 0 [2,3,4] [2,3,4] ?_ ?_
 .simp only[okN,yby,ydn,ycs,yck,allQ,live,yc,go_sem,zA,zAF,↓reduceIte,reduceCtorEq]
 rintro r o' ⟨rfl,rfl⟩;simp only[setO,yiq,yhr,nuF,nu,difN,ycs,yck,Fam.ren,OB.ren,dim,ygr,ycay,ycch,go_sem,zA,zAF,↓reduceIte]
 refine yjl (ybfn (b:=60) (s:=s) (by omega)) [(60,0),(2,0),(3,0),(4,0)] (fun i (_:Unit)=>⟨[(7,.fn 172 [] [.pt (60,0) 0 0]),(2,.pt (2,0) 0 0),(3,.pt (3,0) 0 0),(4,.pt (4,0) 0 0)],
  [(60,.one (some (setO (ydq s i)))),(2,.one (some ⟨83,true,1,1,fun _=>[usV net]⟩)),(3,.one (some ⟨77,true,1,1,fun _=>[.i .u32 s]⟩)),(4,.one (some ⟨4,true,1,1,fun _=>[.b false]⟩))]⟩)
  (fun i _=>i<=(ybw s).length/\∀j,j<i->net.getD ((ybw s).getD j 0) 0&&&s=0) () ⟨zK _,fun _ h=>absurd h (Nat.not_lt_zero _)⟩ ⟨fun _ h=>absurd h List.not_mem_nil,fun β h=>by rw[List.mem_singleton.1 h];exact List.mem_cons_self⟩ ?_ (fun _=>rfl) ?_ ?_ ?_
 .refine yh [] [] [] ?_;simp only[setO,usV,ydq,allQ,live,yc,go_sem,zA,zC,↓reduceIte,reduceCtorEq]
 .intro i _ hi _;refine⟨rfl,?_⟩;simp only[go_sem,allQ,go_sem,zA]
 .rintro i _ ⟨hi,hj⟩ hlt;have hlt:i<(ybw s).length:=hlt;obtain⟨h24,hbit⟩:=ybnk hs (getD_mem hlt);obtain⟨v,hv⟩:∃v,(ybw s).getD i 0=v:=⟨_,rfl⟩;rw[hv]at h24 hbit;have hvn:=hn v hbit;have an:=u32_and (a:=net.getD v 0) (b:=s) (hb v) (by omega)
  obtain⟨a,ha⟩:∃a,net.getD v 0&&&s=a:=⟨_,rfl⟩;rw[ha]at an;simp only[IntKind.bits]at an;refine⟨_,rfl,?_⟩;simp only[ybdd]
  by_cases q:a=0
  .have z1:((a:Int)!=0)=false:=by rw[q];rfl
   simp only[ybtd,ycby,usV,setO,hv,an,z1,clash,go_sem,zA,zB,↓reduceIte,reduceCtorEq]
   repeat refine zF (by first|omega|decide|exact ikw (by omega) (by omega)) ?_
   refine zF ⟨hlt,fun j hj'=>?_⟩ ?_
   .by_cases e:j=i
    .rw[e,hv,ha,q]
    .exact hj j (by omega)
   refine ybi [] [] [] ?_;simp only[allQ,live,yc,go_sem,zA,zC,↓reduceIte,reduceCtorEq]
  .have z1:((a:Int)!=0)=true:=by rw[bne_iff_ne];omega
   have hf:indB net s=false:=by
    cases hB:indB net s with
    |false=>rfl
    |true=>exact absurd (((yyo (by omega)).1 hB v hbit).symm.trans ha) (fun r=>q r.symm)
   rw[hf];simp only[ybtd,ycby,ycwg,usV,setO,hv,an,z1,splice,clash,go_sem,zA,zB,↓reduceIte,reduceCtorEq]
   repeat refine zF (by first|omega|decide|exact ikw (by omega) (by omega)) ?_
   exact Sim.refl _
 .rintro _ ⟨_,hj⟩;have hj:∀j,j<(ybw s).length->net.getD ((ybw s).getD j 0) 0&&&s=0:=hj
  have ht:indB net s=true:=List.all_eq_true.2 fun v hv=>by
   obtain⟨j,hj',rfl⟩:=zAR hv;have:=hj j hj';rw[getD_at hj']at this;exact beq_iff_eq.2 this
  rw[ht];simp only[ycrx,ybdd,splice,go_sem,zA,↓reduceIte];exact Sim.refl _
theorem ybau{net:List Nat}{e s:Nat}(he:e<2^24)(h0:s≠0)(hs:s<2^24)(hsub:difB s e=0)(hn:∀v,s.testBit v=true->v<net.length)(hb:∀v,net.getD v 0<2^32) :
 Returns zH 171 [usV net,.i .i64 2,.i .u32 e,.i .u32 s] (.b (indB net s)):=by
 refine Returns.of (ydei _ _ ?_);have z0:((s:Int)==0)=false:=by simp;omega
 have a0:=u32_andNot (a:=s) (b:=e) (by omega) (by omega)
 have hI:=ybpo hs hn hb;rw[hsub]at a0;simp only[usV]at hI;simp only[zG,IntKind.bits]at a0;simp only[c171,ycnx,yczg,usV,z0,a0,zU,go_sem,zA,zB,↓reduceIte,reduceCtorEq];simp only[ycra,yczs,ycng,ycwi,Int.reduceBEq,go_sem,zA,zB,↓reduceIte,reduceCtorEq];refine hI.use ?_;simp only[ybh,yvd,go_sem,zA,zB,↓reduceIte,reduceCtorEq]
theorem yblf{s e:Nat}(h:s&&&e=s):difB s e=0:=by
 unfold difB;rw[h,Nat.xor_self]
end Sh
end
section
namespace Ev
open Go Go.RowKit
noncomputable def ybeb(m:Mem)(A:Addr):Option Value:=match A.spot,m.b.get A.block with
 |none,some (.cells c n _ _)=>bif zAW A.off n then c.get A.off else none
 |_,_=>none
section
variable {φ φ':Phi}{M:AM}{w:World}{m:Mem}
theorem ybbj{A:Addr}{v box:Value}(h:ybeb m A=some v)(hv:VR φ (.pointer (some A)) box)(hR:Rel φ M w)(hs:Sub m M) :
 ∃b o s,box = .pointer (some ⟨b,o,none⟩)/\w.cell? ⟨b,o,none⟩=some s/\VR φ v s:=by
 unfold ybeb at h;split at h
 .rename_i c n e z hsp hb
  rw[Bool.cond_eq_ite]at h;split at h
  .rename_i hlt
   have hlt:A.off<n:=zN hlt;obtain⟨lc,cs,e',fz,g1,g2,g3,_,g4,g5,g6⟩:=hR.cellsAt (hs _ _ hb);obtain⟨s,k1,k2⟩:=g6 _ _ hlt h;cases hv with
   |simple hq=>cases hq
   | ptr hp =>
     rw[hp]at g1;cases g1
     exact⟨_,_,s,rfl,cell_of g4 k1,k2⟩
  .cases h
 .cases h
end
abbrev yddb(x:Int×Int):Value:=.agg #[.int .i64 x.1,.int .i64 x.2]
set_option maxRecDepth 100000 in
set_option maxHeartbeats 1000000 in
theorem yclu{A:Addr}{v:Value}{us:List Value}:ItOk zH 133 [.pointer (some A)]
 ⟨us.length,fun k=>[.int .i64 ((us.length-1-k:Nat):Int),us.getD (us.length-1-k) undef],fun _ m=>ybeb m A=some v/\∃ft,rowOf m 1 v=some (us,ft),fun _ m=>m,fun _ _ M w M' w'=>M'=M/\w'=w⟩:=by
 refine⟨fun args w=>ybx yri zBN rfl args w,fun k m hk hw _=>Grow.refl hw,?_,?_⟩
 .rintro k φ M w m M' w' hk hw hR hs hp ⟨rfl,rfl⟩;exact Good.refl hR hs
 .intro l St Stop φ M w cap' hread hgrow hyield h0 hcap;obtain⟨box,rfl,hbox⟩:=ygi hcap;obtain⟨m,hR,hs,q1,ft,q2⟩:=(hread 0 φ M w h0).2;obtain⟨b,o,s,rfl,hcell,hvs⟩:=ybbj q1 hbox hR hs;obtain⟨As,cs,rfl,hs1,hs2⟩:=ycw (ybkj q2 hvs hR hs);have Hread:=zL hread;have Hyield:=zL hyield;have Hbox:=zL hbox;have H0:=zL h0
  clear hread hgrow hyield hvs h0 hbox hR hs q1 q2
  refine callsIn_of_wp zBN rfl trivial ?_
  simp only[Tryz.ntmps133,zAY,zBB,zBF,zB,zBK,zAP,
   zAQ,zAZ,zAS,zBG,zBC]
  gi_wp2
  gi_loopg [3] us.length (fun q t wr=>∃k:Nat,q+k=us.length/\t = .int .i64 ((us.length:Int)-1-k)/\Hid (∃φ' M',φ.le φ'/\St k φ' M' wr))
  case atStart=>exact⟨0,by omega,by simp,zL ⟨φ,M,φ.le_refl,H0.out⟩⟩
  case round =>
   obtain⟨k,hq,rfl,hst⟩:=hrel
   by_cases hlt:k<us.length
   .obtain⟨φ1,M1,hle1,hst1⟩:=hst.out;obtain⟨m1,hR1,hs1',q1,ft1,q2⟩:=(Hread.out _ _ _ _ hst1).2;obtain⟨b',o',s',e1,hcell1,hvs1⟩:=ybbj q1 (Hbox.out.mono hle1) hR1 hs1';cases e1
    obtain⟨As',cs',rfl,e2,e3,e4⟩:=ybkj q2 hvs1 hR1 hs1';obtain⟨rb,ro,rfl,hrb,e5⟩:=e4 (by omega)
    obtain⟨j,hj⟩:∃j,us.length-1-k=j:=⟨_,rfl⟩;have hji:(us.length:Int)-1-k=(j:Int):=by omega
    have hjl:j<us.length:=by omega
    rw[hji];obtain⟨r,hr1,hr2⟩:=e5 j _ (zZ hjl);rw[zBA]at hr1;have hk1:(decide ((j:Int)>=0))=true:=by simp
    obtain⟨fn,tmps,assign,body,hy,hRd⟩:=Hyield.out k φ1 M1 wr [.int .i64 (j:Int),r] hlt hst1 (by
     show VRL φ1 [.int .i64 ((us.length-1-k:Nat):Int),us.getD (us.length-1-k) undef] _;rw[hj,Sh.getD_at hjl];exact .cons (.simple rfl) (.cons hr2 .nil))
    have hy:(Instr.yield l #[.int .i64 (j:Int),r]).run zH wr = .ok (.round l fn tmps assign body) wr:=hy;have Hst1:=zL hst1;have Hle1:=zL hle1
    clear hst hst1 hle1 q1 q2 hR1 hs1' hvs1 e5 e4 hr2
    gi_wp2
    refine hRd.mono ?_;rintro e W3 (⟨rfl,φ3,M3,hle3,_,hst3⟩|⟨rfl,hstop⟩)
    .have Hst3:=zL (hst3 _ _ ⟨rfl,rfl⟩);have Hle3:=zL hle3
     clear hst3 hle3 hRd hy
     gi_wp2
     gi_roundg (gk-1)
     case measure=>omega
     case rel =>
      refine⟨k+1,by omega,?_,zL ⟨φ3,M3,Phi.le_trans Hle1.out Hle3.out,Hst3.out⟩⟩
      congr 1;omega
    .have Hstop:=zL hstop
     clear hstop hRd hy
     gi_wp2
     refine bodyPost_ret (results_none rfl _ _ _) rfl ?_;exact⟨⟨_,rfl⟩,.inr Hstop.out⟩
   .gi_wp2
    obtain⟨φ2,M2,hle2,hst2⟩:=hst.out
    go_end0
    have hk:k=us.length:=by omega
    rw[hk]at hst2;exact⟨⟨_,rfl⟩,.inl ⟨φ2,M2,hst2⟩⟩
set_option maxRecDepth 100000 in
set_option maxHeartbeats 1000000 in
theorem yclx{A:Addr}{v:Value}{ls:List (Int×Int)}:ItOk zH 134 [.pointer (some A)]
 ⟨ls.length,fun k=>[.int .i64 ((ls.length-1-k:Nat):Int),yddb (ls.getD (ls.length-1-k) (0,0))],fun _ m=>ybeb m A=some v/\linksOf m v=some ls,fun _ m=>m,fun _ _ M w M' w'=>M'=M/\w'=w⟩:=by
 refine⟨fun args w=>ybx yri zBO rfl args w,fun k m hk hw _=>Grow.refl hw,?_,?_⟩
 .rintro k φ M w m M' w' hk hw hR hs hp ⟨rfl,rfl⟩;exact Good.refl hR hs
 .intro l St Stop φ M w cap' hread hgrow hyield h0 hcap;obtain⟨box,rfl,hbox⟩:=ygi hcap;obtain⟨m,hR,hs,q1,q2⟩:=(hread 0 φ M w h0).2;obtain⟨b,o,s,rfl,hcell,hvs⟩:=ybbj q1 hbox hR hs;obtain⟨As,cs,rfl,hs1,hs2⟩:=ycw (yiw q2 hvs hR hs);have Hread:=zL hread;have Hyield:=zL hyield;have Hbox:=zL hbox;have H0:=zL h0
  clear hread hgrow hyield hvs h0 hbox hR hs q1 q2
  refine callsIn_of_wp zBO rfl trivial ?_
  simp only[Tryz.ntmps134,zAY,zBB,zBF,zB,zBK,zAP,
   zAQ,zAZ,zAS,zBG,zBC]
  gi_wp2
  gi_loopg [3] ls.length (fun q t wr=>∃k:Nat,q+k=ls.length/\t = .int .i64 ((ls.length:Int)-1-k)/\Hid (∃φ' M',φ.le φ'/\St k φ' M' wr))
  case atStart=>exact⟨0,by omega,by simp,zL ⟨φ,M,φ.le_refl,H0.out⟩⟩
  case round =>
   obtain⟨k,hq,rfl,hst⟩:=hrel
   by_cases hlt:k<ls.length
   .obtain⟨φ1,M1,hle1,hst1⟩:=hst.out;obtain⟨m1,hR1,hs1',q1,q2⟩:=(Hread.out _ _ _ _ hst1).2;obtain⟨b',o',s',e1,hcell1,hvs1⟩:=ybbj q1 (Hbox.out.mono hle1) hR1 hs1';cases e1
    obtain⟨As',cs',rfl,e2,e3,e4⟩:=yiw q2 hvs1 hR1 hs1';obtain⟨rb,ro,rfl,hrb,e5⟩:=e4 (by omega)
    obtain⟨j,hj⟩:∃j,ls.length-1-k=j:=⟨_,rfl⟩;have hji:(ls.length:Int)-1-k=(j:Int):=by omega
    have hjl:j<ls.length:=by omega
    rw[hji];obtain⟨x,hx⟩:∃x,ls[j]?=some x:=⟨_,zZ hjl⟩;obtain⟨hc1,hc2,_,_⟩:=e5 j x hx;have hx':ls.getD j (0,0)=x:=by simp[zQ,hx]
    have hk1:(decide ((j:Int)>=0))=true:=by simp
    obtain⟨fn,tmps,assign,body,hy,hRd⟩:=Hyield.out k φ1 M1 wr [.int .i64 (j:Int),.agg #[.int .i64 x.1,.int .i64 x.2]] hlt hst1 (by
     show VRL φ1 [.int .i64 ((ls.length-1-k:Nat):Int),yddb (ls.getD (ls.length-1-k) (0,0))] _;rw[hj,hx'];exact .cons (.simple rfl) (.cons (VR.atomA (v:=yddb x) rfl) .nil))
    have hy:(Instr.yield l #[.int .i64 (j:Int),.agg #[.int .i64 x.1,.int .i64 x.2]]).run zH wr = .ok (.round l fn tmps assign body) wr:=hy;have Hst1:=zL hst1;have Hle1:=zL hle1
    clear hst hst1 hle1 q1 q2 hR1 hs1' hvs1 e5 e4
    gi_wp2
    refine hRd.mono ?_;rintro e W3 (⟨rfl,φ3,M3,hle3,_,hst3⟩|⟨rfl,hstop⟩)
    .have Hst3:=zL (hst3 _ _ ⟨rfl,rfl⟩);have Hle3:=zL hle3
     clear hst3 hle3 hRd hy
     gi_wp2
     gi_roundg (gk-1)
     case measure=>omega
     case rel =>
      refine⟨k+1,by omega,?_,zL ⟨φ3,M3,Phi.le_trans Hle1.out Hle3.out,Hst3.out⟩⟩
      congr 1;omega
    .have Hstop:=zL hstop
     clear hstop hRd hy
     gi_wp2
     refine bodyPost_ret (results_none rfl _ _ _) rfl ?_;exact⟨⟨_,rfl⟩,.inr Hstop.out⟩
   .gi_wp2
    obtain⟨φ2,M2,hle2,hst2⟩:=hst.out
    go_end0
    have hk:k=ls.length:=by omega
    rw[hk]at hst2;exact⟨⟨_,rfl⟩,.inl ⟨φ2,M2,hst2⟩⟩
end Ev
namespace Sh
open Ev
def bwdS(n:Nat)(e:Nat->SV):ItS:=⟨n,fun k=>[.i .i64 ((n-1-k:Nat):Int),e (n-1-k)],[],fun _ _=>True,fun _ o=>o⟩
theorem ybbp{ls:List (Int×Int)}(hI:∀l∈ls,I64 l.1/\I64 l.2):ItC zH 134 [.rf [ybb ls]] (bwdS ls.length fun k=>.ag [.i .i64 (ls.getD k (0,0)).1,.i .i64 (ls.getD k (0,0)).2]):=by
 intro lo F ω s f m us hc hr _;obtain⟨u,rfl,hu⟩:=rvl1 hr;obtain⟨bk,p,T,N,e,zz,L,rfl,h1,h2,h3,h4,h5⟩:=hu.rf_inv;obtain⟨v,rfl,hv⟩:=rvl1 h4;have hv0:RV F om0 (ybb ls) v:=hv
 have hbox:∀m':Mem,Le F m'.b.get->ybeb m' ⟨bk,p,none⟩=some v:=fun m' hF=>by
  unfold ybeb;simp only;rw[hF _ _ h1];simp only;rw[show zAW p N=true from zAO (show p+1<=N by simp at h2;omega)]
  simp only[cond_true];exact h3 0 (by simp)
 exact⟨_,yclx (A:=⟨bk,p,none⟩) (v:=v) (ls:=ls),rfl,fun F' ω' s' f' m' k hF _ hc' hk _=>⟨⟨hbox m' (hF.trans hc'.sub),yww (hF.trans hc'.sub) hv0 hI⟩,fun hk=>⟨.cons .i (.cons (.ag (.cons .i (.cons .i .nil))) .nil),hc'⟩⟩⟩
theorem ybfj{n:Nat}{e:Nat->SV}:ItC zH 133 [.rf [.sl 1 n fun k=>[e k]]] (bwdS n e):=by
 intro lo F ω s f m us hc hr _;obtain⟨u,rfl,hu⟩:=rvl1 hr;obtain⟨bk,p,T,N,ee,zz,L,rfl,h1,h2,h3,h4,h5⟩:=hu.rf_inv;obtain⟨v,rfl,hv⟩:=rvl1 h4
 have hbox:∀m':Mem,Le F m'.b.get->ybeb m' ⟨bk,p,none⟩=some v:=fun m' hF=>by
  unfold ybeb;simp only;rw[hF _ _ h1];simp only;rw[show zAW p N=true from zAO (show p+1<=N by simp at h2;omega)]
  simp only[cond_true];exact h3 0 (by simp)
 have fin:∀(us:List Value) (ft:List Nat),(∀m:Mem,Le F m.b.get->rowOf m 1 v=some (us,ft))->us.length=n->(∀(k:Nat) x,us[k]?=some x->RV F om0 (e k) x) ->
  ∃ T : It,ItOk zH 133 [.pointer (some ⟨bk,p,none⟩)] T/\T.n=n /\
    ∀ (F':AM) (ω':Om) (s':SS) (f':Fr) (m':Mem) (k:Nat),Le F F'->(∀β∈(bwdS n e).pr,∀x,ω β=some x->ω' β=some x)->Conc lo F' ω' s' f' m'->k<=n->(bwdS n e).own k s'.o ->
      T.pre k m'/\(k<n->RVL F' ω' ((bwdS n e).el k) (T.el k)/\Conc lo F' ω' ⟨s'.f,(bwdS n e).adv k s'.o⟩ f' (T.adv k m')):=fun us ft hrow hl hel=>by
  subst hl;refine⟨_,yclu (A:=⟨bk,p,none⟩) (v:=v) (us:=us),rfl,fun F' ω' s' f' m' k hF _ hc' hk _=>⟨⟨hbox m' (hF.trans hc'.sub),ft,hrow m' (hF.trans hc'.sub)⟩,fun hk=>⟨.cons .i (.cons ?_ .nil),hc'⟩⟩⟩;have hj:us.length-1-k<us.length:=by omega
  have h:=hel (us.length-1-k) _ (zZ hj);rw[getD_at hj];exact h.mono hF (yqo _)
 rcases hv.sl_inv with⟨k0,hz⟩|⟨bk',p',cp,T',N',e',zz',L',rfl,g1,g2,g3,g4,g5,g6,g7⟩
 .subst k0;exact fin [] [] (fun m _=>row_zero hz 1) rfl (fun k x q=>by simp at q)
 .rcases Nat.eq_zero_or_pos n with h0|h0
  .subst h0;exact fin [] [] (fun m _=>rfl) rfl (fun k x q=>by simp at q)
  .refine fin (ycm L' n) [bk'] (fun m hF=>row_of (hF _ _ g1) h0 g3 g4 g5) (by rw[ycp g4,zBA]) fun k x q1=>?_
   have hk:k<n:=by
    have:=(List.getElem?_eq_some_iff.1 q1).1;rw[ycp g4,zBA]at this;exact this
   rw[ybfq g4 hk]at q1;obtain⟨v,e1,hv⟩:=rvl1 (g6 k hk);rw[e1]at q1;cases q1
   exact hv
theorem ybex{n:Nat}{e:Nat->SV}:Returns zH 67 [.sl 1 n fun k=>[e k]] (.fn 133 [] [.rf [.sl 1 n fun k=>[e k]]]):=by
 refine Returns.of (ydne _ _ ?_);simp only[c67,ydwg,ydrq,go_sem,zA,zB,zD,zC,↓reduceIte,reduceCtorEq];exact Sim.refl _
theorem ybes{ls:List (Int×Int)}:Returns zH 68 [ybb ls] (.fn 134 [] [.rf [ybb ls]]):=by
 refine Returns.of (ydxb _ _ ?_);simp only[c68,ydsb,ydsi,go_sem,zA,zB,zD,zC,↓reduceIte,reduceCtorEq];exact Sim.refl _
end Sh
end
section
def ymj(S:Spc)(p s t:Nat):Nat:=difB p s&&&S.en t
def yfw(S:Spc)(p s t:Nat):Nat:=if ymj S p s t=0 then S.en t else ymj S p s t
namespace Sh
open Ev Go.RowKit
theorem yuc{S:Spc}(h:S.ok){k p s t:Nat}(hp:p<2^32)(hs:s<2^32)(ht:t<S.N) :
 Returns zH 76 [.ag (spcC S),.ag [.i .i64 (k:Nat),.i .u32 (p:Nat)],.ag [.i .u32 (s:Nat),.i .i64 (t:Nat)]] (.tp [.ag [.i .i64 (t:Nat),.i .u32 (yfw S p s t:Nat)],.b (decide (ymj S p s t=0))]):=by
 refine Returns.of (ydms _ _ ?_);have hle:=h.le;have he:=h.lt t ht;have a1:=u32_andNot (a:=p) (b:=s) hp hs;have hd:difB p s<2^32:=yuh hp;have a2:=u32_and (a:=difB p s) (b:=S.en t) hd (by omega)
 change _=((ymj S p s t:Nat):Int)at a2
 simp only[IntKind.bits]at a1 a2;obtain⟨x,hx⟩:∃x,ymj S p s t=x:=⟨_,rfl⟩;unfold yfw;rw[hx]at a2 ⊢
 by_cases q:x=0
 .have d1:((x:Int)==0)=true:=by rw[q];rfl
  rw[if_pos q,decide_eq_true q];simp only[c76,ydic,ydft,ydfn,ydwp,spcC,ybk,a1,a2,d1,splice,clash,go_sem,zA,zB,zD,zC,↓reduceIte,reduceCtorEq]
  repeat refine zF (by first|omega|decide|exact ikw (by omega) (by omega)) ?_
  exact Sim.refl _
 .have d1:((x:Int)==0)=false:=by rw[beq_eq_false_iff_ne];omega
  rw[if_neg q,decide_eq_false q];simp only[c76,ydic,ydft,ydfn,ydxl,spcC,ybk,a1,a2,d1,splice,clash,go_sem,zA,zB,zD,zC,↓reduceIte,reduceCtorEq]
  repeat refine zF (by first|omega|decide|exact ikw (by omega) (by omega)) ?_
  exact Sim.refl _
def ygd(Q:List (Nat×Nat)):Fam:=.one (some ⟨109,false,2,Q.length,fun i=>[.i .i64 ((Q.getD i (0,0)).1:Nat),.i .u32 ((Q.getD i (0,0)).2:Nat)]⟩)
def yfi(N:Nat)(lg:Nat->Bool)(seen:Nat->Bool)(Q:List (Nat×Nat)):Own :=
 [(301,.one (some ⟨45,true,1,1,fun _=>[yba N lg]⟩)),(302,.one (some ⟨166,true,1,1,fun _=>[.mr (303,0)]⟩)),(303,.one (some ⟨CU,true,0,0,fun c=>[.b (seen c)]⟩)),
  (304,.one (some ⟨167,true,1,1,fun _=>[.os (305,0) 0 Q.length true]⟩)),(305,ygd Q)]
def addS(seen:Nat->Bool)(c:Nat):Nat->Bool:=fun d=>if d=c then true else seen d
theorem ybyn(Q:List (Nat×Nat))(x:Nat×Nat){i:Nat}(hi:i<Q.length+1):(if i<Q.length then[SV.i .i64 ((Q.getD i (0,0)).1:Nat),SV.i .u32 ((Q.getD i (0,0)).2:Nat)]else zAU 2 (zAV ((i-Q.length)*2) [SV.i .i64 (x.1:Int),SV.i .u32 (x.2:Int)]))=[SV.i .i64 (((Q++[x]).getD i (0,0)).1:Nat),SV.i .u32 (((Q++[x]).getD i (0,0)).2:Nat)]:=by
 by_cases q:i<Q.length
 .rw[if_pos q];simp[zQ,zM q]
 .obtain rfl:i=Q.length:=by omega
  rw[if_neg q,zAH];simp[zQ]
theorem yne{h:Nm->Nm}{vir:List Nat}{O1 O:Own}{X:List SV}{k k':IntKind}{x y:Int}(e:X=[.i k x,.i k' y]):telL h vir [] O1 O X [.i k x,.i k' y]:=by
 subst e;exact⟨.inl ⟨(yhn _ _ _).2 trivial,by rw[yec];exact Sim.refl _,rfl⟩,rfl,.inl ⟨(yhn _ _ _).2 trivial,by rw[yec];exact Sim.refl _,rfl⟩,rfl,trivial⟩
theorem ydzm(x:Bool):mval 0 (.b x)=true:=rfl
theorem yebp(n:Int):mval 1 (.i .i64 n)=true:=rfl
set_option maxHeartbeats 1000000 in
theorem ydsu{N:Nat}{lg:Nat->Bool}{seen:Nat->Bool}{Q:List (Nat×Nat)}(hQ:Q.length<=300000){k s:Nat}(hk:k<N)(hN:N<=32768)(hs:s<2^32) :
 Cm zH 137 [(301,0),(302,0),(304,0)] (yfi N lg seen Q) [.ag [.i .i64 (k:Nat),.i .u32 (s:Nat)],.pt (301,0) 0 0,.pt (302,0) 0 0,.pt (304,0) 0 0]
  fun r o=>r = .tp []/\o=if lg k=false/\seen (mkey k s)=false then yfi N lg (addS seen (mkey k s)) (Q++[(k,s)])else yfi N lg seen Q:=by
 refine ycki [(301,0),(302,0),(304,0)] [] _ _ _ ?_;cases hq:lg k with
 | true =>
   rw[if_neg (fun q=>by cases q.1)]
   simp only[c137,ybms,yblp,yfi,ygd,yba,hq,clash,yga,go_sem,zA,zB,zD,zC,↓reduceIte,reduceCtorEq]
   repeat refine zF (by first|omega|decide|exact ikw (by omega) (by omega)) ?_
   refine⟨.tp [],yfi N lg seen Q,?_,?_,rfl,rfl⟩
   .refine ybi [] [] [] ?_;simp only[yfi,ygd,yba,allQ,live,yc,go_sem,zA,zC,↓reduceIte,reduceCtorEq]
   .simp only[yfi,ygd,yba,yby,ydn,allQ,live,go_sem,zA,↓reduceIte]
 | false =>
   cases hs2:seen (mkey k s)with
   | true =>
     rw[if_neg (fun q=>by cases q.2)]
     simp only[c137,ybms,yblp,yfi,ygd,yba,hq,hs2,clash,zBH,yga,go_sem,zA,zB,zD,zC,↓reduceIte,reduceCtorEq]
     repeat refine zF (by first|omega|decide|exact ikw (by omega) (by omega)) ?_
     refine⟨.tp [],yfi N lg seen Q,?_,?_,rfl,rfl⟩
     .refine ybi [] [] [] ?_;simp only[yfi,ygd,yba,allQ,live,yc,go_sem,zA,zC,↓reduceIte,reduceCtorEq]
     .simp only[yfi,ygd,yba,yby,ydn,allQ,live,go_sem,zA,↓reduceIte]
   | false =>
     rw[if_pos ⟨rfl,rfl⟩];simp only[c137,ybms,yblp,ycph,ycug,yfi,ygd,yba,hq,hs2,splice,clash,zBH,ydzm,yga,go_sem,zA,zB,zD,zC,↓reduceIte,reduceCtorEq]
     repeat refine zF (by first|omega|decide|exact ikw (by omega) (by omega)) ?_
     refine⟨.tp [],yfi N lg (addS seen (mkey k s)) (Q++[(k,s)]),?_,?_,rfl,rfl⟩
     .refine ybi [(305,fun i=>(22,i))] [] [] ?_;simp only[yfi,ygd,yba,zI,allQ,live,yc,go_sem,zA,zC,↓reduceIte,reduceCtorEq];refine⟨⟨fun i=>?_,fun i hi=>absurd hi (by omega)⟩,fun i hi=>yne (ybyn Q (k,s) hi)⟩
      unfold addS
      by_cases e:i=mkey k s
      .rw[if_pos e,if_pos e]
      .rw[if_neg e,if_neg e]
     .simp only[yfi,ygd,yba,yby,ydn,allQ,live,go_sem,zA,↓reduceIte]
def yvn(lg:Nat->Bool)(x:(Nat->Bool)×List (Nat×Nat))(k s:Nat):(Nat->Bool)×List (Nat×Nat):=if lg k=false/\x.1 (mkey k s)=false then(addS x.1 (mkey k s),x.2++[(k,s)])else x
theorem yyu{N:Nat}{lg:Nat->Bool}{x:(Nat->Bool)×List (Nat×Nat)}(hQ:x.2.length<=300000){k s:Nat}(hk:k<N)(hN:N<=32768)(hs:s<2^32) :
 Cm zH 137 [(301,0),(302,0),(304,0)] (yfi N lg x.1 x.2) [.ag [.i .i64 (k:Nat),.i .u32 (s:Nat)],.pt (301,0) 0 0,.pt (302,0) 0 0,.pt (304,0) 0 0]
  fun r o=>r = .tp []/\o=yfi N lg (yvn lg x k s).1 (yvn lg x k s).2:=by
 refine(ydsu hQ hk hN hs).mono fun r o ⟨h1,h2⟩=>⟨h1,h2.trans ?_⟩;unfold yvn
 by_cases q:lg k=false/\x.1 (mkey k s)=false
 .rw[if_pos q,if_pos q]
 .rw[if_neg q,if_neg q]
structure QI(N n:Nat)(lg:Nat->Bool)(x:(Nat->Bool)×List (Nat×Nat)):Prop where
 nd:x.2.Nodup
 lt:∀p∈x.2,p.1<N/\p.2<2^n/\lg p.1=false
 seen:∀p∈x.2,x.1 (mkey (p.1:Nat) (p.2:Nat))=true
theorem QI.start(N n:Nat)(lg:Nat->Bool):QI N n lg (fun _=>false,[]):=⟨List.nodup_nil,fun _ h=>(nomatch h),fun _ h=>(nomatch h)⟩
theorem QI.step{N n:Nat}{lg:Nat->Bool}{x:(Nat->Bool)×List (Nat×Nat)}(h:QI N n lg x){k s:Nat}(hk:k<N)(hs:s<2^n):QI N n lg (yvn lg x k s):=by
 unfold yvn
 by_cases q:lg k=false/\x.1 (mkey k s)=false
 .rw[if_pos q];refine⟨List.nodup_append.2 ⟨h.nd,zAI _ _,fun a ha b hb=>?_⟩,fun p hp=>?_,fun p hp=>?_⟩
  .rw[List.mem_singleton.1 hb];rintro rfl;have:=h.seen _ ha;rw[q.2]at this;cases this
  .rcases List.mem_append.1 hp with r|r
   .exact h.lt p r
   .rw[List.mem_singleton.1 r];exact⟨hk,hs,q.1⟩
  .show(if _ then true else _)=true
   split
   .rfl
   .rcases List.mem_append.1 hp with r|r
    .exact h.seen p r
    .rename_i e
     rw[List.mem_singleton.1 r]at e;exact absurd rfl e
 .rw[if_neg q];exact h
theorem yblz{lg:Nat->Bool}{x:(Nat->Bool)×List (Nat×Nat)}{k s:Nat}:x.2.length<=(yvn lg x k s).2.length:=by
 unfold yvn;split
 .show _<=(x.2++[(k,s)]).length;rw[zI];omega
 .exact zAM _
theorem QI.len{N n:Nat}{lg:Nat->Bool}{x:(Nat->Bool)×List (Nat×Nat)}(h:QI N n lg x):x.2.length<=N*2^n:=by
 have inj:∀p∈x.2,∀q∈x.2,p.1*2^n+p.2=q.1*2^n+q.2->p=q:=fun p hp q hq e=>by
  have h1:=(h.lt p hp).2.1;have h2:=(h.lt q hq).2.1;have e1:(p.1*2^n+p.2)/2^n=p.1:=by rw[zBP,zBI (zBJ n),zBD h1];omega
  have e2:(q.1*2^n+q.2)/2^n=q.1:=by rw[zBP,zBI (zBJ n),zBD h2];omega
  have e3:p.1=q.1:=by rw[<-e1,e,e2]
  refine Prod.ext e3 ?_;rw[e3]at e;omega
 have hn:(x.2.map fun p=>p.1*2^n+p.2).Nodup:=by
  unfold List.Nodup;rw[List.pairwise_map];exact h.nd.imp_of_mem fun {a b} ha hb hab e=>hab (inj a ha b hb e)
 have:=yhl (l2:=zO (N*2^n)) hn fun y hy=>by
  obtain⟨p,hp,rfl⟩:=List.mem_map.1 hy;obtain⟨h1,h2,-⟩:=h.lt p hp;refine List.mem_range.2 ?_;have h3:(p.1+1)*2^n<=N*2^n:=Nat.mul_le_mul_right _ h1;rw[Nat.add_mul]at h3;omega
 simpa using this
end Sh
end
end Go.Proofs.YthclbjjgfcgbgaaGreatDoor
