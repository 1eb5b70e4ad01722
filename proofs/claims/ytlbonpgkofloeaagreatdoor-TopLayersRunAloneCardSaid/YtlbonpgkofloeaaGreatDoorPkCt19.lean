/- Joined. -/
import Derived.Test.YtlbonpgkofloeaaGreatDoorPkCt14
import Derived.Test.YtlbonpgkofloeaaGreatDoorPkCt18
import Derived.Test.YtlbonpgkofloeaaGreatDoorPkCt5
import Derived.Test.YtlbonpgkofloeaaGreatDoorPkCt7
import Derived.Test.YtlbonpgkofloeaaGreatDoorPkCt9
import Derived.Lib.TrailingZeros
import Derived.Test.YtlbonpgkofloeaaGreatDoorPkCt15
set_option linter.unusedSimpArgs false
set_option linter.unusedVariables false
set_option maxRecDepth 1000000
open Nat renaming reduceEqDiff->zA,reduceAdd->zB,reduceLT->zD,reduceLeDiff->zF,reduceBEq->zJ,lt_of_lt_of_le->zS,pow_le_pow_right->zU,testBit_lt_two_pow->zX,le_refl->zAA,zero_le->zAB,two_pow_pos->zAG,testBit_and->zAH,testBit_two_pow->zAL,testBit_two_pow_mul_add->zAM,not_lt_zero->zAS,pow_lt_pow_right->zAX,and_zero->zBB,one_shiftLeft->zBC,testBit_succ->zBE,lt_irrefl->zBK,add_zero->zBO,zero_and->zBP,beq_refl->zBT,beq->zBW
open Go.Proofs.Tryz renaming prog->zC,ntmps250->zBL,func250->zBQ,func249->zBR
open Int renaming reduceBEq->zG,natCast_zero->zZ,tdiv_eq_ediv_of_nonneg->zAN,add_mul_ediv_right->zAV,ediv_eq_zero_of_lt->zAW,reduceBNe->zAY,toNat_of_nonneg->zAZ,reduceToNat->zBG,add_comm->zBM,zero_add->zBN
open List renaming mem_of_mem_take->zH,mem_of_mem_drop->zI,mem_cons_self->zL,take_append_drop->zM,range->zN,getD_eq_getElem?_getD->zT,take_succ_eq_append_getElem->zV,getD_cons_zero->zW,getElem_mem->zY,getElem?_eq_getElem->zAC,getElem?_eq_none->zAE,length_nil->zAF,foldl_cons->zAI,mem_cons_of_mem->zAJ,getD_cons_succ->zAK,foldl_append->zAP,take_length->zAQ,getD->zAR,nil_append->zAT,length_map->zAU,filter_append->zBA,all_eq_true->zBD,not_mem_nil->zBF,mem_filter->zBH,drop_drop->zBI,mem_range->zBJ,map_map->zBU
open Classical renaming byContradiction->zK
open Go.Lib renaming hid->zO,ctz->zAD,ctzFrom->zBV
open Bool renaming and_eq_true->zQ,true_and->zAO
open BitVec renaming ofInt->zBS
open Go
namespace Go.Proofs.YtlbonpgkofloeaaGreatDoor
section
namespace Sh
open Go Ev
def ZqP:ProgT:=ycfp (by8 [114,101,115,101,116]) (by8 [100]) (by8 [112]) (by8 [115]) (by8 [98]) (by8 [121]) (by8 [114]) (by8 [116,111,112]) (by8 [108,111,119]) (by8 [98,101,103,105,110]) (by8 [116,97,107,101]) (by8 [102,105,110,105,115,104]) (by8 [97,115,107])
def Zqt:ByteArray:=yco
def Zqv:Value:=.slice (some ⟨2072,0,none⟩) 6 CU
def Zqr:Value:=.slice (some ⟨3369,0,none⟩) 6 CU
def ZqB:List BlkL:=ylu.post.take 1
def ZqC:List BlkL:=ylu.post.drop 1
theorem ybrr:Returns zC 6 [.a (.string Zqt)] (.ag (ybs (Lies ZqB Zqv) (Lies ZqC Zqr) ZqP.raw)) :=
 yht (fp:=ylu) (yc.at_ yces 0 rfl) ⟨rfl,rfl,rfl,by kernel_rfl,fun _ h=>zH h,fun _ h=>zI h,by kernel_rfl,by kernel_rfl⟩
theorem ydhx:ybef.pre=ylu.post:=rfl
theorem ycla:Returns zC 77 [.ag (ybs (Lies ZqB Zqv) (Lies ZqC Zqr) ZqP.raw)] (.b true) :=
 yhu (fv:=ybef) (yc.at_ ybfj 0 rfl) ⟨rfl,fun b h=>by
  rw[ydhx,<-zM 1 ylu.post]at h;exact List.mem_append.1 h,fun _ h=>zH h,fun _ h=>zI h,rfl,rfl,by kernel_rfl,by kernel_rfl,by kernel_rfl,by kernel_rfl,by kernel_rfl,by kernel_rfl,by kernel_rfl⟩
theorem ydnm:ZqP.ok=true:=by kernel_rfl
theorem ycpk:Returns zC 14 [.ag (ybs (Lies ZqB Zqv) (Lies ZqC Zqr) ZqP.raw),.i .u32 3] (.b true) :=
 yil (fv:=ybls) (ns:=[3]) (yc.at_ ycdo 0 rfl) ⟨rfl,fun b h=>by
  rw[show ybls.pre=ylu.post from rfl,<-zM 1 ylu.post]at h
  exact List.mem_append.1 h,fun _ h=>zH h,fun _ h=>zI h,rfl,rfl,by kernel_rfl,by kernel_rfl,by kernel_rfl,by kernel_rfl,by kernel_rfl,by kernel_rfl,by kernel_rfl⟩
end Sh
end
section
namespace Sh
open Ev Go.RowKit
theorem yxo:Returns zC 34 [] (.a (.string Iqt)):=by
 refine Returns.of ((okG 34) _ _ ?_);simp only[cdE 34,rgE 34 0,rgE 34 1,go_sem,↓reduceIte];exact Sim.refl _
theorem ybog:Returns zC 36 [] (.a (.string Uqt)):=by
 refine Returns.of ((okG 36) _ _ ?_);simp only[cdE 36,rgE 36 0,rgE 36 1,go_sem,↓reduceIte];exact Sim.refl _
theorem ycoo:Returns zC 37 [] (.a (.string Vqt)):=by
 refine Returns.of ((okG 37) _ _ ?_);simp only[cdE 37,rgE 37 0,rgE 37 1,go_sem,↓reduceIte];exact Sim.refl _
theorem ybyt:Returns zC 38 [] (.a (.string Xqt)):=by
 refine Returns.of ((okG 38) _ _ ?_);simp only[cdE 38,rgE 38 0,rgE 38 1,go_sem,↓reduceIte];exact Sim.refl _
theorem ybjw:Returns zC 39 [] (.a (.string Yqt)):=by
 refine Returns.of ((okG 39) _ _ ?_);simp only[cdE 39,rgE 39 0,rgE 39 1,go_sem,↓reduceIte];exact Sim.refl _
theorem ybzs:Returns zC 40 [] (.a (.string Zqt)):=by
 refine Returns.of ((okG 40) _ _ ?_);simp only[cdE 40,rgE 40 0,rgE 40 1,go_sem,↓reduceIte];exact Sim.refl _
theorem ycoz{g:Gr}(c:GrI g):Returns zC 126 [grV g] (.b (ycj g)):=by
 refine Returns.of ((okG 126) _ _ ?_);have a:=yih c;simp only[grV]at a;simp only[cdE 126,rgE 126 0,rgE 126 1,grV,go_sem,zA,zB,zD,↓reduceIte];refine a.use ?_;simp only[yw,ygd,go_sem,zA,zB,↓reduceIte,reduceCtorEq]
theorem ybtk{g:Gr}(c:GrI g)(f:ycj g=true):∃F S R M,Returns zC 52 [grV g] (.ag (ydq 3 F S R M)):=by
 have b:=ycoz c;have a:=yrc c 0;have d:=yjo g 0;rw[f]at b;obtain⟨e,h⟩:∃e,eccP g 0=e:=⟨_,rfl⟩;rw[h]at a d;simp only[grV]at b a;refine⟨true,false,2*e+1,-1,Returns.of ((okG 52) _ _ ?_)⟩;simp only[cdE 52,rgE 52 0,rgE 52 1,grV,clash,go_sem,zA,zB,zD,↓reduceIte];refine b.use ?_;simp only[yw,rgE 52 3,splice,clash,go_sem,zA,zB,zF,↓reduceIte];refine a.use ?_;simp only[ydq,go_sem,zA,zB,↓reduceIte]
 repeat refine ydc ?_
 exact Sim.refl _
theorem ybxq{g:Gr}(c:GrI g):Returns zC 127 [grV g] (.b (ycj g)):=by
 refine Returns.of ((okG 127) _ _ ?_);have a:=yih c;simp only[grV]at a;simp only[cdE 127,rgE 127 0,rgE 127 1,grV,go_sem,zA,zB,zD,↓reduceIte];refine a.use ?_;simp only[yw,ygd,go_sem,zA,zB,↓reduceIte,reduceCtorEq]
theorem ybnv{g:Gr}(d:GrI g)(h:ycj g=true):∃F S R M,Returns zC 53 [grV g] (.ag (ydq 3 F S R M)):=by
 have b:=ybxq d;have a:=yrc d 0;have f:=yjo g 0;rw[h]at b;obtain⟨e,i⟩:∃e,eccP g 0=e:=⟨_,rfl⟩;rw[i]at a f;simp only[grV]at b a
 have c:0<=e*(e+1):=by
  rcases Int.lt_or_le e 0 with q|q
  .obtain rfl:e = -1:=by omega
   decide
  .exact Int.mul_nonneg q (by omega)
 have j:e*(e+1)<=1000*(e+1):=Int.mul_le_mul_of_nonneg_right (by omega) (by omega)
 have k:0<=(e*(e+1)).tdiv 2/\(e*(e+1)).tdiv 2<=1001000:=by
  rw[zAN c];omega
 refine⟨true,false,e+1+(e*(e+1)).tdiv 2,-1,Returns.of ((okG 53) _ _ ?_)⟩;simp only[cdE 53,rgE 53 0,rgE 53 1,grV,clash,go_sem,zA,zB,zD,↓reduceIte];refine b.use ?_;simp only[yw,rgE 53 3,rgE 53 4,splice,clash,go_sem,zA,zB,zF,↓reduceIte,reduceCtorEq];refine a.use ?_;simp only[ydq,go_sem,zA,zB,↓reduceIte]
 repeat refine ydc ?_
 exact⟨⟨by decide,ikw (by omega) (by omega)⟩,ikw (by omega) (by omega),Sim.refl _⟩
theorem ybjn{g:Gr}(c:GrI g):Returns zC 128 [grV g] (.b (ycj g)):=by
 refine Returns.of ((okG 128) _ _ ?_);have a:=yih c;simp only[grV]at a;simp only[cdE 128,rgE 128 0,rgE 128 1,grV,go_sem,zA,zB,zD,↓reduceIte];refine a.use ?_;simp only[yw,ygd,go_sem,zA,zB,↓reduceIte,reduceCtorEq]
theorem yzh{g:Gr}(c:GrI g)(f:ycj g=true):∃F S R M,Returns zC 54 [grV g] (.ag (ydq 3 F S R M)):=by
 have b:=ybjn c;have a:=yrc c 0;have d:=yjo g 0;rw[f]at b;obtain⟨e,h⟩:∃e,eccP g 0=e:=⟨_,rfl⟩;rw[h]at a d;simp only[grV]at b a;refine⟨true,false,6*e+4,-1,Returns.of ((okG 54) _ _ ?_)⟩;simp only[cdE 54,rgE 54 0,rgE 54 1,grV,clash,go_sem,zA,zB,zD,↓reduceIte];refine b.use ?_;simp only[yw,rgE 54 3,splice,clash,go_sem,zA,zB,zF,↓reduceIte];refine a.use ?_;simp only[ydq,go_sem,zA,zB,↓reduceIte]
 repeat refine ydc ?_
 exact Sim.refl _
theorem ybya{g:Gr}(c:GrI g):Returns zC 129 [grV g] (.b (ycj g)):=by
 refine Returns.of ((okG 129) _ _ ?_);have a:=yih c;simp only[grV]at a;simp only[cdE 129,rgE 129 0,rgE 129 1,grV,go_sem,zA,zB,zD,↓reduceIte];refine a.use ?_;simp only[yw,ygd,go_sem,zA,zB,↓reduceIte,reduceCtorEq]
theorem ybld{g:Gr}(c:GrI g)(f:ycj g=true):∃F S R M,Returns zC 55 [grV g] (.ag (ydq 3 F S R M)):=by
 have b:=ybya c;have a:=yrc c 0;have d:=yjo g 0;rw[f]at b;obtain⟨e,h⟩:∃e,eccP g 0=e:=⟨_,rfl⟩;rw[h]at a d;simp only[grV]at b a;refine⟨true,true,7*e+4,-1,Returns.of ((okG 55) _ _ ?_)⟩;simp only[cdE 55,rgE 55 0,rgE 55 1,grV,clash,go_sem,zA,zB,zD,↓reduceIte];refine b.use ?_;simp only[yw,rgE 55 3,splice,clash,go_sem,zA,zB,zF,↓reduceIte];refine a.use ?_;simp only[ydq,go_sem,zA,zB,↓reduceIte]
 repeat refine ydc ?_
 exact Sim.refl _
theorem ybll{g:Gr}(c:GrI g):Returns zC 125 [grV g] (.b (yhc g)):=by
 refine Returns.of ((okG 125) _ _ ?_);have a:=yhy c;simp only[grV]at a;simp only[cdE 125,rgE 125 0,rgE 125 1,grV,go_sem,zA,zB,zD,↓reduceIte];refine a.use ?_;simp only[yw,ygd,go_sem,zA,zB,↓reduceIte,reduceCtorEq]
theorem ybcw{g:Gr}(e:GrI g)(d:ybe g):∃F S R M,Returns zC 51 [grV g] (.ag (ydq 2 F S R M)):=by
 have c:=ybll e;have a:=ybht e;have f:=(ycm g).2 d;have b:=d.2.1;have h:=ymz d g.ports.length (zAA _);rw[yvo]at h;have j:yxg g<=288:=by unfold yxg;omega
 unfold ycqd at a;rw[f]at c;rw[f,if_pos rfl]at a;obtain⟨n,i⟩:∃n,g.ports.length=n:=⟨_,rfl⟩;rw[i]at a b;simp only[grV]at c a;refine⟨false,true,3,5*(n:Int)+4*(yxg g:Nat),Returns.of ((okG 51) _ _ ?_)⟩;simp only[cdE 51,rgE 51 0,rgE 51 1,grV,clash,go_sem,zA,zB,zD,↓reduceIte];refine c.use ?_;simp only[yw,rgE 51 3,rgE 51 4,splice,clash,go_sem,zA,zB,zF,↓reduceIte,reduceCtorEq];refine a.use ?_;simp only[ydq,go_sem,zA,zB,↓reduceIte]
 repeat refine ydc ?_
 exact Sim.refl _
end Sh
end
section
namespace Sh
open Ev Go.RowKit
theorem ybpp{g:Gr}(c:GrI g):Returns zC 107 [grV g] (.b (ycj g)):=by
 refine Returns.of ((okG 107) _ _ ?_);have a:=yih c;simp only[grV]at a;simp only[cdE 107,rgE 107 0,rgE 107 1,grV,go_sem,zA,zB,zD,↓reduceIte];refine a.use ?_;simp only[yw,ygd,go_sem,zA,zB,↓reduceIte,reduceCtorEq]
theorem ycko{g:Gr}(i:ybe g){c:Conf}(p:ybhg c)(f:yne g c=true):Returns zC 149 [grV g,ybf c] (.b true):=by
 refine Returns.of ((okG 149) _ _ ?_);have j:=ybpp (yro i);have o:=i.2.1;have a:=i.2.2.1
 have e:=ybbt i p (G:=[(g.ids.length:Int),-1]) (fun x m=>by
  simp at m;rcases m with rfl|rfl<;>exact yhd (by omega))
 unfold yne at f;rw[zQ,<-a]at f;rw[<-a,f.2]at e;rw[f.1]at j;obtain⟨n,k⟩:∃n,g.ids.length=n:=⟨_,rfl⟩;rw[k]at e;simp only[grV,yj,k]at j e;have d:∀{q:Nat},q<2->q=0\/q=1:=fun {q} h=>by omega
 simp only[cdE 149,rgE 149 0,rgE 149 1,grV,yj,k,clash,go_sem,zA,zB,zD,↓reduceIte];refine j.use ?_;simp only[yw,clash,go_sem,zA,zB,zF,zD,↓reduceIte,reduceCtorEq];refine .inl ⟨fun q l=>by rcases d l with rfl|rfl<;>simp only[go_sem],e.useS ?_ ?_⟩
 .refine⟨Sim.refl _,Sim.refl _,?_,trivial⟩;refine yel fun q l=>?_;rcases d l with rfl|rfl<;>(simp only[zW,zAK,go_sem];exact⟨Sim.refl _,trivial⟩)
 simp only[go_sem];exact Sim.refl _
theorem ycyn{g:Gr}{D:List Int}(d:D.length=g.ports.length)(a:∀x∈D,-1<=x/\x<=24){v:Nat}(h:v<g.ports.length)(f:g.ports.length<=24){l:Int×Int}(e:0<=l.1/\l.1<g.ports.length) :
 Returns zC 221 [.ag [.i .i64 l.1,.i .i64 l.2],.rf [yj D],.rf [.i .i64 v]] (.b (yxs D v l)):=by
 refine Returns.of ((okG 221) _ _ ?_);have c:-1<=D.getD v 0/\D.getD v 0<=24:=by rw[getD_at (show v<D.length by omega)];exact a _ (zY _)
 simp only[cdE 221,rgE 221 0,rgE 221 1,yj,clash,go_sem,zA,zB,zF,zD,↓reduceIte,reduceCtorEq];refine⟨⟨by omega,by omega⟩,⟨by omega,by omega⟩,ikw (by omega) (by omega),?_⟩
 exact Sim.refl _
theorem ybtr{g:Gr}(j:ybe g){D:List Int}(o:D.length=g.ports.length)(e:∀x∈D,-1<=x/\x<=24){v:Nat}(n:v<g.ports.length){s:List Int}(u:s.length<=1000) :
 Returns zC 151 [grV g,.i .i64 v,yj D,yj s] (.b (ysx g D v s)):=by
 refine Returns.of ((okG 151) _ _ ?_);have d:=j.2.1
 have a:=ybcz g v n 221 [.rf [yj D],.rf [.i .i64 v]] (yxs D v) (by rfl) (by have:=j.deg_lt (v:=v);omega) (fun l p=>by
  have k:g.ports[v]?=some (g.ports.getD v []):=by simp[zAR,n]
  obtain⟨r,t,_⟩:=j.link k p;exact ycyn o e n d ⟨r,t⟩)
 have f:=ybzz s [D.getD v 0,wayP g D v] (by omega)
 have c:∀{q:Nat},q<2->q=0\/q=1:=fun {q} h=>by omega
 simp only[grV,yj]at a;simp only[cdE 151,rgE 151 0,rgE 151 1,rgE 151 2,grV,yj,clash,go_sem,zA,zB,zF,zD,↓reduceIte,reduceCtorEq];refine .inl (a.use ?_);simp only[yw,clash,go_sem,zA,zB,zF,zD,↓reduceIte,reduceCtorEq];refine⟨⟨by omega,by omega⟩,.inl ⟨fun q m=>by rcases c m with rfl|rfl<;>simp only[go_sem],f.useS ?_ ?_⟩⟩
 .refine⟨Sim.refl (yj s),?_,trivial⟩;refine yel fun q m=>?_;rcases c m with rfl|rfl<;>(simp only[zW,zAK,go_sem];exact⟨Sim.refl _,trivial⟩)
 simp only[go_sem];exact Sim.refl _
set_option maxHeartbeats 1000000 in
theorem ybaq{g:Gr}(l:ybe g){c:Conf}(L:ybhg c)(C:yne g c=true):Returns zC 85 [grV g,ybf c] (.b (ykj g c)):=by
 refine Returns.of ((okG 85) _ _ ?_);have O:=l.1;have K:=l.2.1;have H:=ycko l L C;have z:0<g.ports.length:=by omega
 have n:=ycac l z;have w:=yhg l z;have u:=(yec l z).bound l z;have G:ykj g c=c.zipIdx.all (fun p=>ysx g (ybr g 0) p.2 p.1):=by unfold ykj;rw[C,zAO]
 have x:=(ydi _ _ _).1 ((zQ _ _).mp C).2;obtain⟨D,B⟩:∃D,ybr g 0=D:=⟨_,rfl⟩;rw[B]at n w u G;obtain⟨m,y⟩:∃m,c.length=m:=⟨_,rfl⟩;have N:m=g.ports.length:=by rw[<-y];exact x.1
 simp only[grV,yj,zZ]at H n;rw[G];simp only[cdE 85,rgE 85 0,rgE 85 1,grV,clash,go_sem,zA,zB,zD,↓reduceIte,reduceCtorEq];refine H.use ?_;simp only[yw,rgE 85 3,clash,go_sem,zA,zB,↓reduceIte,reduceCtorEq];refine n.use ?_;simp only[rgE 85 4,ybf,y,clash,go_sem,zA,zB,↓reduceIte,reduceCtorEq]
 refine ybk (σ:=Nat) (fun k=>⟨[(16,.i .i64 k),(15,.i .i64 m),(14,ybf c),(5,yj D),(2,.pt (2,0) 0 0)],
  [(2,.one (some ⟨30,true,2,1,fun _=>[yj g.ids,yba g.ports]⟩))]⟩)
  (fun k=>k<=m/\∀j s,j<k->c[j]?=some s->ysx g D j s=true) (fun k=>m-k) 0 ⟨zAB _,fun j s I=>absurd I (zAS j)⟩ ?_ ?_
 .refine yx ?_;simp only[ybf,yj,y,wk,go_sem,zA,zD,↓reduceIte,reduceCtorEq]
 rintro k ⟨hk,h⟩
 by_cases M:k<m
 .have A:decide ((k:Int)<(m:Int))=true:=decide_eq_true (by omega)
  obtain⟨s,E⟩:∃s,c.getD k []=s:=⟨_,rfl⟩;have r:c[k]?=some s:=by rw[<-E,getD_at (show k<c.length by omega)];exact zAC _
  have F:s.length<=1000:=by
   have:=(x.2 k s r).1;simp[ydm]at this;omega
  have a:=ybtr l w u (v:=k) (by omega) F
  simp only[grV,yj]at a;cases d:ysx g D k s with
  | true =>
    rw[d]at a;simp only[rgE 85 5,rgE 85 6,rgE 85 7,ybf,yj,y,E,A,clash,go_sem,zA,zB,↓reduceIte,reduceCtorEq];refine⟨⟨by omega,by omega⟩,a.use ?_⟩
    simp only[yw,rgE 85 9,clash,go_sem,zA,zB,↓reduceIte,reduceCtorEq];refine⟨ikw (by omega) (by omega),ybb (k+1) ⟨by omega,fun j t I o=>?_⟩ (by omega) ?_⟩
    .by_cases q:j=k
     .subst q;rw[r]at o;cases o
      exact d
     .exact h j t (by omega) o
    .refine yx ?_;simp only[wk,go_sem,zA,zD,↓reduceIte,reduceCtorEq];omega
  | false =>
    rw[d]at a;rw[ybhi (f:=fun s v=>ysx g D v s) r d];simp only[rgE 85 5,rgE 85 6,rgE 85 7,ybf,yj,y,E,A,clash,go_sem,zA,zB,↓reduceIte,reduceCtorEq];refine⟨⟨by omega,by omega⟩,a.use ?_⟩
    simp only[yw,rgE 85 8,clash,go_sem,zB,↓reduceIte];exact Sim.refl _
 .obtain rfl:k=m:=by omega
  have A:decide ((k:Int)<(k:Int))=false:=decide_eq_false (by omega)
  have e:c.zipIdx.all (fun p=>ysx g D p.2 p.1)=true:=ybki (f:=fun s v=>ysx g D v s) fun v s J=>h v s (by have:=(List.getElem?_eq_some_iff.1 J).1;omega) J
  rw[e];simp only[rgE 85 5,rgE 85 10,A,go_sem,zA,↓reduceIte];exact Sim.refl _
theorem ybvs{g:Gr}(c:GrI g)(d:ycj g=true):Returns zC 41 [grV g] (.ag (ydq 3 false true (eccP g 0+1) (-1))):=by
 refine Returns.of ((okG 41) _ _ ?_);have a:=ybpp c;have b:=yrc c 0;have e:=yjo g 0;rw[d]at a;simp only[grV]at a b;simp only[cdE 41,rgE 41 0,rgE 41 1,grV,clash,go_sem,zA,zB,zD,↓reduceIte];refine a.use ?_;simp only[yw,rgE 41 3,splice,clash,go_sem,zA,zB,zF,↓reduceIte];refine b.use ?_;simp only[ydq,go_sem,zA,zB,↓reduceIte];exact⟨ikw (by omega) (by omega),Sim.refl _⟩
end Sh
end
section
namespace Sh
open Go Ev
def BqP:ProgT:=ycu (by8 [98,102,115]) (by8 [100]) (by8 [112]) (by8 [116,111,112]) (by8 [108,111,119])
def Bqt:ByteArray:=yjc
def Bqv:Value:=.slice (some ⟨867,0,none⟩) 2 CU
def Bqr:Value:=.slice (some ⟨1416,0,none⟩) 2 CU
def BqB:List BlkL:=ysm.post.take 1
def BqC:List BlkL:=ysm.post.drop 1
theorem yke:Returns zC 6 [.a (.string Bqt)] (.ag (ybs (Lies BqB Bqv) (Lies BqC Bqr) BqP.raw)) :=
 yht (fp:=ysm) (yc.at_ ycgq 0 rfl) ⟨rfl,rfl,rfl,by kernel_rfl,fun _ h=>zH h,fun _ h=>zI h,by kernel_rfl,by kernel_rfl⟩
theorem ydfa:ybob.pre=ysm.post:=rfl
theorem yqx:Returns zC 77 [.ag (ybs (Lies BqB Bqv) (Lies BqC Bqr) BqP.raw)] (.b true) :=
 yhu (fv:=ybob) (yc.at_ ybwp 0 rfl) ⟨rfl,fun b h=>by
  rw[ydfa,<-zM 1 ysm.post]at h;exact List.mem_append.1 h,fun _ h=>zH h,fun _ h=>zI h,rfl,rfl,by kernel_rfl,by kernel_rfl,by kernel_rfl,by kernel_rfl,by kernel_rfl,by kernel_rfl,by kernel_rfl⟩
theorem ybmt:BqP.ok=true:=by kernel_rfl
end Sh
end
section
namespace Ev
open Go Go.RowKit
end Ev
end
section
namespace Sh
open Ev Go.RowKit
theorem ybfh:Returns zC 26 [] (.a (.string Bqt)):=by
 refine Returns.of ((okG 26) _ _ ?_);simp only[cdE 26,rgE 26 0,rgE 26 1,go_sem,↓reduceIte];exact Sim.refl _
end Sh
end
section
theorem Tr.rch_le{g:Gr}(h:Tr g){v u:Nat}(a:adj g v u):1<=rchP g v u/\rchP g v u<=24:=by
 obtain⟨w,b,_,e⟩:=h.rch_ex a;have:=h.lt_n b (h.good.adj_lt a).1;have:=h.good.2.1;have:=h.rch_pos a;omega
def ymd(g:Gr)(c:Conf):Bool:=yck g&&yol g.ports.length (ydm g [(g.ids.length:Int)]) c
def yis(g:Gr)(c:Conf):Bool:=ymd g c&&(zN g.ports.length).all fun v=>decide ((c.getD v []).getD 0 0=htP g v)
def htS(g:Gr)(v i:Nat):Int×Int:=(((g.ports.getD v []).take i).map fun l=>rchP g v l.1.toNat).foldl ytt (0,0)
theorem yboz{g:Gr}{v i:Nat}(a:i<(g.ports.getD v []).length):htS g v (i+1)=ytt (htS g v i) (rchP g v ((g.ports.getD v []).getD i (0,0)).1.toNat):=by
 unfold htS;rw[zV a,List.map_append,zAP,Sh.getD_at a];rfl
theorem yccf(g:Gr)(v:Nat):(htS g v (g.ports.getD v []).length).2=htP g v:=by
 unfold htS;rw[zAQ];exact ycvm g v
theorem ycjc{g:Gr}(h:Tr g){v:Nat}(a:v<g.ports.length):∀i,i<=(g.ports.getD v []).length->(0<=(htS g v i).2/\(htS g v i).2<=(htS g v i).1)/\(htS g v i).1<=24
 |0,_=>by simp[htS]
 | i+1,c=>by
   have e:=ycjc h a i (by omega)
   have b:(g.ports.getD v []).getD i (0,0)∈g.ports.getD v []:=by rw[Sh.getD_at (show i<_ by omega)];exact zY _
   have d:=h.rch_le (yfg h.good a b).2.2.1;rw[yboz (by omega)]
   unfold ytt;simp only;omega
theorem Tr.ht_le{g:Gr}(h:Tr g){v:Nat}(a:v<g.ports.length):0<=htP g v/\htP g v<=24:=by
 have:=ycjc h a _ (zAA _);rw[<-yccf g v];omega
def rchS(g:Gr)(v u i:Nat):Int:=((g.ports.getD u []).take i).foldl (yrs g v u) 1
theorem ycgh{g:Gr}{v u i:Nat}(a:i<(g.ports.getD u []).length):rchS g v u (i+1)=yrs g v u (rchS g v u i) ((g.ports.getD u []).getD i (0,0)):=by
 unfold rchS;rw[zV a,zAP,Sh.getD_at a];rfl
namespace Sh
open Ev Go.RowKit
theorem ycrl{g:Gr}(c:GrI g):Returns zC 117 [grV g] (.b (yck g)):=by
 refine Returns.of ((okG 117) _ _ ?_);have a:=ybik c;simp only[grV]at a;simp only[cdE 117,rgE 117 0,rgE 117 1,grV,go_sem,zA,zB,zD,↓reduceIte];refine a.use ?_;simp only[yw,ygd,go_sem,zA,zB,↓reduceIte,reduceCtorEq]
theorem ybin{g:Gr}(h:Tr g):∀(k v u:Nat),adj g v u->(rchP g v u).toNat<=k->Returns zC 222 [grV g,.i .i64 v,.i .i64 u] (.i .i64 (rchP g v u))
 |0,v,u,t,hk=>by have:=h.rch_pos t;omega
 | k + 1,v,u,t,hk=>by
   refine Returns.of ((okG 222) _ _ ?_);have J:=ybin h k;obtain⟨T,H⟩:=h.good.adj_lt t;have M:=h.good.2.1;have z:=h.rch_loop t;have j:∀i,rchS g v u i=((g.ports.getD u []).take i).foldl (yrs g v u) 1:=fun _=>rfl;have m:=fun i=>ycgh (g:=g) (v:=v) (u:=u) (i:=i);have E:=h.rch_le t;obtain⟨L,w⟩:∃L,g.ports.getD u []=L:=⟨_,rfl⟩;have n:=h.good.deg_lt (v:=u)
   have y:∀l∈L,0<=l.1/\l.1.toNat<g.ports.length/\adj g u l.1.toNat:=fun l o=>by
    obtain⟨a,b,c,_⟩:=yfg h.good H (by rw[w];exact o)
    exact⟨a,b,c⟩
   have f:∀l∈L,l.1≠(v:Int)->rchP g u l.1.toNat<rchP g v u:=fun l o=>h.rch_less t (by rw[w];exact o)
   rw[w]at z n j;simp only[w]at m;obtain⟨d,s⟩:∃d,L.length=d:=⟨_,rfl⟩;obtain⟨S,N⟩:∃S:Nat->Int,(fun i=>rchS g v u i)=S:=⟨_,rfl⟩;have B:∀i,rchS g v u i=S i:=fun i=>by rw[<-N]
   simp only[B]at m j;rw[s]at n m;have C:S 0=1:=by rw[j];rfl
   have x:S d=rchP g v u:=by rw[j,<-s,zAQ,z]
   rw[<-x]at f E ⊢;simp only[grV]at J;simp only[cdE 222,rgE 222 0,rgE 222 1,rgE 222 2,grV,yba,ybd,w,s,clash,go_sem,zA,zB,zD,↓reduceIte,reduceCtorEq];refine⟨⟨by omega,by omega⟩,?_⟩
   refine ybk (σ:=Nat) (fun i=>⟨[(16,.i .i64 i),(15,.i .i64 d),(14,ybd L),(7,.i .i64 (S i)),(1,.i .i64 v),(2,.i .i64 u),(3,.pt (3,0) 0 0)],[(3,.one (some ⟨30,true,2,1,fun _=>[yj g.ids,yba g.ports]⟩))]⟩) (fun i=>i<=d) (fun i=>d-i) 0 (zAB _) ?_ ?_
   .refine yx ?_;simp only[yba,ybd,s,C,wk,go_sem,zA,zD,↓reduceIte,reduceCtorEq]
   intro i R
   by_cases F:i<d
   .have t1:decide ((i:Int)<(d:Int))=true:=decide_eq_true (by omega)
    have G:L.getD i (0,0)∈L:=by rw[getD_at (show i<L.length by omega)];exact zY _
    have q:=m i F;obtain⟨l,o⟩:∃l,L.getD i (0,0)=l:=⟨_,rfl⟩;rw[o]at G q;obtain⟨K,Q,I⟩:=y l G
    by_cases p:l.1=(v:Int)
    .have t2:(l.1 != (v:Int))=false:=by rw[p];simp
     have e:S (i+1)=S i:=by
      rw[q];unfold yrs;rw[if_neg (by rw[t2];decide)]
     simp only[rgE 222 3,rgE 222 4,rgE 222 5,rgE 222 7,ybd,s,o,t1,t2,splice,clash,go_sem,zA,zB,zF,zD,↓reduceIte,reduceCtorEq];refine⟨by omega,ikw (by omega) (by omega),?_⟩
     refine ybw (i+1) ?_;refine yx ?_;simp only[e,wk,go_sem,zA,zD,↓reduceIte,reduceCtorEq];omega
    .have t2:(l.1 != (v:Int))=true:=by rw[bne_iff_ne];exact p
     have O:=f l G p;have D:=h.rch_le I;have A:=J u l.1.toNat I (by rw[<-x]at hk;omega)
     rw[zAZ K]at A
     have e:S (i+1)=max (S i) (1+rchP g u l.1.toNat):=by
      rw[q];unfold yrs;rw[if_pos t2]
     obtain⟨r,P⟩:∃r,rchP g u l.1.toNat=r:=⟨_,rfl⟩;rw[P]at A e D;simp only[rgE 222 3,rgE 222 4,rgE 222 5,rgE 222 6,rgE 222 7,ybd,s,o,t1,t2,splice,clash,go_sem,zA,zB,zF,zD,↓reduceIte,reduceCtorEq];refine⟨by omega,A.use ?_⟩
     simp only[yw,clash,go_sem,zA,zB,↓reduceIte,reduceCtorEq];refine⟨ikw (by omega) (by omega),ikw (by omega) (by omega),?_⟩
     refine ybw (i+1) ?_;refine yx ?_;simp only[e,wk,go_sem,zA,zD,↓reduceIte,reduceCtorEq];omega
   .obtain rfl:i=d:=by omega
    have t1:decide ((i:Int)<(i:Int))=false:=decide_eq_false (by omega)
    simp only[rgE 222 3,rgE 222 8,t1,clash,go_sem,zA,zB,↓reduceIte,reduceCtorEq];exact Sim.refl _
set_option maxHeartbeats 1000000 in
theorem ybln{g:Gr}(h:Tr g):Returns zC 162 [grV g] (yj (mapR g.ports.length (htP g))):=by
 refine Returns.of ((okG 162) _ _ ?_);have x:=h.good;have z:=x.2.1;have e:=x.2.2.1;obtain⟨n,c⟩:∃n,g.ports.length=n:=⟨_,rfl⟩;rw[c]at z e ⊢;simp only[cdE 162,rgE 162 0,rgE 162 1,rgE 162 2,grV,yj,yba,e,c,clash,go_sem,zA,zB,zF,zD,↓reduceIte,reduceCtorEq];refine⟨⟨by omega,by omega,by omega⟩,?_⟩
 refine ybk (σ:=Nat) (fun v=>⟨[(17,.i .i64 v),(16,.i .i64 n),(15,yba g.ports),(3,.os (13,0) 0 n true),(1,.pt (1,0) 0 0)],[(13,.one (some ⟨3,false,1,n,fun j=>[.i .i64 (if j<v then htP g j else 0)]⟩)),(1,.one (some ⟨30,true,2,1,fun _=>[yj g.ids,yba g.ports]⟩))]⟩) (fun v=>v<=n) (fun v=>n-v) 0 (zAB _) ?_ ?_
 .refine yx ?_;simp only[yj,yba,e,c,zAS,wk,go_sem,zA,zD,↓reduceIte,reduceCtorEq]
 intro v P
 by_cases K:v<n
 .have t1:decide ((v:Int)<(n:Int))=true:=decide_eq_true (by omega)
  have hend:=yccf g v;have k:=fun i=>yboz (g:=g) (v:=v) (i:=i);have f:=ycjc h (v:=v) (by omega)
  have p:=x.deg_lt (v:=v);have b:=fun(l:Int×Int) (y:l∈g.ports.getD v [])=>yfg x (by omega) y
  obtain⟨L,u⟩:∃L,g.ports.getD v []=L:=⟨_,rfl⟩;obtain⟨d,o⟩:∃d,L.length=d:=⟨_,rfl⟩;rw[u,o]at hend p f;rw[u]at b;simp only[u,o]at k;obtain⟨S,I⟩:∃S:Nat->Int×Int,(fun i=>htS g v i)=S:=⟨_,rfl⟩;have m:∀i,htS g v i=S i:=fun i=>by rw[<-I]
  have A:S 0=(0,0):=by rw[<-m];rfl
  simp only[m]at k f hend;simp only[rgE 162 3,rgE 162 4,rgE 162 5,rgE 162 6,yba,ybd,c,u,o,t1,clash,go_sem,zA,zB,↓reduceIte,reduceCtorEq];refine⟨by omega,?_⟩
  refine ybk (σ:=Nat) (fun i=>⟨[(24,.i .i64 i),(23,.i .i64 d),(22,ybd L),(6,.i .i64 (S i).1),(4,.i .i64 v),(17,.i .i64 v),(16,.i .i64 n),(15,yba g.ports),(3,.os (13,0) 0 n true),(1,.pt (1,0) 0 0)],[(13,.one (some ⟨3,false,1,n,fun j=>[.i .i64 (if j<v then htP g j else if j=v then(S i).2 else 0)]⟩)),(1,.one (some ⟨30,true,2,1,fun _=>[yj g.ids,yba g.ports]⟩))]⟩) (fun i=>i<=d) (fun i=>d-i) 0 (zAB _) ?_ ?_
  .refine yx ?_;simp only[yj,yba,ybd,c,o,A,wk,go_sem,zA,zD,↓reduceIte,reduceCtorEq];intro j s;split
   .rfl
   .split<;>rfl
  intro i J
  by_cases t:i<d
  .have t2:decide ((i:Int)<(d:Int))=true:=decide_eq_true (by omega)
   have E:L.getD i (0,0)∈L:=by rw[getD_at (show i<L.length by omega)];exact zY _
   have a:=k i t;have O:=f i J;obtain⟨l,y⟩:∃l,L.getD i (0,0)=l:=⟨_,rfl⟩;rw[y]at E a;obtain⟨F,N,D,_⟩:=b l E;have w:=ybin h _ v l.1.toNat D (zAA _);have B:=h.rch_le D;rw[zAZ F]at w;obtain⟨r,M⟩:∃r,rchP g v l.1.toNat=r:=⟨_,rfl⟩;rw[M]at w a B;have G:(S (i+1)).1=max (S i).1 r:=by rw[a];rfl
   have H:(S (i+1)).2=max (S i).2 (min r (S i).1):=by rw[a];rfl
   simp only[grV]at w;have Q:(if v<v then htP g v else if v=v then(S i).2 else 0)=(S i).2:=by rw[if_neg (zBK v),if_pos rfl]
   have R:(if v=v then(S i).2 else 0)=(S i).2:=if_pos rfl
   simp only[rgE 162 7,rgE 162 8,rgE 162 9,ybd,o,y,t2,splice,clash,go_sem,zA,zB,zF,zD,↓reduceIte,reduceCtorEq];refine⟨by omega,w.use ?_⟩
   simp only[yw,rgE 162 10,rgE 162 11,rgE 162 12,splice,clash,<-G,<-H,go_sem,zA,zB,↓reduceIte,reduceCtorEq];refine⟨⟨by omega,by omega⟩,by omega,⟨by omega,by omega⟩,by omega,ikw (by omega) (by omega),?_⟩
   refine ybw (i+1) ?_;refine yx ?_;simp only[yj,yba,ybd,c,wk,go_sem,zA,zD,↓reduceIte,reduceCtorEq];refine⟨by omega,fun j s=>?_⟩
   by_cases q:j=v
   .subst q;simp only[if_pos,if_neg (zBK j)];simp only[go_sem,wk,go_sem,reduceCtorEq]
   .simp only[if_neg q];simp only[go_sem,wk,go_sem,reduceCtorEq]
  .obtain rfl:i=d:=by omega
   have t2:decide ((i:Int)<(i:Int))=false:=decide_eq_false (by omega)
   simp only[rgE 162 7,rgE 162 13,t2,clash,go_sem,zA,zB,↓reduceIte,reduceCtorEq];refine⟨ikw (by omega) (by omega),?_⟩
   refine ybw (v+1) ?_;refine yx ?_;simp only[yj,yba,ybd,c,wk,go_sem,zA,zD,↓reduceIte,reduceCtorEq];refine⟨by omega,fun j s=>?_⟩
   by_cases q:j<v
   .rw[if_pos q,if_pos (by omega)]
   .rw[if_neg q]
    by_cases C:j=v
    .rw[if_pos C,if_pos (by omega),C,hend]
    .rw[if_neg C,if_neg (by omega)]
 .obtain rfl:v=n:=by omega
  have t1:decide ((v:Int)<(v:Int))=false:=decide_eq_false (by omega)
  simp only[rgE 162 3,rgE 162 14,t1,clash,go_sem,zA,zB,↓reduceIte,reduceCtorEq];rw[yfe];refine ygf fun j s=>?_;rw[gmR _ _ _ _ s,if_pos s]
theorem yccl{g:Gr}(m:GrI g){c:Conf}(n:ybhg c):Returns zC 161 [grV g,ybf c] (.b (ymd g c)):=by
 refine Returns.of ((okG 161) _ _ ?_);have a:=ycrl m;unfold ymd;cases d:yck g with
 | false =>
   rw[d]at a;simp only[grV]at a;simp only[cdE 161,rgE 161 0,rgE 161 1,grV,clash,go_sem,zA,zB,zD,↓reduceIte];refine a.use ?_;simp only[yw,clash,go_sem,zA,zB,↓reduceIte,reduceCtorEq];exact Sim.refl _
 | true =>
   have e:ycj g=true:=by
    unfold yck at d;rw[zQ]at d;exact d.1
   have f:=(ycm g).1 (ygv e);have k:=f.2.1;have o:=f.2.2.1
   have l:=ybbt f n (G:=[(g.ids.length:Int)]) (fun x j=>by
    simp at j;subst j;exact yhd (by omega))
   rw[d]at a;simp only[grV]at a;simp only[cdE 161,rgE 161 0,rgE 161 1,grV,clash,go_sem,zA,zB,zD,↓reduceIte];refine a.use ?_;simp only[yw,yj,splice,clash,go_sem,zA,zB,zF,zD,↓reduceIte,reduceCtorEq];have one:∀{q:Nat},q<1->q=0:=fun {q} h=>by omega
   refine .inl ⟨fun q i=>by obtain rfl:=one i;simp only[go_sem],l.useS ?_ ?_⟩
   .refine⟨Sim.refl (grV g),Sim.refl _,?_,trivial⟩;refine yel fun q i=>?_;obtain rfl:=one i;simp only[zW,go_sem];exact⟨Sim.refl _,trivial⟩
   simp only[go_sem];exact Sim.refl _
end Sh
end
section
section
variable {g:Gr}{t u v:Nat}
end
end
section
section
variable {g:Gr}{t u v a:Nat}
end
end
section
section
variable {g:Gr}{f:Nat->Int}
end
end
section
namespace Sh
open Go Ev Go.RowKit
section
variable {m:Mem}{F:AM}
end
end Sh
end
section
open Ev
end
section
namespace Sh
open Ev Go.RowKit
end Sh
end
section
theorem yvz{g:Gr}(h:yck g=true):ycj g=true:=by
 unfold yck at h;rw[zQ]at h;exact h.1
theorem ybkd{g:Gr}(h:yck g=true):ybe g:=(ycm g).1 (ygv (yvz h))
theorem ybyq{g:Gr}{c:Conf}(h:ymd g c=true):yck g=true/\c.length=g.ports.length/\∀v,v<c.length->(c.getD v []).length=1:=by
 unfold ymd at h;rw[zQ]at h;have a:=(ydi _ _ _).1 h.2;refine⟨h.1,a.1,fun v b=>?_⟩;rw[Sh.getD_at b];have:=(a.2 v _ (zAC b)).1
 simpa[ydm]using this
namespace Sh
open Ev Go.RowKit
theorem ybux{g:Gr}(I:GrI g){c:Conf}(J:ybhg c)(K:yck g=true->Tr g):Returns zC 89 [grV g,ybf c] (.b (yis g c)):=by
 refine Returns.of ((okG 89) _ _ ?_);have o:=yccl I J;cases a:ymd g c with
 | false =>
   have e:yis g c=false:=by unfold yis;rw[a];rfl
   rw[a]at o;rw[e];simp only[grV]at o;simp only[cdE 89,rgE 89 0,rgE 89 1,rgE 89 2,grV,clash,go_sem,zA,zB,zD,↓reduceIte,reduceCtorEq];refine o.use ?_;simp only[yw,clash,go_sem,zB,↓reduceIte];exact Sim.refl _
 | true =>
   obtain⟨M,l,E⟩:=ybyq a;have D:=K M;have A:=D.good.2.1;have p:=ybln D;have L:=fun v y=>D.ht_le (v:=v) y;obtain⟨n,G⟩:∃n,g.ports.length=n:=⟨_,rfl⟩;have C:yis g c=(zN n).all fun v=>decide ((c.getD v []).getD 0 0=htP g v):=by unfold yis;rw[a,G];rfl
   rw[C];rw[a]at o;rw[G]at A p l;have d:=yfe n (htP g);have u:∀v,v<n->(mapR n (htP g)).getD v 0=htP g v:=fun v y=>gmR _ _ _ _ y;obtain⟨H,B⟩:∃H,mapR n (htP g)=H:=⟨_,rfl⟩;rw[B]at p d u;simp only[grV]at o p;simp only[yj,d]at p;simp only[cdE 89,rgE 89 0,rgE 89 1,rgE 89 3,grV,yj,clash,go_sem,zA,zB,zD,↓reduceIte,reduceCtorEq];refine o.use ?_;simp only[yw,clash,go_sem,zA,zB,↓reduceIte];refine p.use ?_;simp only[go_sem]
   refine ybk (σ:=Nat) (fun k=>⟨[(14,.i .i64 k),(13,.i .i64 n),(12,yj H),(1,ybf c)],[]⟩)
    (fun k=>k<=n/\∀j,j<k->(c.getD j []).getD 0 0=htP g j) (fun k=>n-k) 0 ⟨zAB _,fun j F=>absurd F (zAS j)⟩ ?_ ?_
   .refine yx ?_;simp only[yj,ybf,d,wk,go_sem,zA,↓reduceIte,reduceCtorEq]
   rintro k ⟨hk,h⟩
   by_cases t:k<n
   .have t1:decide ((k:Int)<(n:Int))=true:=decide_eq_true (by omega)
    have m:=E k (by omega)
    have r:=u k t;obtain⟨s,w⟩:∃s,c.getD k []=s:=⟨_,rfl⟩;rw[w]at m;obtain⟨x,z⟩:∃x,s.getD 0 0=x:=⟨_,rfl⟩
    by_cases f:x=htP g k
    .have t2:(x != htP g k)=false:=by rw[f];simp
     simp only[rgE 89 4,rgE 89 5,rgE 89 6,rgE 89 8,yj,ybf,d,l,w,m,r,z,t1,t2,clash,go_sem,zBG,zA,zB,↓reduceIte,reduceCtorEq];refine⟨by omega,⟨by omega,by omega⟩,by omega,ikw (by omega) (by omega),ybb (k+1) ⟨by omega,fun j F=>?_⟩ (by omega) ?_⟩
     .by_cases q:j=k
      .rw[q,w,z];exact f
      .exact h j (by omega)
     .refine yx ?_;simp only[wk,go_sem,zA,↓reduceIte,reduceCtorEq];omega
    .have t2:(x != htP g k)=true:=by rw[bne_iff_ne];exact f
     have e:(zN n).all (fun v=>decide ((c.getD v []).getD 0 0=htP g v))=false:=by
      rw[List.all_eq_false];exact⟨k,List.mem_range.2 t,by rw[w,z];simpa using f⟩
     rw[e];simp only[rgE 89 4,rgE 89 5,rgE 89 6,rgE 89 7,yj,ybf,d,l,w,m,r,z,t1,t2,clash,go_sem,zBG,zA,zB,↓reduceIte,reduceCtorEq];exact⟨by omega,⟨by omega,by omega⟩,by omega,Sim.refl _⟩
   .obtain rfl:k=n:=by omega
    have t1:decide ((k:Int)<(k:Int))=false:=decide_eq_false (by omega)
    have e:(zN k).all (fun v=>decide ((c.getD v []).getD 0 0=htP g v))=true:=by
     rw[zBD];exact fun v y=>decide_eq_true (h v (List.mem_range.1 y))
    rw[e];simp only[rgE 89 4,rgE 89 9,t1,go_sem,zA,↓reduceIte];exact Sim.refl _
end Sh
end
section
namespace Sh
end Sh
end
section
structure LdC(g:Gr)(c:Conf):Prop where
 len:c.length=g.ids.length
 row:∀v,v<g.ids.length->(c.getD v []).length=3/\(0<=(c.getD v []).getD 0 0/\(c.getD v []).getD 0 0<=ybvn g)/\(0<=(c.getD v []).getD 1 0/\(c.getD v []).getD 1 0<g.ids.length)/\(-1<=(c.getD v []).getD 2 0/\(c.getD v []).getD 2 0<(g.ports.getD v []).length)
section
variable {nm nl nd np no nj:ByteArray}{g:Gr}{c:Conf}{v:Nat}
end
end
section
section
variable {nm nl nd np no nj:ByteArray}{g:Gr}{c:Conf}{v:Nat}
end
end
section
section
variable {nm nl nd np no nj:ByteArray}{g:Gr}{c:Conf}{v:Nat}
theorem key_eq{a b x y n:Int}(d:0<=x/\x<n)(e:0<=y/\y<n):a*n+x=b*n+y↔a=b/\x=y:=by
 constructor
 .intro h;have f:(a*n+x)/n=a:=by rw[zBM,zAV _ _ (by omega),zAW d.1 d.2,zBN]
  have i:(b*n+y)/n=b:=by rw[zBM,zAV _ _ (by omega),zAW e.1 e.2,zBN]
  have j:a=b:=by rw[<-f,<-i,h]
  subst j;exact⟨rfl,by omega⟩
 .rintro⟨rfl,rfl⟩;rfl
end
end
section
section
variable {nm nl nd np no nj nh nr:ByteArray}{g:Gr}
end
end
section
section
variable {nm nh nr:ByteArray}{g:Gr}
theorem yddx(h:Tr g)(hit:yck g=true){c:Conf}(r:ycb (yii nm nh nr) g c=true):ymd g c=true:=by
 have j:=ymc r;have k:=h.good.2.2.1;unfold ymd;rw[hit,zAO,ydi];refine⟨by rw[j.len,k],fun v s o=>?_⟩
 obtain⟨l,e⟩:=List.getElem?_eq_some_iff.1 o;have e:c.getD v []=s:=by simp[zAR,o]
 obtain⟨m,d,f⟩:=j.row v (by rw[<-j.len];exact l)
 rw[e]at m d f
 have q:ydm g [(g.ids.length:Int)] v=[(0,(g.ids.length:Int))]:=by
  have:¬(g.ids.length:Int) = -1:=by omega
  simp[ydm,this]
 rw[q];refine⟨m,fun i b x a t=>?_⟩;have n:=(List.getElem?_eq_some_iff.1 a).1;have n:i<1:=by simpa using n
 obtain rfl:i=0:=by omega
 have a:some (0,(g.ids.length:Int))=some b:=a;cases a
 have p:s.getD 0 0=x:=by simp[zAR,t]
 rw[p]at d f;exact⟨d,f⟩
theorem yckj(h:Tr g)(hit:yck g=true){c:Conf}(b:ycb (yii nm nh nr) g c=true):yis g c=true↔ybkm g c:=by
 have d:=ymc b;have e:=h.good.2.2.1;unfold yis;rw[yddx h hit b,zAO,zBD];constructor
 .intro q v a;have:=of_decide_eq_true (q v (List.mem_range.2 (by omega)))
  exact(ycuf (d.row v a).1 _).2 this
 .intro q v a;have:=q v (by have:=List.mem_range.1 a;omega)
  exact decide_eq_true (by rw[this];rfl)
theorem yyy(h:Tr g)(hit:yck g=true){c:Conf}(a:ycb (yii nm nh nr) g c=true):yh (yii nm nh nr) g c=0↔yis g c=true:=(ycor h a).trans (yckj h hit a).symm
end
end
section
namespace Sh
open Ev Go.RowKit
end Sh
end
section
theorem TreeTo.tr{x:NetR}{g:Gr}(a:ybe g)(h:TreeTo x g.ports.length g):Tr g:=by
 have b:=Tre.conn a h.tre;refine⟨a,b,ydco a b ?_⟩;have:=h.count;have:=a.1;omega
namespace Sh
open Ev Go.RowKit
theorem ybfr(g:Gr):vok (ycr g.ports) 5 (yft g)/\Sim (view (ycr g.ports) 5 (yft g)) (grV g):=by
 obtain⟨P,b⟩:∃P,g.ports=P:=⟨_,rfl⟩;simp only[yft,ycr,grV,b,go_sem,zA];refine⟨fun q a=>?_,?_⟩
 .simp only[if_pos a];exact⟨zAA _,fun k hk=>by simp only[rowO,go_sem]⟩
 .refine yie ⟨Sim.refl _,?_,trivial⟩;refine yel fun q a=>?_;simp only[if_pos a];simp only[rowO,ybd,go_sem];exact⟨Sim.refl _,trivial⟩
theorem ybha{x:NetR}(j:x.ok){most:Nat}(f:1<=most/\most<=24) :
 Ct zC 21 [.ag (netC x),.i .i64 most] fun r=>∃g,Tr g/\yck g=true/\(g.ports.length<=most/\(g.ports.length:Int)=1+ycf (IntKind.wrap .i64 (x.n-1)) most/\ybgl x g.ids)/\Sim r (grV g) :=
 (ybxr j f).ct fun r k ⟨g,b,c,h,d,e⟩=>by
   subst d e;have a:=c.tr b;refine⟨(ybfr g).1,g,a,?_,h,(ybfr g).2⟩;unfold yck;rw[a.conn];have:=c.count;have:=b.1;simp only[zAO,decide_eq_true_eq];omega
theorem ycrr{x:NetR}(f:x.ok){most:Nat}(e:1<=most/\most<=24) :
 Ct zC 21 [.ag (netC x),.i .i64 most] fun r=>∃g,Tr g/\yck g=true/\g.ports.length<=most/\Sim r (grV g) :=
 (ybha f e).mono fun _ ⟨g,a,b,c,d⟩=>⟨g,a,b,c.1,d⟩
theorem ycip{x:NetR}(t:x.ok){most:Nat}(s:1<=most/\most<=24) :
 Cm zC 100 [] [] [.ag (netC x),.i .i64 most] fun r o=>∃g,ybe g/\g.ports.length<=most/\r=yft g/\o=ycr g.ports :=
 (ybpm t s).weak fun r w ⟨a,u,p,q,l,m⟩=>by
   subst l m;obtain⟨n,f⟩:∃n,a.length=n:=⟨_,rfl⟩;have h:(bare a).ids=a:=rfl;have e:(bare a).ports.length=n:=by simp[bare,f]
   have j:∀v,(bare a).ports.getD v []=[]:=ynf a;refine⟨yft (bare a),ycr (bare a).ports,?_,?_,bare a,ybhd (by omega) (by omega) p q,by rw[e];omega,rfl,rfl⟩
   .refine ybm [(211,fun i=>(17,i))] [212] [] ?_;simp only[yft,ycr,rowO,h,e,j,f,zAF,wk,go_sem,zA,zD,zJ];refine⟨fun i c=>⟨(212,i),rfl,rfl,by simp[c]⟩,fun i b d=>?_⟩
    obtain⟨_,rfl⟩:=ycy d;exact⟨rfl,rfl⟩
   .simp only[ycr,yft,ybz,yeg,wk,go_sem,zA];refine⟨fun i c=>by rw[if_pos c],fun i b d k hk=>?_⟩
    obtain⟨c,rfl⟩:=ycy d;simp only[rowO,go_sem]
theorem yczb{x:NetR}(o:x.ok){most:Nat}(s:1<=most/\most<=24) :
 Ct zC 23 [.ag (netC x),.i .i64 most] fun r=>∃g,ybe g/\g.ports.length<=most/\Sim r (grV g):=by
 refine(okGU 23) [100,102] _ _ ?_;have d:=yqo o s;have l:=ycip o s;simp only[netC]at d l;cases c:x.apart with
 | false =>
   rw[c]at d;simp only[cdE 23,rgE 23 0,rgE 23 1,rgE 23 2,netC,c,clash,go_sem,zA,zB,zF,zD,zJ,↓reduceIte,reduceCtorEq];refine d.found (V:=grV) (fun r g h=>h.2.2.2) fun r g h=>?_;simp only[yw,grV,splice,clash,go_sem,zA,zB,↓reduceIte];exact⟨g,h.1,h.2.2.1,Sim.refl _⟩
 | true =>
   rw[c]at l;simp only[cdE 23,rgE 23 0,rgE 23 1,rgE 23 3,netC,c,clash,go_sem,zA,zB,zF,zD,↓reduceIte,reduceCtorEq];refine ydk l [(211,211),(212,212)] 0 [2,4,11] [2,4] ?_ ?_
   .simp only[to1,okN,ybz,yeg,ydp,yda,wk,go_sem,zA,zB,zJ,↓reduceIte,reduceCtorEq]
   rintro r y ⟨g,v,F,rfl,rfl⟩;have p:=ycii (Q:=fun _=>True) o v trivial (fun G a b w z C B gb E A=>trivial);simp only[netC,c]at p;simp only[ycr,yft,ykz,yjk,nuF,nu,difN,ydp,yda,Fam.ren,OB.ren,dim,yly,ykc,go_sem,zA,zB,zJ,↓reduceIte];refine ydk p [(211,211),(212,212)] 0 [4] [4] ?_ ?_
   .simp only[yft,ycr,to1,okN,ybz,yeg,ydp,yda,wk,go_sem,zA,zB,zD,zJ,↓reduceIte,reduceCtorEq];refine⟨⟨fun i _ j _ e=>e,fun i m=>by rw[if_pos m],fun i b u=>?_⟩,by decide⟩
    obtain⟨m,rfl⟩:=ycy u;refine⟨_,yuj (f:=ren (nu [(211,211),(212,212)] 0) 5) (fun _ _=>rfl) m,⟨rfl,rfl,rfl,rfl⟩,fun e=>absurd (show false=true from e) Bool.false_ne_true,fun k hk=>?_⟩
    simp only[rowO,wk,go_sem,reduceCtorEq]
   rintro r y ⟨G,t,-,D,rfl,rfl⟩;simp only[ycr,yft,clash,splice,ykz,yjk,nuF,nu,difN,ydp,yda,Fam.ren,OB.ren,dim,yly,ykc,go_sem,zA,zB,zJ,↓reduceIte];refine⟨by decide,fun q n=>?_,G,t,by omega,?_⟩
   .simp only[if_pos n];exact⟨zAA _,fun k hk=>by simp only[rowO,go_sem]⟩
   .refine yie ⟨Sim.refl _,?_,trivial⟩;refine yel fun q n=>?_;simp only[if_pos n];simp only[rowO,ybd,ygb,go_sem];exact⟨Sim.refl _,trivial⟩
end Sh
end
section
namespace Ev
open Go Go.RowKit
end Ev
namespace Sh
open Go Ev Go.RowKit
end Sh
end
section
namespace Sh
open Go Ev
def CqP:ProgT:=yii (by8 [99,101,110,116,101,114]) (by8 [104]) (by8 [102,105,120])
def Cqt:ByteArray:=yob
def Cqv:Value:=.slice (some ⟨532,0,none⟩) 1 CU
def Cqr:Value:=.slice (some ⟨875,0,none⟩) 1 CU
def CqB:List BlkL:=ybaw.post.take 1
def CqC:List BlkL:=ybaw.post.drop 1
theorem ybtc:Returns zC 6 [.a (.string Cqt)] (.ag (ybs (Lies CqB Cqv) (Lies CqC Cqr) CqP.raw)) :=
 yht (fp:=ybaw) (yc.at_ ycsi 0 rfl) ⟨rfl,rfl,rfl,by kernel_rfl,fun _ h=>zH h,fun _ h=>zI h,by kernel_rfl,by kernel_rfl⟩
theorem yded:yceo.pre=ybaw.post:=rfl
theorem ycrh:Returns zC 77 [.ag (ybs (Lies CqB Cqv) (Lies CqC Cqr) CqP.raw)] (.b true) :=
 yhu (fv:=yceo) (yc.at_ ycrb 0 rfl) ⟨rfl,fun b h=>by
  rw[yded,<-zM 1 ybaw.post]at h;exact List.mem_append.1 h,fun _ h=>zH h,fun _ h=>zI h,rfl,rfl,by kernel_rfl,by kernel_rfl,by kernel_rfl,by kernel_rfl,by kernel_rfl,by kernel_rfl,by kernel_rfl⟩
theorem ydfn:CqP.ok=true:=by kernel_rfl
end Sh
end
section
namespace Sh
open Ev Go.RowKit
theorem ycca:Returns zC 30 [] (.a (.string Cqt)):=by
 refine Returns.of ((okG 30) _ _ ?_);simp only[cdE 30,rgE 30 0,rgE 30 1,go_sem,↓reduceIte];exact Sim.refl _
end Sh
end
section
abbrev Ptr:=Nat->Option Nat
def Mt(p:Ptr)(x:Nat):Prop:=∃y,p x=some y/\p y=some x
inductive Mv (g:Gr) (p:Ptr) (v:Nat):Option Nat->Prop
 |accept (u:Nat):p v=none->adj g v u->p u=some v->Mv g p v (some u)
 |propose (u:Nat):p v=none->adj g v u->p u=none->(∀x,adj g v x->p x≠some v)->Mv g p v (some u)
 |withdraw (u w:Nat):p v=some u->p u=some w->w≠v->Mv g p v none
structure PtI(g:Gr)(p:Ptr)(I:Nat->Prop):Prop where
 nb:∀v u,p v=some u->adj g v u
 fresh:∀v u,p v=some u->¬I v->p u=none\/p u=some v\/Mt p u
open Classical in
noncomputable def lv(A B C:Prop):Nat:=if A then 0 else if B then 1 else if C then 0 else 2
noncomputable def lft(p:Ptr)(I:Nat->Prop)(u v:Nat):Nat:=lv (p u=some v/\p v=some u) ((p u=some v/\¬I u)\/(p v=some u/\¬I v)) (Mt p u\/Mt p v)
section
variable {g:Gr}{p:Ptr}{I:Nat->Prop}{v:Nat}{t:Option Nat}
end
end
section
section
variable {g:Gr}{p:Ptr}{I:Nat->Prop}{v:Nat}{t:Option Nat}
end
open Classical in
noncomputable def oldN(g:Gr)(p:Ptr)(I:Nat->Prop):Nat:=((zN g.ports.length).map fun x=>if I x/\p x≠none then 1 else 0).sum
open Classical in
noncomputable def lftN(g:Gr)(p:Ptr)(I:Nat->Prop):Nat:=((zN g.ports.length).map fun x=>((g.ports.getD x []).map fun l=>lft p I x l.1.toNat).sum).sum
open Classical in
end
section
section
variable {g:Gr}{p:Ptr}{I:Nat->Prop}{v w:Nat}{t t':Option Nat}
noncomputable def potN(g:Gr)(p:Ptr)(I:Nat->Prop):Nat:=2*oldN g p I+lftN g p I
open Classical in
end
end
section
def ycuh:Ex:=.bin 35 (eQ 0) (.leaf 17 0)
def yctx:Ex:=.bin 35 (eQ 0) yug
def ydfq:Ex:=.bin 41 (.bin 41 (.bin 35 (.leaf 11 0) (eVar 0)) (.bin 36 (eQ 0) yug)) (.bin 36 (eQ 0) (.leaf 17 0))
def ydbu(nm p a b w:ByteArray):ProgT:=⟨nm,[⟨p,3,0,0,0,0⟩],[⟨a,.bin 41 (.bin 35 (eVar 0) yug) (.agg 21 ycuh),[(0,.agg 23 ycuh)]⟩,⟨b,.bin 41 (.bin 35 (eVar 0) yug) (.agg 21 yctx),[(0,.agg 23 yctx)]⟩,⟨w,.agg 21 ydfq,[(0,yug)]⟩]⟩
def pAt(c:Conf)(v:Nat):Int:=(c.getD v []).getD 0 0
def toP(g:Gr)(c:Conf):Ptr:=fun v=>if v<g.ports.length/\0<=pAt c v then some ((g.ports.getD v []).getD (pAt c v).toNat (0,0)).1.toNat else none
structure MtC(g:Gr)(c:Conf):Prop where
 len:c.length=g.ids.length
 row:∀v,v<g.ids.length->(c.getD v []).length=1/\(-1<=pAt c v/\pAt c v<(g.ports.getD v []).length)
section
variable {nm np na nb nw:ByteArray}{g:Gr}{c:Conf}{u v s:Nat}
end
end
section
def kcEx:Ex:=.agg 21 (.bin 35 (eQ 0) (eVar 0))
def ycfy(nm c r:ByteArray):ProgT:=⟨nm,[⟨c,1,0,0,1,0⟩],[⟨r,kcEx,[(0,.agg 27 (eQ 0))]⟩]⟩
def ycop(c:Conf)(v:Nat):Int:=(c.getD v []).getD 0 0
def ydog(g:Gr)(c:Conf)(v:Nat):Prop:=∃u,adj g v u/\ycop c u=ycop c v
structure KcC(g:Gr)(c:Conf):Prop where
 len:c.length=g.ids.length
 row:∀v,v<g.ids.length->(c.getD v []).length=1/\(0<=ycop c v/\ycop c v<=g.ids.length)
section
variable {nm nc nr:ByteArray}{g:Gr}{c:Conf}{u v s:Nat}
def kcR(g:Gr)(r v:Nat)(c:Conf):Prop:=1<=r->¬ydog g c v
structure KcJ(nm nc nr:ByteArray)(g:Gr)(c:Conf)(k:Cnt):Prop where
 inv:RInvC (ybq (ycfy nm nc nr) g) (fun c=>ycb (ycfy nm nc nr) g c=true) (kcR g) c k
 moves:k.moves+popP (yh (ycfy nm nc nr) g c)<=g.ids.length
end
end
section
section
variable {nm np na nb nw:ByteArray}{g:Gr}{c:Conf}{u v s:Nat}
end
end
section
section
variable {nm np na nb nw:ByteArray}{g:Gr}{c:Conf}{u v s:Nat}
def ydot(g:Gr)(s:Nat):List Nat:=(zN g.ids.length).filter s.testBit
structure MtJ(nm np na nb nw:ByteArray)(g:Gr)(c:Conf)(k:Cnt):Prop where
 valid:ycb (ydbu nm np na nb nw) g c=true
 moves:∃I,PtI g (toP g c) I/\2*k.moves+potN g (toP g c) I<=2*g.ports.length+2*yhq g
end
end
section
end
section
section
variable {nm nh nl nf nd nt ni:ByteArray}{g:Gr}
end
end
section
def yblr(g:Gr):Sh.SV:=if yck g=true then .ag (Sh.clmV 2 false true (ybeh g/2+2) (-1))else .ag (Sh.clmV 0 false false 0 0)
namespace Sh
open Ev Go.RowKit
theorem ycpn{g:Gr}(c:GrI g):Returns zC 119 [grV g] (.b (yck g)):=by
 refine Returns.of ((okG 119) _ _ ?_);have a:=ybik c;simp only[grV]at a;simp only[cdE 119,rgE 119 0,rgE 119 1,grV,go_sem,zA,zB,zD,↓reduceIte];refine a.use ?_;simp only[yw,ygd,go_sem,zA,zB,↓reduceIte,reduceCtorEq]
theorem ybvt{g:Gr}(d:GrI g):Returns zC 46 [grV g] (yblr g):=by
 refine Returns.of ((okG 46) _ _ ?_);have a:=ycpn d;unfold yblr;cases b:yck g with
 | false =>
   rw[b]at a;simp only[grV]at a;simp only[cdE 46,rgE 46 0,rgE 46 1,rgE 46 2,grV,clmV,clash,go_sem,zA,zB,zD,↓reduceIte];refine a.use ?_;simp only[yw,splice,clash,go_sem,zA,zB,↓reduceIte];exact Sim.refl _
 | true =>
   have c:=ybwx d;rw[if_pos (yvz b)]at c;have e:=ybkd b;have f:=e.2.1;have d1:=ywc (g:=g) g.ports.length;have d2:=yccj e g.ports.length (zAA _);have d3:(ybeh g).tdiv 2=ybeh g/2:=zAN d1;have d1:0<=ybeh g:=d1;have d2:ybeh g<=24:=d2;rw[b]at a;simp only[grV]at a c;simp only[cdE 46,rgE 46 0,rgE 46 1,rgE 46 3,grV,clmV,clash,go_sem,zA,zB,zD,↓reduceIte];refine a.use ?_;simp only[yw,splice,clash,go_sem,zA,zB,zF,↓reduceIte]
   refine c.use ?_;simp only[d3,go_sem,zA,zB,↓reduceIte];exact⟨⟨by decide,ikw (by omega) (by omega)⟩,ikw (by omega) (by omega),Sim.refl _⟩
theorem ycgl(nm:ByteArray):Returns zC 132 [.a (.string nm)] (.ag (varC ⟨nm,2,0,0,0,0⟩)):=by
 refine Returns.of ((okG 132) _ _ ?_);simp only[cdE 132,rgE 132 0,rgE 132 1,varC,go_sem,zA,zB,zF,zD,↓reduceIte,reduceCtorEq];exact Sim.refl _
theorem yccg:Returns zC 62 [] (ybx [⟨⟨#[104]⟩,1,0,0,1,0⟩,⟨⟨#[108]⟩,2,0,0,0,0⟩]):=by
 refine Returns.of ((okG 62) _ _ ?_);have c:=ybuh ⟨#[104]⟩ 0 1 0;have d:=ycgl ⟨#[108]⟩;simp only[varC]at c d;simp only[cdE 62,rgE 62 0,rgE 62 1,go_sem,↓reduceIte];refine c.use ?_;simp only[yw,clash,go_sem,zA,zB,zF,zD,↓reduceIte,reduceCtorEq];refine d.use ?_;simp only[go_sem,zB,↓reduceIte];have a:∀{q:Nat},q<2->q=0\/q=1:=fun {q} h=>by omega
 refine⟨fun q b=>by rcases a b with rfl|rfl<;>simp only[go_sem],?_⟩
 refine yel fun q b=>?_;rcases a b with rfl|rfl<;>(simp only[varC,zW,zAK,go_sem];exact⟨Sim.refl _,Sim.refl _,Sim.refl _,Sim.refl _,Sim.refl _,Sim.refl _,trivial⟩)
end Sh
end
section
namespace Sh
open Go Ev
def NqP:ProgT:=ycag (by8 [101,108,101,99,116,105,111,110]) (by8 [104]) (by8 [108]) (by8 [102,105,120]) (by8 [100,114,111,112]) (by8 [116,97,107,101]) (by8 [116,105,101])
def Nqt:ByteArray:=ygr
def Nqv:Value:=.slice (some ⟨1062,0,none⟩) 2 CU
def Nqr:Value:=.slice (some ⟨1775,0,none⟩) 4 CU
def NqB:List BlkL:=ymh.post.take 1
def NqC:List BlkL:=ymh.post.drop 1
theorem ybsq:Returns zC 6 [.a (.string Nqt)] (.ag (ybs (Lies NqB Nqv) (Lies NqC Nqr) NqP.raw)) :=
 yht (fp:=ymh) (yc.at_ ybvy 0 rfl) ⟨rfl,rfl,rfl,by kernel_rfl,fun _ h=>zH h,fun _ h=>zI h,by kernel_rfl,by kernel_rfl⟩
theorem ydgo:ybdt.pre=ymh.post:=rfl
theorem ycmy:Returns zC 77 [.ag (ybs (Lies NqB Nqv) (Lies NqC Nqr) NqP.raw)] (.b true) :=
 yhu (fv:=ybdt) (yc.at_ ybis 0 rfl) ⟨rfl,fun b h=>by
  rw[ydgo,<-zM 1 ymh.post]at h;exact List.mem_append.1 h,fun _ h=>zH h,fun _ h=>zI h,rfl,rfl,by kernel_rfl,by kernel_rfl,by kernel_rfl,by kernel_rfl,by kernel_rfl,by kernel_rfl,by kernel_rfl⟩
theorem ydll:NqP.ok=true:=by kernel_rfl
theorem ycpr:Returns zC 14 [.ag (ybs (Lies NqB Nqv) (Lies NqC Nqr) NqP.raw),.i .u32 1] (.b true) :=
 yil (fv:=ybkw) (ns:=[1]) (yc.at_ ycas 0 rfl) ⟨rfl,fun b h=>by
  rw[show ybkw.pre=ymh.post from rfl,<-zM 1 ymh.post]at h
  exact List.mem_append.1 h,fun _ h=>zH h,fun _ h=>zI h,rfl,rfl,by kernel_rfl,by kernel_rfl,by kernel_rfl,by kernel_rfl,by kernel_rfl,by kernel_rfl,by kernel_rfl⟩
end Sh
end
section
def yby(s:Nat):List Nat:=(zN 32).filter s.testBit
theorem ybjl{p q:Nat->Bool}{n t:Nat}(j:t<n)(g:p t=true)(c:∀i,i<t->p i=false)(b:∀i,q i=(p i && !decide (i=t))):(zN n).filter p=t::(zN n).filter q:=by
 obtain⟨d,rfl⟩:∃d,n=t+(d+1):=⟨n-t-1,by omega⟩
 rw[List.range_add,zBA,zBA,List.range_succ_eq_map];have e:(zN t).filter p=[]:=List.filter_eq_nil_iff.2 fun x a=>by rw[c x (List.mem_range.1 a)];simp
 have f:(zN t).filter q=[]:=List.filter_eq_nil_iff.2 fun x a=>by rw[b,c x (List.mem_range.1 a)];simp
 rw[e,f,List.map_cons,zAT,zAT,zBO,List.filter_cons_of_pos g,List.filter_cons_of_neg (by rw[b];simp)]
 congr 1;refine List.filter_congr fun x a=>?_;obtain⟨y,h,rfl⟩:=List.mem_map.1 a;obtain⟨z,_,rfl⟩:=List.mem_map.1 h;rw[b];have:decide (t+z.succ=t)=false:=decide_eq_false (by omega)
 rw[this];simp
theorem yctb{x:Nat}(l:x≠0)(h:x<2^32):zAD 32 x<32/\x.testBit (zAD 32 x)=true/\(∀i,i<zAD 32 x->x.testBit i=false)/\∀i,(x&&&(x-1)).testBit i=(x.testBit i && !decide (i=zAD 32 x)):=by
 obtain⟨m,c,hk⟩:=Lib.ctzFrom_spec 32 x (by omega) h
 have e:zAD 32 x=zBV 32 x:=by simp[zAD,l]
 rw[e];obtain⟨k,b⟩:∃k,zBV 32 x=k:=⟨_,rfl⟩;rw[b]at c hk ⊢;have p:0<2^k:=zAG k
 have a:∀j,x.testBit j=if j<k then false else(2*m+1).testBit (j-k):=fun j=>by
  have:=zAM (2*m+1) p j;rw[zBO,<-c]at this;rw[this];simp
 have g:x-1=2^k*(2*m)+(2^k-1):=by
  have:2^k*(2*m+1)=2^k*(2*m)+2^k:=by rw[Nat.mul_add,Nat.mul_one]
  omega
 have f:∀j,(x-1).testBit j=if j<k then(2^k-1).testBit j else(2*m).testBit (j-k):=fun j=>by
  rw[g];exact zAM (2*m) (show 2^k-1<2^k by omega) j
 refine⟨hk,by rw[a,if_neg (by omega),Nat.sub_self];simp,fun i n=>by rw[a,if_pos n],fun i=>?_⟩
 rw[zAH,a,f]
 by_cases q:i<k
 .rw[if_pos q];simp
 .rw[if_neg q,if_neg q]
  by_cases d:i=k
  .subst d;simp
  .obtain⟨j,o⟩:∃j,i-k=j+1:=⟨i-k-1,by omega⟩
   rw[o,zBE,zBE,show(2*m+1)/2=m by omega,show 2*m/2=m by omega]
   simp[d]
theorem ysl:yby 0=[]:=List.filter_eq_nil_iff.2 fun x _=>by simp
theorem ysk{x:Nat}(a:x≠0)(h:x<2^32):yby x=zAD 32 x::yby (x&&&(x-1)):=by
 obtain⟨b,c,d,e⟩:=yctb a h;exact ybjl b c d e
def yef(s:Nat):Nat->Nat
 |0=>s
 |k+1=>yef s k&&&(yef s k-1)
theorem yqs{s:Nat}(h:s<2^32):∀k,yef s k<2^32
 |0=>h
 |k+1=>Nat.lt_of_le_of_lt Nat.and_le_left (yqs h k)
theorem yrt{s:Nat}(h:s<2^32):∀k,yby (yef s k)=(yby s).drop k
 |0=>by simp[yef]
 | k + 1=>by
   have a:=yrt h k;show yby (yef s k&&&(yef s k-1))=_
   by_cases b:yef s k=0
   .rw[b,ysl]at a;rw[b,zBP,ysl,<-zBI,<-a];rfl
   .rw[ysk b (yqs h k)]at a;rw[<-zBI,<-a];rfl
theorem rest_end{s k:Nat}(h:s<2^32)(hk:k<=(yby s).length):yef s k=0↔k=(yby s).length:=by
 have a:=yrt h k;constructor
 .intro e;rw[e,ysl]at a;have:=congrArg List.length a;rw[List.length_drop,zAF]at this;omega
 .intro e;rw[e,List.drop_length]at a;refine zK fun q=>?_;rw[<-e]at a;rw[ysk q (yqs h k)]at a;cases a
theorem ydbd{s k:Nat}(h:s<2^32)(hk:k<(yby s).length):yef s k≠0/\zAD 32 (yef s k)=(yby s).getD k 0:=by
 have a:yef s k≠0:=fun e=>by have:=(rest_end h (Nat.le_of_lt hk)).1 e;omega
 refine⟨a,?_⟩;have b:=yrt h k;rw[ysk a (yqs h k),List.drop_eq_getElem_cons hk]at b;have:=(List.cons.inj b).1;rw[this,zT,zAC hk];rfl
theorem ybwj{s v:Nat}:v∈yby s↔v<32/\s.testBit v=true:=by
 unfold yby;rw[zBH,zBJ]
end
section
open Go.RowKit
theorem ydbj(x a:Nat)(g:x<4294967296)(f:x≠0)(c:x&&&(4294967296-x)=a) :
 bits BinOp.and IntKind.u32 (x:Int) (-(x:Int)%4294967296)*125613361%4294967296/134217728=((a*125613361%4294967296/134217728:Nat):Int):=by
 have d:-(x:Int)%4294967296=((4294967296-x:Nat):Int):=by omega
 have e:bits BinOp.and IntKind.u32 (x:Int) ((4294967296-x:Nat):Int)=((x&&&(4294967296-x):Nat):Int):=u32_and (a:=x) (b:=4294967296-x) (by omega) (by omega)
 rw[d,e,c];omega
set_option maxHeartbeats 1000000 in
theorem ycyc (x k idx:Nat) (w:World) (b:((x:Int)==0)=false) (key:bits BinOp.and IntKind.u32 (x:Int) (-(x:Int)%4294967296)*125613361%4294967296/134217728=(idx:Int))
 (d:idx<32) (hk:k<32) (a:w.cell? ⟨0,idx,none⟩=some (.int .u8 k)) :
 Calls zC 250 #[.int .u32 x] w fun e c=>e = .returned (.int .i64 k)/\c=w:=by
 go_enter zBQ,zBL
 go_wp2_with (simp only[key])
 go_ret
 exact⟨rfl,rfl⟩
theorem ycxs(w:World):Calls zC 250 #[.int .u32 0] w fun e a=>e = .returned (.int .i64 32)/\a=w:=by
 go_enter zBQ,zBL
 go_wp2
 go_ret
 exact⟨rfl,rfl⟩
theorem ydji{w:World}{x:Nat}(k:x<2^32)(f:∃e h,w.heap[0]?=some (.cells Ev.ybhr.toArray e h)) :
 Calls zC 250 #[.int .u32 x] w fun e m=>e = .returned (.int .i64 (zAD 32 x))/\m=w:=by
 by_cases a:x=0
 .subst a;exact ycxs w
 .obtain⟨b,hk⟩:=Lib.lowest_bit 32 x a k;obtain⟨i,c⟩:=Lib.deBruijn32_at _ hk;obtain⟨e,h,f⟩:=f;refine ycyc x _ _ w (by simp;omega) (ydbj x _ k a b) i hk ?_
  have d:∀j,j<32->([0,1,28,2,29,14,24,3,30,22,20,15,25,17,4,8,31,27,13,23,21,19,16,7,26,12,18,6,11,5,10,9]:List Int)[j]?=some ((Lib.deBruijn32tab.getD j 0:Nat):Int):=by decide +kernel
  have g:∀j,j<32->Ev.ybhr[j]?=some (.int .u8 (Lib.deBruijn32tab.getD j 0:Nat)):=fun j l=>by
   unfold Ev.ybhr;rw[List.getElem?_map,d j l];rfl
  rw[World.cell?,f];have:=g _ i;rw[c]at this
  simpa using this
namespace Sh
open Ev
end Sh
end
section
namespace Ev
open Go Go.RowKit
theorem ybpo(v:Value):(T.sets .leaf 0 [v]).get 0=some v:=ycdp (l:=[v]) (j:=0) (by simp)
noncomputable def yzv(x:Nat):ABlk:=.cells (T.sets .leaf 0 [.int .u32 x]) 1 27 0
def setAt(b x:Nat)(m:Mem):Prop:=∃c,m.b.get b=some (.cells c 1 27 0)/\c.get 0=some (.int .u32 x)
section
variable {φ:Phi}{M:AM}{w:World}{m:Mem}{b x y:Nat}
theorem ybdh(h:setAt b x m)(q:Rel φ M w)(r:Sub m M):∃l a,φ b=some l/\l.sz=0/\l.base+1<=l.size/\l.ob=none/\w.heap[l.blk]?=some (.cells a 27 (0,0))/\a.size=l.size/\a[l.base]?=some (.int .u32 x):=by
 obtain⟨c,o,p⟩:=h;obtain⟨l,a,A,B,d,f,g,i,j,k,n⟩:=q.cellsAt (r _ _ o);obtain⟨u,v,z⟩:=i (by decide)
 subst u v;obtain⟨C,s,t⟩:=n 0 _ (by omega) p
 have e:=t.eq_simple rfl;subst e;exact⟨l,a.toArray,d,f,g,z,j,by simpa using k,by simpa using s⟩
theorem ycxv(h:setAt b x m)(i:Rel φ M w)(p:Sub m M){l:Loc}(k:φ b=some l) :
 Rel φ (upd M b (some (yzv y))) (w.setCell ⟨l.blk,l.base,none⟩ (.int .u32 y))/\WG φ M w φ (upd M b (some (yzv y))) (w.setCell ⟨l.blk,l.base,none⟩ (.int .u32 y)):=by
 obtain⟨B,a,e,r,s,f,g,t,z⟩:=ybdh h i p;rw[k]at e;cases e
 obtain⟨c,u,_⟩:=h;rw[setCell_eq_setRow w l.blk l.base a _ _ _ g];refine i.setRow (p _ _ u) k ⟨r,s,(a.setIfInBounds l.base (.int .u32 y)).toList,27,(0,0),⟨fun _=>⟨rfl,rfl,f⟩,fun o n=>(by rw[f]at n;cases n)⟩,?_,by simpa using t,fun j v A q=>?_⟩
 .rw[Array.toArray_toList];exact setRow_heap w _ _ _ _ _ g
 .obtain rfl:j=0:=by omega
  rw[ybpo]at q;cases q
  refine⟨.int .u32 y,?_,.simple rfl⟩;have d:l.base<a.size:=by omega
  simp[d]
end
noncomputable def ytb(b y:Nat)(m:Mem):Mem:=m.app (.upd b (yzv y))
theorem ybuc(b y:Nat)(m:Mem)(i:Nat):(ytb b y m).b.get i=if i=b then some (yzv y)else m.b.get i:=by
 unfold ytb;rw[Sh.ybdw];exact T.set_at _ _ _ _
noncomputable def yctl(b s:Nat):It where
 n:=(yby s).length
 el:=fun k=>[.int .i64 ((yby s).getD k 0:Nat)]
 pre:=fun k m=>setAt b (yef s k) m
 adv:=fun k m=>ytb b (yef s (k+1)) m
 step:=fun k φ M w M' w'=>∃l,φ b=some l/\M'=upd M b (some (yzv (yef s (k+1))))/\w'=w.setCell ⟨l.blk,l.base,none⟩ (.int .u32 (yef s (k+1):Nat))
theorem ycvk{a:Nat}(d:a≠0)(h:a<2^32):bits BinOp.and IntKind.u32 (a:Int) (IntKind.wrap .u32 ((a:Int)-1))=((a&&&(a-1):Nat):Int):=by
 have e:IntKind.wrap .u32 ((a:Int)-1)=((a-1:Nat):Int):=by
  have c:(a:Int)-1=((a-1:Nat):Int):=by omega
  rw[c];exact ynk (by omega)
 rw[e];exact u32_and (a:=a) (b:=a-1) h (by omega)
set_option maxRecDepth 100000 in
set_option maxHeartbeats 2000000 in
theorem ycof{b s:Nat}(r:s<2^32):ItOk zC 249 [.pointer (some ⟨b,0,none⟩)] (yctl b s):=by
 refine⟨fun V w=>ydn ybcu zBR rfl V w,fun k m hk hw hp=>?_,?_,?_⟩
 .obtain⟨c,h1,_⟩:=hp;have hb:=hw _ _ h1;show Grow m (ytb b _ m);unfold ytb
  exact⟨ycif hw (fun i hi=>by
   have hi:i∈[b]:=hi;rw[List.mem_singleton.1 hi];exact⟨_,h1⟩),(yvs m _).1⟩
 .rintro k φ M w m U w' hk hw hR hs hp ⟨l,hl,rfl,rfl⟩;obtain⟨r1,r2⟩:=ycxv (y:=yef s (k+1)) hp hR hs hl;obtain⟨c,h1,_⟩:=hp;refine⟨φ.le_refl,fun _ _=>rfl,r1,fun i x B=>?_,fun i hi o=>?_,r2⟩
  .have B:(ytb b (yef s (k+1)) m).b.get i=some x:=B;rw[ybuc]at B;show(if i=b then _ else _)=_
   split at B
   .rename_i q;rw[if_pos q];exact B
   .rename_i q;rw[if_neg q];exact hs _ _ B
  .show(if i=b then _ else _)=_
   rw[if_neg fun q=>?_];subst q;rcases o with o|o
   .rw[h1]at o;cases o
   .have o:i<(ytb i (yef s (k+1)) m).low:=o;unfold ytb at o;rw[Sh.ybdw]at o;have o:i<Nat.min m.low i:=o;exact absurd o (Nat.not_lt.2 (Nat.min_le_right m.low i))
 .intro l St b1 φ M w b2 d p n O H;obtain⟨box,rfl,G⟩:=yiq H;obtain⟨C,R,_,rfl⟩:=G.ptr_inv;obtain⟨N,hN⟩:∃N,(yby s).length=N:=⟨_,rfl⟩;have K:=zO d;have J:=zO p;have Hyield:=zO n;have H0:=zO O;have Hlc:=zO R
  have g:Hid (∀k f U W,St k f U W->φ.le f/\W.cell? ⟨C.blk,C.base,none⟩=some (.int .u32 (yef s k:Nat))/\W.frozen? ⟨C.blk,C.base,none⟩=false/\(∃e fz,W.heap[0]?=some (.cells ybhr.toArray e fz))/\C.blk<W.heap.size):=zO fun k f U W t=>by
   obtain⟨a2,m,hR,a8,a4⟩:=d k f U W t;obtain⟨l',cs,Y,g2,g3,g4,L,g6,g7⟩:=ybdh a4 hR a8;rw[a2 _ _ R]at Y;cases Y
   exact⟨a2,by simp[World.cell?,L,g7],by simp[World.frozen?,L],(hR.gl _ rfl).1,(Array.getElem?_eq_some_iff.1 L).1⟩
  clear d p n O G R H
  refine callsIn_of_wp zBR rfl trivial ?_
  simp only[Tryz.ntmps249,List.size_toArray,List.length_cons,zAF,zB,Nat.reduceSub,Array.replicate_succ,
   Array.replicate_zero,List.push_toArray,List.append_toArray,zAT,List.cons_append]
  gi_wp2
  gi_loopg [] N (fun q wr=>∃k:Nat,q+k=N/\Hid (∃f U,φ.le f/\St k f U wr))
  case atStart=>exact⟨0,by omega,zO ⟨φ,M,φ.le_refl,H0.out⟩⟩
  case round =>
   obtain⟨k,hq,t⟩:=hrel;obtain⟨T,M1,h,a⟩:=t.out;obtain⟨_,a1,b5,Q,b3⟩:=g.out _ _ _ _ a
   by_cases b7:k<N
   .obtain⟨O,hz⟩:=ydbd r (k:=k) (by omega)
    have A:=yqs r k;have F:=ycvk O A;have E:yef s (k+1)=yef s k&&&(yef s k-1):=rfl;obtain⟨x,B⟩:∃x,yef s k=x:=⟨_,rfl⟩;obtain⟨y,hy⟩:∃y,yef s (k+1)=y:=⟨_,rfl⟩;rw[B]at a1 O hz A F E;rw[hy]at E;rw[<-E]at F;have b8:((x:Int)!=0)=true:=by rw[bne_iff_ne];omega
    have S:=ydji (w:=wr) (x:=x) A Q;rw[hz]at S;obtain⟨v,hv⟩:∃v,(yby s).getD k 0=v:=⟨_,rfl⟩
    obtain⟨fn,a7,D,X,a5,P⟩:=Hyield.out k T M1 wr [.int .i64 (v:Nat)] (by show k<(yby s).length;omega) a (by
     show VRL T [.int .i64 ((yby s).getD k 0:Nat)] _;rw[hv];exact .cons (.simple rfl) .nil)
    rw[hv]at S;have a6:(Instr.yield l #[.int .i64 (v:Int)]).run zC wr = .ok (.round l fn a7 D X) wr:=a5;have Hst1:=zO a;have Hle1:=zO h;have Hy:=zO hy;have Hx:=zO B
    clear t a h a5 Q hz E B hy
    gi_wp2
    refine⟨trivial,callsIn_wide.2 (S.mono ?_)⟩;rintro e w' ⟨rfl,rfl⟩
    gi_wp2
    refine P.mono ?_;rintro e W3 (⟨rfl,b0,M3,j,⟨m3,Z,a0,a3⟩,I⟩|⟨rfl,u⟩)
    .obtain⟨l',cs,Y,g2,g3,g4,L,g6,g7⟩:=ybdh a3 Z a0;rw[j _ _ (Hle1.out _ _ Hlc.out)]at Y;cases Y
     have b4:W3.cell? ⟨C.blk,C.base,none⟩=some (.int .u32 (x:Nat)):=by
      have a9:yef s k=x:=Hx.out;simp[World.cell?,L,g7,a9]
     have b6:W3.frozen? ⟨C.blk,C.base,none⟩=false:=by simp[World.frozen?,L]
     have Hst3:=zO (I _ _ ⟨C,j _ _ (Hle1.out _ _ Hlc.out),rfl,rfl⟩);have Hle3:=zO j
     clear I j P a6 Z a0 a3 g2 g3 g4 L g6 g7
     gi_wp2
     gi_roundg (gk-1)
     case measure=>omega
     case rel =>
      have z:=Hst3.out;rw[Hy.out]at z;refine⟨k+1,by omega,zO ⟨b0,upd M3 b (some (yzv y)),Phi.le_trans Hle1.out Hle3.out,?_⟩⟩
      clear K J Hyield H0 g Hst3
      have e1:IntKind.wrap .u32 ((x:Int)-1)=(x:Int)-1:=by
       have e:(x:Int)-1=((x-1:Nat):Int):=by omega
       rw[e];exact ynk (by omega)
      rw[e1]at F;rw[F];exact z
    .have Hstop:=zO u
     clear u P a6
     gi_wp2
     refine bodyPost_ret (results_none rfl _ _ _) rfl ?_;exact⟨⟨_,rfl⟩,.inr Hstop.out⟩
   .have hk:k=N:=by omega
    have O:yef s k=0:=(rest_end r (by omega)).2 (by omega)
    rw[O]at a1;have Hst1:=zO a;have Hle1:=zO h
    clear t a h Q
    gi_wp2
    go_end0
    exact⟨⟨_,rfl⟩,.inl ⟨T,M1,by
     have:=Hst1.out;rw[hk,<-hN]at this;exact this⟩⟩
end Ev
end
section
section
variable {nm nc nr:ByteArray}{g:Gr}{c:Conf}{u v s:Nat}
theorem ycxb{i:Nat}:(1<<<v).testBit i=true↔i=v:=by
 rw[zBC,zAL,decide_eq_true_iff];exact eq_comm
theorem ycef(i:ybe g):yzb g (1<<<v):=fun a b d f=>by
 cases q:(1<<<v).testBit b with
 |false=>rfl
 | true =>
   rw[ycxb]at f q;subst f;subst q
   exact absurd d fun h=>by
    obtain⟨m,_⟩:=i.adj_lt h;obtain⟨l,k,e⟩:=ykn.1 h;have j:g.ports[b]?=some (g.ports.getD b []):=by simp[zAR,m]
    exact(i.link j k).2.2.1 e
end
end
section
def takeB(net:Nat->Nat)(t v:Nat):Nat:=if net v&&&t=0 then t|||2^v else t
def resL(net:Nat->Nat)(e w:Nat):Nat:=if e<2^24 then(yby (resD e w)).foldl (takeB net) 0 else 2^e.log2
theorem ytv{t v i:Nat}:(t|||2^v).testBit i=true↔t.testBit i=true\/i=v:=by
 rw[Nat.testBit_or,Bool.or_eq_true,zAL,decide_eq_true_iff];exact or_congr Iff.rfl eq_comm
theorem ypq{g:Gr}(j:ybe g){net:Nat->Nat}(m:∀u v,adj g u v->(net u).testBit v=true):∀(l:List Nat) (t:Nat),yzb g t ->
 yzb g (l.foldl (takeB net) t)/\(∀i,(l.foldl (takeB net) t).testBit i=true->t.testBit i=true\/i∈l)/\(∀i,t.testBit i=true->(l.foldl (takeB net) t).testBit i=true)
 |[],t,h=>⟨h,fun _ h=>.inl h,fun _ h=>h⟩
 | v :: l,t,h=>by
   have s : yzb g (takeB net t v):=by
    unfold takeB;split
    .rename_i q
     have no:∀w,adj g v w->t.testBit w=false:=fun w A=>by
      cases r:t.testBit w with
      |false=>rfl
      | true =>
        have:(net v&&&t).testBit w=true:=by rw[zAH,m v w A,r];rfl
        rw[q]at this;simp at this
     intro a b c x;cases r:(t|||2^v).testBit b with
     |false=>rfl
     | true =>
       exfalso
       rcases ytv.1 x with d|d<;>rcases ytv.1 r with f|f
       .have:=h a b c d;rw[f]at this;cases this
       .rw[f]at c;have:=no a (j.adj_symm c);rw[d]at this;cases this
       .rw[d]at c;have:=no b c;rw[f]at this;cases this
       .rw[d,f]at c;obtain⟨z,_⟩:=j.adj_lt c;obtain⟨l,y,e⟩:=ykn.1 c;have p:g.ports[v]?=some (g.ports.getD v []):=by simp[zAR,z]
        exact(j.link p y).2.2.1 e
    .exact h
   obtain⟨d,n,o⟩:=ypq j m l _ s;rw[zAI];refine⟨d,fun i k=>?_,fun i k=>o i ?_⟩
   .rcases n i k with q|q
    .unfold takeB at q;split at q
     .rcases ytv.1 q with q|q
      .exact .inl q
      .exact .inr (by rw[q];exact zL)
     .exact .inl q
    .exact .inr (zAJ _ q)
   .unfold takeB;split
    .exact ytv.2 (.inl k)
    .exact k
theorem ybbh(g:Gr):yzb g 0:=fun _ _ _ h=>by simp at h
theorem yczm{g:Gr}(f:ybe g){net:Nat->Nat}(h:∀u v,adj g u v->(net u).testBit v=true):ResD (yzb g) (resL net):=fun e w j=>by
 unfold resL
 by_cases d:e<2^24
 .rw[if_pos d];obtain⟨z,n⟩:=Sh.yoo e w j d;obtain⟨o,p,A⟩:=ypq f h (yby (resD e w)) 0 (ybbh g)
  have a:∀i,i∈yby (resD e w)↔i<32/\(resD e w).testBit i=true:=fun i=>by
   unfold yby;rw[zBH,zBJ]
  refine⟨?_,fun i b=>?_,o⟩
  .obtain⟨i,b⟩:∃i,(resD e w).testBit i=true:=by
    refine zK fun m=>z ((ych _).2 fun i=>?_);cases q:(resD e w).testBit i with
    |false=>rfl
    |true=>exact absurd ⟨i,q⟩ m
   have c:i<32:=by
    refine zK fun m=>?_;have:=n i b;rw[zX (zS d (zU (by omega) (by omega)))]at this
    cases this
   have k:=(a i).2 ⟨c,b⟩
   obtain⟨x,l,r⟩:∃x l,yby (resD e w)=x::l:=by
    cases q:yby (resD e w)with
    |nil=>rw[q]at k;cases k
    |cons x l=>exact⟨x,l,rfl⟩
   rw[r,zAI];have t:yzb g (takeB net 0 x):=(ypq f h [x] 0 (ybbh g)).1
   have:=(ypq f h l _ t).2.2 x (by
    unfold takeB;rw[if_pos (by simp)]
    exact ytv.2 (.inr rfl))
   intro y;rw[y]at this;simp at this
  .rcases p i b with q|q
   .simp at q
   .exact n i ((a i).1 q).2
 .rw[if_neg d]
  have s:∀i,(2^e.log2).testBit i=true↔i=e.log2:=fun i=>by
   rw[zAL,decide_eq_true_iff];exact eq_comm
  refine⟨Nat.pos_iff_ne_zero.1 (zAG _),fun i b=>?_,?_⟩
  .rw[(s i).1 b];exact Nat.testBit_log2 j
  .have:=ycef (v:=e.log2) f
   rwa [zBC]at this
theorem ycke{g:Gr}(j:ybe g):∀u v,adj g u v->(netP (g.ports.getD u [])).testBit v=true:=fun u v h=>by
 obtain⟨l,d,e⟩:=ymk h
 have f:∀(b:List (Int×Int)) (a:Nat),(a.testBit v=true\/∃l∈b,l.1.toNat=v)->(b.foldl (fun a l=>a|||2^l.1.toNat) a).testBit v=true:=by
  intro b
  induction b with
  |nil=>intro a c;exact c.resolve_right fun⟨_,h,_⟩=>nomatch h
  | cons x b i =>
    intro a c;rw[zAI];refine i _ ?_;rcases c with q|⟨l,d,q⟩
    .exact .inl (ytv.2 (.inl q))
    .rcases List.mem_cons.1 d with r|r
     .exact .inl (ytv.2 (.inr (by rw[<-q,r])))
     .exact .inr ⟨l,r,q⟩
 exact f _ 0 (.inr ⟨l,d,e⟩)
end
section
namespace Sh
open Ev Go.RowKit
def setO(x:Nat):OB:=⟨27,true,1,1,fun _=>[.i .u32 x]⟩
def ybip(b s:Nat):ItS:=⟨(yby s).length,fun k=>[.i .i64 ((yby s).getD k 0:Nat)],[(b,0)],fun k o=>lookO o (b,0)=some (setO (yef s k)),fun k o=>(SS.own ⟨[],o⟩ (b,0) (some (setO (yef s (k+1))))).o⟩
theorem ybhf{b s:Nat}(G:s<2^32):ItC zC 249 [.pt (b,0) 0 0] (ybip b s):=by
 intro Q F U K f m S C E hown;obtain⟨u,rfl,H⟩:=rvl1 E;obtain⟨k,z,hk,rfl⟩:=H.pt_inv;have c:lookO K.o (b,0)=some (setO (yef s 0)):=hown;obtain⟨l,_⟩:=C.ownAt c hk (.inl (show(1:Nat)≠0 by decide))
 have l:z=1:=l;subst l;refine⟨yctl k s,ycof G,rfl,fun x p J M R j O n d P a=>?_⟩;have g:=n (b,0) zL _ hk;have a:lookO J.o (b,0)=some (setO (yef s j)):=a;obtain⟨_,Tb,L,y,A⟩:=d.ownAt a g (.inl (show(1:Nat)≠0 by decide))
 obtain⟨N,h,_,B⟩:=A 0 (by show 0<1;omega)
 refine⟨?_,fun D=>⟨.cons .i .nil,?_⟩⟩
 .refine⟨Tb,y,?_⟩;have r:=B 0 (by show 0<1;omega)
  have h:RVL x p [.i .u32 (yef s j:Nat)] (L 0):=h;obtain⟨v,e,I⟩:=rvl1 h;rw[e,I.int_inv]at r;exact r
 .exact d.upd (b:=setO (yef s (j+1))) ⟨_,a⟩ g (show 27≠CU by decide) (Tb:=T.sets .leaf 0 [.int .u32 (yef s (j+1):Nat)]) (L:=fun _=>[.int .u32 (yef s (j+1):Nat)]) fun i t=>by
   have t:i<1:=t;obtain rfl:i=0:=by omega
   refine⟨rfl,.cons .i .nil,rfl,fun q w=>?_⟩;have w:q<1:=w;obtain rfl:q=0:=by omega
   exact ybpo _
theorem ybpl{s:Nat}:Cm zC 216 [] [] [.i .u32 s] fun r o=>r = .fn 249 [] [.pt (1,0) 0 0]/\o=[(1,.one (some (setO s)))]:=by
 refine(okGM 216) [] [] _ _ _ ?_;simp only[cdE 216,rgE 216 0,rgE 216 1,clash,ygo,go_sem,zA,zB,zD,↓reduceIte,reduceCtorEq];refine⟨.fn 249 [] [.pt (1,0) 0 0],[(1,.one (some (setO s)))],?_,?_,rfl,rfl⟩
 .refine yx ?_;simp only[setO,wk,go_sem,zD,↓reduceIte,reduceCtorEq]
 .simp only[setO,ybz,yeg,wk,go_sem,↓reduceIte]
theorem ybcg{s v:Nat}(b:s<2^24)(h:v∈yby s):v<24/\s.testBit v=true:=by
 have a:=(ybwj.1 h).2;refine⟨zK fun q=>?_,a⟩;rw[zX (zS b (zU (by omega) (by omega)))]at a
 cases a
theorem getD_mem{l:List Nat}{k:Nat}(h:k<l.length):l.getD k 0∈l:=by rw[getD_at h];exact zY h
theorem ycev{net:List Nat}{s:Nat}(n:s<2^24)(m:∀v,s.testBit v=true->v<net.length)(k:∀v,net.getD v 0<2^32)(e:∀v,s.testBit v=true->net.getD v 0&&&s=0) :
 Returns zC 245 [usV net,.i .u32 s] (.b true):=by
 refine Returns.of ((okGU 245) [216] _ _ ?_);simp only[cdE 245,rgE 245 0,rgE 245 1,usV,clash,go_sem,zA,zB,zD,↓reduceIte,reduceCtorEq];refine ydk (ybpl (s:=s)) [(1,60)] 0 [2,3,4] [2,3,4] ?_ ?_
 .simp only[to1,okN,ybz,yeg,ydp,yda,wk,go_sem,zA,zJ,↓reduceIte,reduceCtorEq]
 rintro r p ⟨rfl,rfl⟩;simp only[setO,ykz,yjk,nuF,nu,difN,ydp,yda,Fam.ren,OB.ren,dim,ygb,ybqc,ybow,go_sem,zA,zJ,↓reduceIte]
 refine ybqe (ybhf (b:=60) (s:=s) (by omega)) [(60,0),(2,0),(3,0),(4,0)] (fun i (_:Unit)=>⟨[(7,.fn 249 [] [.pt (60,0) 0 0]),(2,.pt (2,0) 0 0),(3,.pt (3,0) 0 0),(4,.pt (4,0) 0 0)],
  [(60,.one (some (setO (yef s i)))),(2,.one (some ⟨75,true,1,1,fun _=>[usV net]⟩)),(3,.one (some ⟨27,true,1,1,fun _=>[.i .u32 s]⟩)),(4,.one (some ⟨4,true,1,1,fun _=>[.b false]⟩))]⟩)
  (fun i _=>i<=(yby s).length) () (zAB _) ⟨fun _ h=>absurd h zBF,fun q h=>by rw[List.mem_singleton.1 h];exact zL⟩ ?_ (fun _=>rfl) ?_ ?_ ?_
 .refine yx ?_;simp only[setO,usV,yef,wk,go_sem,zA,zD,↓reduceIte,reduceCtorEq]
 .intro i _ l _;refine⟨rfl,?_⟩;simp only[go_sem,wk,go_sem,zA]
 .intro i _ l d;have d:i<(yby s).length:=d;obtain⟨g,c⟩:=ybcg n (getD_mem d);obtain⟨v,j⟩:∃v,(yby s).getD i 0=v:=⟨_,rfl⟩;rw[j]at g c;have o:=m v c;have f:=u32_and (a:=net.getD v 0) (b:=s) (k v) (by omega)
  rw[e v c]at f;simp only[IntKind.bits]at f;refine⟨_,rfl,?_⟩;simp only[ybip];simp only[rgE 245 2,rgE 245 3,usV,setO,j,f,zZ,zAY,clash,go_sem,zA,zB,↓reduceIte,reduceCtorEq]
  repeat (first|refine⟨by omega,?_⟩|refine⟨by decide,?_⟩)
  refine yev [] [] [] ?_;simp only[wk,go_sem,zA,zD,↓reduceIte,reduceCtorEq]
 .intro _ _;simp only[rgE 245 5,ybip,splice,go_sem,zA,↓reduceIte];exact Sim.refl _
end Sh
end
section
namespace Sh
open Ev Go.RowKit
end Sh
end
section
namespace Sh
open Ev Go.RowKit
end Sh
end
section
theorem yclh(ls:List (Int×Int))(u:Nat):(netP ls).testBit u=true↔∃l∈ls,l.1.toNat=u:=by
 have c:∀(ls:List (Int×Int)) (a:Nat),(ls.foldl (fun a l=>a|||2^l.1.toNat) a).testBit u=true↔a.testBit u=true\/∃l∈ls,l.1.toNat=u:=by
  intro ls
  induction ls with
  |nil=>exact fun a=>⟨.inl,fun h=>h.resolve_right fun⟨_,h,_⟩=>nomatch h⟩
  | cons x ls d =>
    intro a;rw[zAI,d,ytv];constructor
    .rintro((h|h)|⟨l,b,e⟩)
     .exact .inl h
     .exact .inr ⟨x,zL,h.symm⟩
     .exact .inr ⟨l,zAJ _ b,e⟩
    .rintro(h|⟨l,b,e⟩)
     .exact .inl (.inl h)
     .rcases List.mem_cons.1 b with r|r
      .exact .inl (.inr (by rw[<-e,r]))
      .exact .inr ⟨l,r,e⟩
 unfold netP;rw[c];simp
def netG(g:Gr)(v:Nat):Nat:=netP (g.ports.getD v [])
theorem ybqr{g:Gr}(b:ybe g){u v:Nat}(h:(netG g v).testBit u=true):adj g v u:=by
 obtain⟨l,a,e⟩:=(yclh _ _).1 h
 by_cases c:v<g.ports.length
 .rw[<-e];exact(yfg b c a).2.2.1
 .rw[zT,zAE (by omega)]at a
  cases a
theorem ycaa{g:Gr}(a:ybe g)(v:Nat):netG g v<2^24:=by
 have:=a.2.1;refine Nat.lt_pow_two_of_testBit _ fun i b=>?_;cases h:(netG g v).testBit i with
 |false=>rfl
 |true=>have:=(a.adj_lt (ybqr a h)).2;omega
theorem yxj(g:Gr)(v:Nat):(g.ports.map netP).getD v 0=netG g v:=by
 unfold netG
 by_cases a:v<g.ports.length
 .rw[Sh.getD_at (by rw[zAU];exact a),List.getElem_map,Sh.getD_at a]
 .rw[zT,zAE (by rw[zAU];omega),zT,zAE (by omega)]
  rfl
def resG(g:Gr):Nat->Nat->Nat:=resL (netG g)
theorem ybde{g:Gr}(a:ybe g):ResD (yzb g) (resG g):=yczm a (ycke a)
theorem ybim{g:Gr}(a:ybe g){s:Nat}(h:yzb g s){v:Nat}(b:s.testBit v=true):netG g v&&&s=0:=by
 rw[ych];intro i;rw[zAH];cases q:(netG g v).testBit i with
 |false=>rfl
 |true=>rw[h v i (ybqr a q) b];rfl
def yrn(f:Nat->Nat)(x i:Nat):Nat:=((yby x).take i).foldl (takeB f) 0
theorem yvg{f:Nat->Nat}{x i:Nat}(a:i<(yby x).length):yrn f x (i+1)=takeB f (yrn f x i) ((yby x).getD i 0):=by
 unfold yrn;rw[zV a,zAP,Sh.getD_at a];rfl
theorem ybvp(f:Nat->Nat)(x:Nat):yrn f x (yby x).length=(yby x).foldl (takeB f) 0:=by unfold yrn;rw[zAQ]
theorem ybiy{f:Nat->Nat}{x:Nat}(a:x<2^24):∀i,i<=(yby x).length->yrn f x i<2^24
 |0,_=>zAG 24
 | i+1,c=>by
   rw[yvg (by omega)]
   have h:=ybiy (f:=f) a i (by omega)
   have b:=(Sh.ybcg a (Sh.getD_mem (show i<(yby x).length by omega))).1
   unfold takeB;split
   .exact Nat.or_lt_two_pow h (zAX (by omega) b)
   .exact h
theorem yclv:lowB 0=0:=zBP _
theorem ycjo(e w:Nat):subB (resD e w) e:=by
 unfold resD;split
 .exact yur e
 .intro i a;rw[zAH,zQ]at a;exact a.2
namespace Sh
open Ev Go.RowKit
set_option maxHeartbeats 2000000 in
theorem ytq{net:List Nat}{e w:Nat}(V:e<2^24)(Y:∀v,e.testBit v=true->v<net.length)(M:∀v,net.getD v 0<2^24)(hw:w<2^32) :
 Returns zC 139 [usV net,.i .i64 2,.i .u32 e,.i .u32 w] (.i .u32 ((yby (resD e w)).foldl (takeB fun v=>net.getD v 0) 0:Nat)):=by
 refine Returns.of ((okGU 139) [216] _ _ ?_);have z:=u32_and (a:=w) (b:=e) (by omega) (by omega)
 obtain⟨N,Q,B⟩:∃N:Nat,IntKind.wrap .u32 (0-(e:Int))=(N:Int)/\IntKind.wrap .u32 (((zBS (IntKind.bits .u32) (e:Int))&&&zBS (IntKind.bits .u32) (N:Int)).toNat:Int)=((lowB e:Nat):Int):=by
  by_cases R:e=0
  .subst R;refine⟨0,by decide,?_⟩
   have:=u32_and (a:=0) (b:=0) (by omega) (by omega)
   rw[zBB]at this;rw[yclv];exact this
  .exact⟨2^32-e,u32_neg (by omega) (by omega),u32_and (a:=e) (b:=2^32-e) (by omega) (by omega)⟩
 have d:=ycjo e w;obtain⟨W,L⟩:∃W,w&&&e=W:=⟨_,rfl⟩;rw[L]at z;simp only[IntKind.bits]at z B
 obtain⟨x,hx,m⟩:∃x,resD e w=x/\((((W:Int)==0)=true/\lowB e=x)\/(((W:Int)==0)=false/\W=x)):=by
  unfold resD;rw[L]
  by_cases q:W=0
  .exact⟨lowB e,if_pos q,.inl ⟨by rw[q];rfl,rfl⟩⟩
  .exact⟨W,if_neg q,.inr ⟨by rw[beq_eq_false_iff_ne];omega,rfl⟩⟩
 rw[hx]at d ⊢;have l:x<2^24:=ygj d V;obtain⟨f,O⟩:∃f:Nat->Nat,(fun v=>net.getD v 0)=f:=⟨_,rfl⟩;have p:∀v,net.getD v 0=f v:=fun v=>by rw[<-O]
 simp only[p]at M;rw[O,<-ybvp f x];have c:=ybiy (f:=f) l;have u:=fun i=>yvg (f:=f) (x:=x) (i:=i);have y:yrn f x 0=0:=rfl;obtain⟨T,S⟩:∃T:Nat->Nat,(fun i=>yrn f x i)=T:=⟨_,rfl⟩;have D:∀i,yrn f x i=T i:=fun i=>by rw[<-S]
 simp only[D]at c u y ⊢;rcases m with⟨J,I⟩|⟨J,I⟩
 all_goals
  first
   |rw[I]at B
   |rw[I]at z J
  simp only[cdE 139,rgE 139 0,rgE 139 1,rgE 139 2,rgE 139 3,rgE 139 4,rgE 139 5,rgE 139 7,rgE 139 8,rgE 139 9,usV,z,Q,B,J,IntKind.signed,zG,clash,go_sem,zA,zB,zD,↓reduceIte,reduceCtorEq];refine ydk (ybpl (s:=x)) [(1,60)] 0 [4,9] [4,9] ?_ ?_
  .simp only[to1,okN,ybz,yeg,ydp,yda,wk,go_sem,zA,zJ,↓reduceIte,reduceCtorEq]
  rintro r o' ⟨rfl,rfl⟩;simp only[setO,ykz,yjk,nuF,nu,difN,ydp,yda,Fam.ren,OB.ren,dim,ygb,ybqc,ybow,go_sem,zA,zJ,↓reduceIte]
  refine ybqe (ybhf (b:=60) (s:=x) (by omega)) [(60,0),(4,0),(9,0)] (fun i (_:Unit)=>⟨[(30,.fn 249 [] [.pt (60,0) 0 0]),(4,.pt (4,0) 0 0),(9,.pt (9,0) 0 0)],
   [(60,.one (some (setO (yef x i)))),(4,.one (some ⟨75,true,1,1,fun _=>[usV net]⟩)),(9,.one (some ⟨27,true,1,1,fun _=>[.i .u32 (T i)]⟩))]⟩)
   (fun i _=>i<=(yby x).length) () (zAB _) ⟨fun _ h=>absurd h zBF,fun β h=>by rw[List.mem_singleton.1 h];exact zL⟩ ?_ (fun _=>rfl) ?_ ?_ ?_
  .refine yx ?_;simp only[setO,usV,yef,y,wk,go_sem,zA,zD,↓reduceIte,reduceCtorEq]
  .intro i _ X _;refine⟨rfl,?_⟩;simp only[go_sem,wk,go_sem,zA]
  .intro i _ X g;have g:i<(yby x).length:=g;obtain⟨C,k⟩:=ybcg l (getD_mem g);have j:=u i g;have G:=c i (by omega)
   obtain⟨v,H⟩:∃v,(yby x).getD i 0=v:=⟨_,rfl⟩;rw[H]at C k j;have Z:=Y v (d v k);have F:=M v;have n:=p v;obtain⟨b,E⟩:∃b,f v=b:=⟨_,rfl⟩;obtain⟨t,o⟩:∃t,T i=t:=⟨_,rfl⟩;unfold takeB at j;rw[E]at F n j;rw[o]at G j;have A:=u32_and (a:=b) (b:=t) (by omega) (by omega)
   obtain⟨a,U⟩:∃a,b&&&t=a:=⟨_,rfl⟩;rw[U]at A j;have P:=yms (v:=v) (by omega)
   have ov:=u32_or (a:=t) (b:=2^v) (by omega) (zAX (by omega) (by omega))
   simp only[IntKind.bits,Int.toNat_natCast]at A P ov;refine⟨_,rfl,?_⟩;simp only[ybip]
   by_cases q:a=0
   .have K:((a:Int)==0)=true:=by rw[q];rfl
    rw[if_pos q]at j;simp only[rgE 139 10,rgE 139 11,rgE 139 12,usV,setO,H,n,o,A,P,ov,K,splice,clash,go_sem,zA,zB,↓reduceIte,reduceCtorEq]
    repeat (first|refine⟨by omega,?_⟩|refine⟨by decide,?_⟩)
    refine yev [] [] [] ?_;simp only[j,wk,go_sem,zA,zD,↓reduceIte,reduceCtorEq]
   .have K:((a:Int)==0)=false:=by rw[beq_eq_false_iff_ne];omega
    rw[if_neg q]at j;simp only[rgE 139 10,rgE 139 11,rgE 139 12,usV,setO,H,n,o,A,K,clash,go_sem,zA,zB,↓reduceIte,reduceCtorEq]
    repeat (first|refine⟨by omega,?_⟩|refine⟨by decide,?_⟩)
    refine yev [] [] [] ?_;simp only[j,wk,go_sem,zA,zD,↓reduceIte,reduceCtorEq]
  .intro _ _;simp only[rgE 139 13,ybip,clash,go_sem,zA,zB,↓reduceIte,reduceCtorEq];exact Sim.refl _
theorem ytk{net:List Nat}{e s:Nat}(n:e<2^24)(m:s≠0)(k:s<2^24)(c:difB s e=0)(j:∀v,s.testBit v=true->v<net.length)(g:∀v,net.getD v 0<2^32)(h:∀v,s.testBit v=true->net.getD v 0&&&s=0) :
 Returns zC 213 [usV net,.i .i64 2,.i .u32 e,.i .u32 s] (.b true):=by
 refine Returns.of ((okG 213) _ _ ?_);have l:((s:Int)==0)=false:=by simp;omega
 have d:=u32_andNot (a:=s) (b:=e) (by omega) (by omega)
 have f:=ycev k j g h;rw[c]at d;simp only[usV]at f;simp only[zZ,IntKind.bits]at d;simp only[cdE 213,rgE 213 0,rgE 213 1,usV,l,d,zAY,go_sem,zA,zB,↓reduceIte,reduceCtorEq];simp only[rgE 213 3,rgE 213 4,rgE 213 6,rgE 213 7,zG,go_sem,zA,zB,↓reduceIte,reduceCtorEq];refine f.use ?_;simp only[yw,ygd,go_sem,zA,zB,↓reduceIte,reduceCtorEq]
theorem yczp{g:Gr}(d:ybe g):DaemonOk 2 (g.ports.map netP) (resG g):=by
 have o:(fun v=>(g.ports.map netP).getD v 0)=netG g:=funext fun v=>yxj g v;have i:∀v,(g.ports.map netP).getD v 0<2^24:=fun v=>by rw[yxj];exact ycaa d v
 have l:∀(e:Nat),e<2^(g.ports.map netP).length->∀v,e.testBit v=true->v<(g.ports.map netP).length:=fun e a v b=>by
  refine zK fun q=>?_;rw[zX (zS a (zU (by omega) (by omega)))]at b
  cases b
 have k:∀(e w:Nat),e<2^24->resG g e w=(yby (resD e w)).foldl (takeB (netG g)) 0:=fun e w a=>if_pos a;refine⟨fun e w a j c f=>?_,fun e w a j c f=>?_,fun w f=>?_,fun e w c _=>⟨(ybde d e w c).1,(ybde d e w c).2.1⟩⟩
 .rw[k e w a,<-o];exact ytq a (l e j) i f
 .obtain⟨m,h,n⟩:=ybde d e w c;exact ytk a m (ygj h a) (yqp h) (fun v b=>l e j v (h v b)) (fun v=>zS (i v) (by omega)) fun v b=>by rw[yxj];exact ybim d n b
 .exact⟨_,ytq (zAG 24) (fun v b=>by simp at b) i f⟩
end Sh
end
section
namespace Sh
open Ev Go.RowKit
theorem ybwq:Returns zC 31 [] (.a (.string Nqt)):=by
 refine Returns.of ((okG 31) _ _ ?_);simp only[cdE 31,rgE 31 0,rgE 31 1,go_sem,↓reduceIte];exact Sim.refl _
theorem ybnx{g:Gr}(a:GrI g)(hit:yck g=true):Returns zC 46 [grV g] (.ag (ydq 2 false true (ybeh g/2+2) (-1))):=by
 have h:=ybvt a;unfold yblr at h;rw[if_pos hit]at h;exact h
theorem ybrn:Returns zC 62 [] (ybx NqP.vars):=by
 have e:NqP.vars=[⟨⟨#[104]⟩,1,0,0,1,0⟩,⟨⟨#[108]⟩,2,0,0,0,0⟩]:=by kernel_rfl
 rw[e];exact yccg
end Sh
end
section
namespace Sh
open Ev Go.RowKit
theorem ycoc{g:Gr}(c:GrI g):Returns zC 123 [grV g] (.b (yhc g)):=by
 refine Returns.of ((okG 123) _ _ ?_);have a:=yhy c;simp only[grV]at a;simp only[cdE 123,rgE 123 0,rgE 123 1,grV,go_sem,zA,zB,zD,↓reduceIte];refine a.use ?_;simp only[yw,ygd,go_sem,zA,zB,↓reduceIte,reduceCtorEq]
theorem ycoh{g:Gr}(e:ybe g){c:Conf}(h:ybhg c)(i:yol g.ports.length (ydm g [1]) c=true):Returns zC 169 [grV g,ybf c,yj [1]] (.b true):=by
 refine Returns.of ((okG 169) _ _ ?_);have d:=ycoc (yro e);rw[(ycm g).2 e]at d
 have a:=ybbt e h (G:=[1]) (fun x f=>by
  simp at f;subst f;exact yhd (by omega))
 rw[i]at a;simp only[grV]at d a;simp only[cdE 169,rgE 169 0,rgE 169 1,grV,clash,go_sem,zA,zB,zD,↓reduceIte];refine d.use ?_;simp only[yw,clash,go_sem,zA,zB,↓reduceIte,reduceCtorEq];refine a.use ?_;simp only[go_sem];exact Sim.refl _
theorem ybuz{g:Gr}(a:ybe g){c:Conf}(d:ycb IqP g c=true)(p:yh IqP g c=0):Returns zC 93 [grV g,ybf c] (.b true):=by
 refine Returns.of ((okG 93) _ _ ?_);have r:=a.2.1;have j:=a.2.2.1;obtain⟨n,o⟩:=ycbz d;have s:=yut (ydf a ydjp d)
 have h:yol g.ports.length (ydm g [1]) c=true:=by
  rw[<-d];unfold ycb;rw[j];congr 1
 have l:=ycoh a s h;have m:=ycrs (c:=c) (by omega) (fun v d=>⟨by have:=(o v (by omega)).1;omega,(o v (by omega)).2⟩)
 have i:memB c c.length<2^32:=by
  have u:memB c c.length<2^c.length:=yrh _ _;have w:2^c.length<=2^24:=zU (by omega) (by omega)
  omega
 have f:=yboi a i;have e:=ycst a d p;rw[<-n]at e;rw[show decide (arP g (memB c c.length)=difB (2^g.ids.length-1) (memB c c.length))=true from decide_eq_true (by rw[<-n];exact e)]at f
 obtain⟨S,t⟩:∃S,memB c c.length=S:=⟨_,rfl⟩;rw[t]at m f;simp only[grV,yj]at l f;simp only[cdE 93,rgE 93 0,rgE 93 1,grV,yj,clash,go_sem,zA,zB,zD,↓reduceIte,reduceCtorEq]
 refine .inl ⟨fun q k=>by obtain rfl:q=0:=by omega
                          simp only[go_sem],l.useS ?_ ?_⟩
 .refine⟨Sim.refl _,Sim.refl _,?_,trivial⟩;refine yel fun q k=>?_;obtain rfl:q=0:=by have k:q<1:=k;omega
  simp only[zW,go_sem];exact⟨Sim.refl _,trivial⟩
 simp only[yw,clash,go_sem,zA,zB,↓reduceIte,reduceCtorEq];refine⟨by decide,m.use ?_⟩
 simp only[go_sem,↓reduceIte];refine⟨by decide,f.use ?_⟩
 simp only[go_sem];exact⟨by decide,Sim.refl _⟩
end Sh
end
section
namespace Sh
open Go Ev
structure LaidV(fp:Fact)(l:List VarR)(B:List BlkL):Prop where
 args:fp.args=[]
 pre:fp.pre=[]
 sl:isSl fp.v=true
 still:fp.still=true
 b:∀b∈B,b∈fp.post
 vars:ybmz B fp.v l=true
theorem ymm{P:Program}{fp:Fact}{l:List VarR}{B:List BlkL}(C:ybp P fp)(h:LaidV fp l B):Returns P fp.g [] (ybx l):=by
 intro G m V E J D;cases D
 obtain⟨O,⟨Q,R⟩,S,T,q,F,U⟩:=ylb h.still;have z:=yrw (tgt:=[]) (n0:=m.next) C h.still (by rw[h.pre];rfl) List.nodup_nil (fun t K=>by cases K)
 obtain⟨d,o⟩:∃d,fp.rho [] m.next=d:=⟨_,rfl⟩
 have k:(fp.move [] m.next).post=fp.post.map (BlkL.ren d):=by rw[<-o];rfl
 have L:(fp.move [] m.next).v=ren1 d fp.v:=by
  show renV (fp.rho [] m.next) fp.v=_
  rw[o];have j:=h.sl
  generalize fp.v=v at j
  unfold isSl at j;split at j
  .rfl
  .cases j
 have f:(fp.move [] m.next).pre=[]:=by
  show fp.pre.map _=[];rw[h.pre];rfl
 have p:(fp.move [] m.next).fits fp.g [] m=true:=by
  unfold Fact.fits;rw[f];show(zBW fp.g fp.g&&zBW m.next m.next&&eqL2 (fp.args.map (ren2 _)) []&&true)=true
  rw[zBT,zBT,h.args];rfl
 have n:∀b∈fp.post,d b.i=b.i-fp.next0+m.next:=fun b a=>by rw[<-o];exact ybcc (q b a).1 (q b a).2.1
 have A:yho ((fp.post.map (BlkL.ren d)).map (·.i))=true:=by
  refine ymg ?_
  have e:(fp.post.map (BlkL.ren d)).map (·.i)=(fp.post.map (·.i)).map (fun i=>i-fp.next0+m.next):=by
   rw[zBU,zBU];refine List.map_congr_left fun b a=>?_;show(b.ren d).i=_;rw[b.ygb,n b a];rfl
  rw[e];unfold List.Nodup at F ⊢;rw[List.pairwise_map];refine List.Pairwise.imp_of_mem (fun {x y} M N h=>?_) F;obtain⟨H,s,rfl⟩:=List.mem_map.1 M;obtain⟨r,u,rfl⟩:=List.mem_map.1 N;have:=(q H s).1;have:=(q r u).1;omega
 have j:=yuz z p;unfold Fact.out at j;rw[L,f,k]at j;refine⟨_,_,_,j,zAA _,?_,rfl,?_⟩
 .intro i b a;show(blksT m.b (fp.post.map (BlkL.ren d))).get i=some b;rw[yqq fun c I=>?_]
  .exact a
  .obtain⟨c,w,rfl⟩:=List.mem_map.1 I;have:=E i b a;rw[c.ygb,n c w];omega
 .refine ybar (B:=B) (fun b a=>?_) h.vars;have a:=h.b b a;unfold frsh;rw[if_pos (by rw[n b a];omega)]
  have:=yqh (t:=m.b) A _ (List.mem_map.2 ⟨b,a,rfl⟩);rw[b.ygb]at this;exact this
end Sh
end
section
namespace Sh
open Ev Go.RowKit
theorem yux:Returns zC 7 [.i .i64 0] (.a (.string Bqt)):=by
 refine Returns.of ((okG 7) _ _ ?_);have h:=ybfh;simp only[cdE 7,rgE 7 0,rgE 7 1,rgE 7 2,rgE 7 3,clash,go_sem,zB,↓reduceIte,reduceCtorEq];refine h.use ?_;simp only[yw,clash,go_sem,zB,↓reduceIte,reduceCtorEq];exact Sim.refl _
theorem ycll:Returns zC 7 [.i .i64 4] (.a (.string Cqt)):=by
 refine Returns.of ((okG 7) _ _ ?_);have h:=ycca;simp only[cdE 7,rgE 7 0,rgE 7 1,rgE 7 2,rgE 7 4,rgE 7 6,rgE 7 8,rgE 7 10,rgE 7 11,zG,clash,go_sem,zA,zB,↓reduceIte,reduceCtorEq];refine h.use ?_;simp only[yw,clash,go_sem,zB,↓reduceIte,reduceCtorEq];exact Sim.refl _
theorem ycmm:Returns zC 7 [.i .i64 5] (.a (.string Nqt)):=by
 refine Returns.of ((okG 7) _ _ ?_);have h:=ybwq;simp only[cdE 7,rgE 7 0,rgE 7 1,rgE 7 2,rgE 7 4,rgE 7 6,rgE 7 8,rgE 7 10,rgE 7 12,rgE 7 13,zG,clash,go_sem,zA,zB,↓reduceIte,reduceCtorEq];refine h.use ?_;simp only[yw,clash,go_sem,zB,↓reduceIte,reduceCtorEq];exact Sim.refl _
theorem ycoq:Returns zC 7 [.i .i64 8] (.a (.string Iqt)):=by
 refine Returns.of ((okG 7) _ _ ?_);have h:=yxo;simp only[cdE 7,rgE 7 0,rgE 7 1,rgE 7 2,rgE 7 4,rgE 7 6,rgE 7 8,rgE 7 10,rgE 7 12,rgE 7 14,rgE 7 16,rgE 7 18,rgE 7 19,zG,clash,go_sem,zA,zB,↓reduceIte,reduceCtorEq];refine h.use ?_;simp only[yw,clash,go_sem,zB,↓reduceIte,reduceCtorEq];exact Sim.refl _
theorem ybzx:Returns zC 7 [.i .i64 10] (.a (.string Uqt)):=by
 refine Returns.of ((okG 7) _ _ ?_);have h:=ybog;simp only[cdE 7,rgE 7 0,rgE 7 1,rgE 7 2,rgE 7 4,rgE 7 6,rgE 7 8,rgE 7 10,rgE 7 12,rgE 7 14,rgE 7 16,rgE 7 18,rgE 7 20,rgE 7 22,rgE 7 23,zG,clash,go_sem,zA,zB,↓reduceIte,reduceCtorEq];refine h.use ?_;simp only[yw,clash,go_sem,zB,↓reduceIte,reduceCtorEq];exact Sim.refl _
theorem ycdr:Returns zC 7 [.i .i64 11] (.a (.string Vqt)):=by
 refine Returns.of ((okG 7) _ _ ?_);have h:=ycoo;simp only[cdE 7,rgE 7 0,rgE 7 1,rgE 7 2,rgE 7 4,rgE 7 6,rgE 7 8,rgE 7 10,rgE 7 12,rgE 7 14,rgE 7 16,rgE 7 18,rgE 7 20,rgE 7 22,rgE 7 24,rgE 7 25,zG,clash,go_sem,zA,zB,↓reduceIte,reduceCtorEq];refine h.use ?_;simp only[yw,clash,go_sem,zB,↓reduceIte,reduceCtorEq];exact Sim.refl _
theorem ybyd:Returns zC 7 [.i .i64 12] (.a (.string Xqt)):=by
 refine Returns.of ((okG 7) _ _ ?_);have h:=ybyt;simp only[cdE 7,rgE 7 0,rgE 7 1,rgE 7 2,rgE 7 4,rgE 7 6,rgE 7 8,rgE 7 10,rgE 7 12,rgE 7 14,rgE 7 16,rgE 7 18,rgE 7 20,rgE 7 22,rgE 7 24,rgE 7 26,rgE 7 27,zG,clash,go_sem,zA,zB,↓reduceIte,reduceCtorEq];refine h.use ?_;simp only[yw,clash,go_sem,zB,↓reduceIte,reduceCtorEq];exact Sim.refl _
theorem ybxi:Returns zC 7 [.i .i64 13] (.a (.string Yqt)):=by
 refine Returns.of ((okG 7) _ _ ?_);have h:=ybjw;simp only[cdE 7,rgE 7 0,rgE 7 1,rgE 7 2,rgE 7 4,rgE 7 6,rgE 7 8,rgE 7 10,rgE 7 12,rgE 7 14,rgE 7 16,rgE 7 18,rgE 7 20,rgE 7 22,rgE 7 24,rgE 7 26,rgE 7 28,rgE 7 29,zG,clash,go_sem,zA,zB,↓reduceIte,reduceCtorEq];refine h.use ?_;simp only[yw,clash,go_sem,zB,↓reduceIte,reduceCtorEq];exact Sim.refl _
theorem ycff:Returns zC 7 [.i .i64 14] (.a (.string Zqt)):=by
 refine Returns.of ((okG 7) _ _ ?_);have h:=ybzs;simp only[cdE 7,rgE 7 0,rgE 7 1,rgE 7 2,rgE 7 4,rgE 7 6,rgE 7 8,rgE 7 10,rgE 7 12,rgE 7 14,rgE 7 16,rgE 7 18,rgE 7 20,rgE 7 22,rgE 7 24,rgE 7 26,rgE 7 28,rgE 7 30,zG,clash,go_sem,zA,zB,↓reduceIte,reduceCtorEq];refine h.use ?_;simp only[yw,clash,go_sem,zB,↓reduceIte,reduceCtorEq];exact Sim.refl _
theorem ycey{g:Gr}(a:GrI g)(hit:yck g=true):∃F S R M,Returns zC 8 [.i .i64 5,grV g] (.ag (ydq 2 F S R M)):=by
 have h:=ybnx a hit;refine⟨false,true,ybeh g/2+2,-1,Returns.of ((okG 8) _ _ ?_)⟩;simp only[grV,ydq]at h;simp only[cdE 8,rgE 8 0,rgE 8 1,rgE 8 2,rgE 8 4,rgE 8 6,rgE 8 8,rgE 8 10,rgE 8 12,rgE 8 13,grV,zG,clash,go_sem,zA,zB,zD,↓reduceIte,reduceCtorEq];refine h.use ?_;simp only[yw,clash,go_sem,zA,zB,↓reduceIte];exact Sim.refl _
theorem ybvi{g:Gr}(a:GrI g)(b:ybe g):∃F S R M,Returns zC 8 [.i .i64 10,grV g] (.ag (ydq 2 F S R M)):=by
 obtain⟨F,S,R,M,h⟩:=ybcw a b;refine⟨F,S,R,M,Returns.of ((okG 8) _ _ ?_)⟩;simp only[grV,ydq]at h;simp only[cdE 8,rgE 8 0,rgE 8 1,rgE 8 2,rgE 8 4,rgE 8 6,rgE 8 8,rgE 8 10,rgE 8 12,rgE 8 14,rgE 8 16,rgE 8 18,rgE 8 20,rgE 8 22,rgE 8 23,grV,zG,clash,go_sem,zA,zB,zD,↓reduceIte,reduceCtorEq];refine h.use ?_;simp only[yw,clash,go_sem,zA,zB,↓reduceIte];exact Sim.refl _
theorem ybtp{g:Gr}(a:GrI g)(b:ycj g=true):∃F S R M,Returns zC 8 [.i .i64 11,grV g] (.ag (ydq 3 F S R M)):=by
 obtain⟨F,S,R,M,h⟩:=ybtk a b;refine⟨F,S,R,M,Returns.of ((okG 8) _ _ ?_)⟩;simp only[grV,ydq]at h;simp only[cdE 8,rgE 8 0,rgE 8 1,rgE 8 2,rgE 8 4,rgE 8 6,rgE 8 8,rgE 8 10,rgE 8 12,rgE 8 14,rgE 8 16,rgE 8 18,rgE 8 20,rgE 8 22,rgE 8 24,rgE 8 25,grV,zG,clash,go_sem,zA,zB,zD,↓reduceIte,reduceCtorEq];refine h.use ?_;simp only[yw,clash,go_sem,zA,zB,↓reduceIte];exact Sim.refl _
theorem ybvj{g:Gr}(a:GrI g)(b:ycj g=true):∃F S R M,Returns zC 8 [.i .i64 12,grV g] (.ag (ydq 3 F S R M)):=by
 obtain⟨F,S,R,M,h⟩:=ybnv a b;refine⟨F,S,R,M,Returns.of ((okG 8) _ _ ?_)⟩;simp only[grV,ydq]at h;simp only[cdE 8,rgE 8 0,rgE 8 1,rgE 8 2,rgE 8 4,rgE 8 6,rgE 8 8,rgE 8 10,rgE 8 12,rgE 8 14,rgE 8 16,rgE 8 18,rgE 8 20,rgE 8 22,rgE 8 24,rgE 8 26,rgE 8 27,grV,zG,clash,go_sem,zA,zB,zD,↓reduceIte,reduceCtorEq];refine h.use ?_;simp only[yw,clash,go_sem,zA,zB,↓reduceIte];exact Sim.refl _
theorem ybso{g:Gr}(a:GrI g)(b:ycj g=true):∃F S R M,Returns zC 8 [.i .i64 13,grV g] (.ag (ydq 3 F S R M)):=by
 obtain⟨F,S,R,M,h⟩:=yzh a b;refine⟨F,S,R,M,Returns.of ((okG 8) _ _ ?_)⟩;simp only[grV,ydq]at h;simp only[cdE 8,rgE 8 0,rgE 8 1,rgE 8 2,rgE 8 4,rgE 8 6,rgE 8 8,rgE 8 10,rgE 8 12,rgE 8 14,rgE 8 16,rgE 8 18,rgE 8 20,rgE 8 22,rgE 8 24,rgE 8 26,rgE 8 28,rgE 8 29,grV,zG,clash,go_sem,zA,zB,zD,↓reduceIte,reduceCtorEq];refine h.use ?_;simp only[yw,clash,go_sem,zA,zB,↓reduceIte];exact Sim.refl _
theorem ybvc{g:Gr}(a:GrI g)(b:ycj g=true):∃F S R M,Returns zC 8 [.i .i64 14,grV g] (.ag (ydq 3 F S R M)):=by
 obtain⟨F,S,R,M,h⟩:=ybld a b;refine⟨F,S,R,M,Returns.of ((okG 8) _ _ ?_)⟩;simp only[grV,ydq]at h;simp only[cdE 8,rgE 8 0,rgE 8 1,rgE 8 2,rgE 8 4,rgE 8 6,rgE 8 8,rgE 8 10,rgE 8 12,rgE 8 14,rgE 8 16,rgE 8 18,rgE 8 20,rgE 8 22,rgE 8 24,rgE 8 26,rgE 8 28,rgE 8 30,grV,zG,clash,go_sem,zA,zB,zD,↓reduceIte,reduceCtorEq];refine h.use ?_;simp only[yw,clash,go_sem,zA,zB,↓reduceIte];exact Sim.refl _
theorem ydce:Returns zC 67 [] (ybx UqP.vars) :=
 ymm (fp:=yccu) (B:=yccu.post) (yc.at_ ypg 0 rfl) ⟨rfl,rfl,rfl,by kernel_rfl,fun _ h=>h,by kernel_rfl⟩
theorem ybxd:Returns zC 10 [.i .i64 10] (ybx UqP.vars):=by
 refine Returns.of ((okG 10) _ _ ?_);have h:=ydce;simp only[ybx]at h;simp only[cdE 10,rgE 10 0,rgE 10 1,rgE 10 2,rgE 10 4,rgE 10 6,rgE 10 8,rgE 10 10,rgE 10 12,rgE 10 14,rgE 10 16,rgE 10 18,rgE 10 20,rgE 10 22,rgE 10 23,zG,clash,ybx,go_sem,zA,zB,↓reduceIte,reduceCtorEq];refine h.use ?_;simp only[yw,clash,go_sem,zB,↓reduceIte,reduceCtorEq];exact Sim.refl _
theorem ydfv:Returns zC 68 [] (ybx VqP.vars) :=
 ymm (fp:=ybyo) (B:=ybyo.post) (yc.at_ ypg 1 rfl) ⟨rfl,rfl,rfl,by kernel_rfl,fun _ h=>h,by kernel_rfl⟩
theorem ycjh:Returns zC 10 [.i .i64 11] (ybx VqP.vars):=by
 refine Returns.of ((okG 10) _ _ ?_);have h:=ydfv;simp only[ybx]at h;simp only[cdE 10,rgE 10 0,rgE 10 1,rgE 10 2,rgE 10 4,rgE 10 6,rgE 10 8,rgE 10 10,rgE 10 12,rgE 10 14,rgE 10 16,rgE 10 18,rgE 10 20,rgE 10 22,rgE 10 24,rgE 10 25,zG,clash,ybx,go_sem,zA,zB,↓reduceIte,reduceCtorEq];refine h.use ?_;simp only[yw,clash,go_sem,zB,↓reduceIte,reduceCtorEq];exact Sim.refl _
theorem ydca:Returns zC 69 [] (ybx XqP.vars) :=
 ymm (fp:=ychi) (B:=ychi.post) (yc.at_ ypg 2 rfl) ⟨rfl,rfl,rfl,by kernel_rfl,fun _ h=>h,by kernel_rfl⟩
theorem ycji:Returns zC 10 [.i .i64 12] (ybx XqP.vars):=by
 refine Returns.of ((okG 10) _ _ ?_);have h:=ydca;simp only[ybx]at h;simp only[cdE 10,rgE 10 0,rgE 10 1,rgE 10 2,rgE 10 4,rgE 10 6,rgE 10 8,rgE 10 10,rgE 10 12,rgE 10 14,rgE 10 16,rgE 10 18,rgE 10 20,rgE 10 22,rgE 10 24,rgE 10 26,rgE 10 27,zG,clash,ybx,go_sem,zA,zB,↓reduceIte,reduceCtorEq];refine h.use ?_;simp only[yw,clash,go_sem,zB,↓reduceIte,reduceCtorEq];exact Sim.refl _
theorem yddy:Returns zC 70 [] (ybx YqP.vars) :=
 ymm (fp:=ybwa) (B:=ybwa.post) (yc.at_ ypg 3 rfl) ⟨rfl,rfl,rfl,by kernel_rfl,fun _ h=>h,by kernel_rfl⟩
theorem ybyx:Returns zC 10 [.i .i64 13] (ybx YqP.vars):=by
 refine Returns.of ((okG 10) _ _ ?_);have h:=yddy;simp only[ybx]at h;simp only[cdE 10,rgE 10 0,rgE 10 1,rgE 10 2,rgE 10 4,rgE 10 6,rgE 10 8,rgE 10 10,rgE 10 12,rgE 10 14,rgE 10 16,rgE 10 18,rgE 10 20,rgE 10 22,rgE 10 24,rgE 10 26,rgE 10 28,rgE 10 29,zG,clash,ybx,go_sem,zA,zB,↓reduceIte,reduceCtorEq];refine h.use ?_;simp only[yw,clash,go_sem,zB,↓reduceIte,reduceCtorEq];exact Sim.refl _
theorem ydic:Returns zC 71 [] (ybx ZqP.vars) :=
 ymm (fp:=yciw) (B:=yciw.post) (yc.at_ ypg 4 rfl) ⟨rfl,rfl,rfl,by kernel_rfl,fun _ h=>h,by kernel_rfl⟩
theorem ycbk:Returns zC 10 [.i .i64 14] (ybx ZqP.vars):=by
 refine Returns.of ((okG 10) _ _ ?_);have h:=ydic;simp only[ybx]at h;simp only[cdE 10,rgE 10 0,rgE 10 1,rgE 10 2,rgE 10 4,rgE 10 6,rgE 10 8,rgE 10 10,rgE 10 12,rgE 10 14,rgE 10 16,rgE 10 18,rgE 10 20,rgE 10 22,rgE 10 24,rgE 10 26,rgE 10 28,rgE 10 30,zG,clash,ybx,go_sem,zA,zB,↓reduceIte,reduceCtorEq];refine h.use ?_;simp only[yw,clash,go_sem,zB,↓reduceIte,reduceCtorEq];exact Sim.refl _
theorem ycnj:Returns zC 10 [.i .i64 5] (ybx NqP.vars):=by
 refine Returns.of ((okG 10) _ _ ?_);have h:=ybrn;simp only[ybx]at h;simp only[cdE 10,rgE 10 0,rgE 10 1,rgE 10 2,rgE 10 4,rgE 10 6,rgE 10 8,rgE 10 10,rgE 10 12,rgE 10 13,zG,clash,ybx,go_sem,zA,zB,↓reduceIte,reduceCtorEq];refine h.use ?_;simp only[yw,clash,go_sem,zB,↓reduceIte,reduceCtorEq];exact Sim.refl _
end Sh
end
section
namespace Sh
open Ev Go.RowKit
theorem ykr{k:Int}(hk:k=11\/k=12\/k=13\/k=14){x:NetR}(n:x.ok):Ct zC 5 [.i .i64 k,.ag (netC x)] fun r=>∃g,(ybe g/\ycj g=true/\g.ports.length<=6)/\Sim r (grV g):=by
 refine(okG 5) _ _ ?_;have b:=yqo n (most:=6) (by omega)
 simp only[netC]at b
 have e:(k==4)=false/\(k==5)=false/\(k==6)=false/\(k==7)=false/\(k==8)=false/\(k==9)=false/\(k==10)=false:=by
  rcases hk with rfl|rfl|rfl|rfl<;>decide
 obtain⟨c,d,f,j,l,m,a⟩:=e;simp only[cdE 5,rgE 5 0,rgE 5 1,rgE 5 2,rgE 5 3,rgE 5 5,rgE 5 7,rgE 5 8,rgE 5 9,rgE 5 10,rgE 5 12,netC,c,d,f,j,l,m,a,clash,go_sem,zA,zB,zD,↓reduceIte,reduceCtorEq];refine b.found (V:=grV) (fun r g h=>h.2.2.2) fun r g h=>?_;simp only[yw,splice,clash,grV,go_sem,zA,zB,↓reduceIte];exact⟨g,⟨h.1,h.2.1,h.2.2.1⟩,Sim.refl _⟩
theorem ybjs{x:NetR}(b:x.ok):Ct zC 5 [.i .i64 5,.ag (netC x)] fun r=>∃g,(Tr g/\yck g=true/\g.ports.length<=7)/\Sim r (grV g):=by
 refine(okG 5) _ _ ?_;have a:=ycrr b (most:=7) (by omega)
 simp only[netC]at a;simp only[cdE 5,rgE 5 0,rgE 5 1,rgE 5 2,rgE 5 3,rgE 5 4,netC,zG,clash,go_sem,zA,zB,zD,↓reduceIte,reduceCtorEq];refine a.found (V:=grV) (fun r g h=>h.2.2.2) fun r g h=>?_;simp only[yw,splice,clash,grV,go_sem,zA,zB,↓reduceIte];exact⟨g,⟨h.1,h.2.1,h.2.2.1⟩,Sim.refl _⟩
theorem ybnc{x:NetR}(b:x.ok):Ct zC 5 [.i .i64 10,.ag (netC x)] fun r=>∃g,(ybe g/\g.ports.length<=7)/\Sim r (grV g):=by
 refine(okG 5) _ _ ?_;have a:=yczb b (most:=7) (by omega)
 simp only[netC]at a;simp only[cdE 5,rgE 5 0,rgE 5 1,rgE 5 2,rgE 5 3,rgE 5 5,rgE 5 7,rgE 5 8,rgE 5 9,rgE 5 10,rgE 5 11,netC,zG,clash,go_sem,zA,zB,zD,↓reduceIte,reduceCtorEq];refine a.found (V:=grV) (fun r g h=>h.2.2) fun r g h=>?_;simp only[yw,splice,clash,grV,go_sem,zA,zB,↓reduceIte];exact⟨g,⟨h.1,h.2.1⟩,Sim.refl _⟩
end Sh
end
section
namespace Sh
open Ev Go.RowKit
theorem ycfu{g:Gr}(d:ybe g){c:Conf}(e:ycb IqP g c=true)(a:yh IqP g c=0):Returns zC 19 [.i .i64 8,grV g,ybf c] (.b true):=by
 refine Returns.of ((okG 19) _ _ ?_);have h:=ybuz d e a;simp only[grV]at h;simp only[cdE 19,rgE 19 0,rgE 19 1,rgE 19 2,rgE 19 4,rgE 19 6,rgE 19 8,rgE 19 10,rgE 19 12,rgE 19 14,rgE 19 16,rgE 19 18,rgE 19 19,grV,zG,clash,go_sem,zA,zB,zD,↓reduceIte,reduceCtorEq];refine h.use ?_;simp only[yw,clash,go_sem,zA,zB,↓reduceIte,reduceCtorEq];exact Sim.refl _
theorem ypy{g:Gr}(d:ybe g)(a:ycj g=true){c:Conf}(e:ycb BqP g c=true)(f:yh BqP g c=0):Returns zC 19 [.i .i64 0,grV g,ybf c] (.b true):=by
 refine Returns.of ((okG 19) _ _ ?_);have h:=ybaq d (yut (ydf d ybmt e)) (yve d a e);rw[(ybiq d a e).1 f]at h;simp only[grV]at h;simp only[cdE 19,rgE 19 0,rgE 19 1,rgE 19 2,rgE 19 3,grV,clash,go_sem,zA,zB,zD,↓reduceIte,reduceCtorEq];refine h.use ?_;simp only[yw,clash,go_sem,zA,zB,↓reduceIte,reduceCtorEq];exact Sim.refl _
theorem ycfl{g:Gr}(a:Tr g)(hit:yck g=true){c:Conf}(d:ycb CqP g c=true)(e:yh CqP g c=0):Returns zC 19 [.i .i64 4,grV g,ybf c] (.b true):=by
 refine Returns.of ((okG 19) _ _ ?_);have h:=ybux (yro a.good) (yut (ydf a.good ydfn d)) (fun _=>a);rw[(yyy a hit d).1 e]at h;simp only[grV]at h;simp only[cdE 19,rgE 19 0,rgE 19 1,rgE 19 2,rgE 19 4,rgE 19 6,rgE 19 8,rgE 19 10,rgE 19 11,grV,zG,clash,go_sem,zA,zB,zD,↓reduceIte,reduceCtorEq];refine h.use ?_;simp only[yw,clash,go_sem,zA,zB,↓reduceIte,reduceCtorEq];exact Sim.refl _
end Sh
end
section
theorem ycww{a b c d:ByteArray}(g:Gr):Sh.yhj (ytf a b c d) g=true:=by simp[Sh.yhj,ytf,ybj]
theorem ycvy{a b c d e f:ByteArray}(g:Gr):Sh.yhj (ycai a b c d e f) g=true:=by simp[Sh.yhj,ycai,ybj]
section
variable {n1 d p t l x1 x2 x3 x4 x5 x6 x7 x8:ByteArray}{g:Gr}
theorem ycxo(a:ybe g):Sh.yhj (ycfm n1 d p x1 x2 t l x3 x4 x5) g=true:=by
 have b:=a.1;have c:=a.2.1;have e:=a.2.2.1;simp[Sh.yhj,ycfm,ybbl,ybj];omega
theorem yczz(a:ybe g):Sh.yhj (ycbs n1 d p x1 t l x2 x3) g=true:=by
 have b:=a.1;have c:=a.2.1;have e:=a.2.2.1;simp[Sh.yhj,ycbs,ybbl,ybj];omega
theorem yczv(a:ybe g):Sh.yhj (ybzj n1 d p x1 x2 x3 x4 t l x5 x6 x7) g=true:=by
 have b:=a.1;have c:=a.2.1;have e:=a.2.2.1;simp[Sh.yhj,ybzj,ybbl,ybj];omega
theorem ycyb(a:ybe g):Sh.yhj (ycfp n1 d p x1 x2 x3 x4 t l x5 x6 x7 x8) g=true:=by
 have b:=a.1;have c:=a.2.1;have e:=a.2.2.1;simp[Sh.yhj,ycfp,ybbl,ybj];omega
end
namespace Sh
open Ev Go.RowKit
def ycar(kind:Int)(g:Gr):Prop:=∃(res:Nat->Nat->Nat) (R:Nat->Prop),DaemonOk kind (g.ports.map netP) res/\(∀e w,e≠0->e<2^24->R (res e w))/\(∀s t,subB s t->R t->R s) /\
    ∀e s:Nat,e<2^24->e<2^g.ids.length->s≠0->subB s e->R s->Returns zC 213 [usV (g.ports.map netP),.i .i64 kind,.i .u32 e,.i .u32 s] (.b true)
theorem yuw(g:Gr):ycar 3 g:=⟨ybah,fun _=>True,ybyy _,fun _ _ _ _=>trivial,fun _ _ _ _=>trivial,fun e s a _ c b _=>yto _ a c (ygj b a) (yqp b)⟩
theorem ybqp{g:Gr}(b:ybe g):ycar 2 g:=by
 refine⟨resG g,yzb g,yczp b,fun e w f _=>(ybde b e w f).2.2,fun s t c o u v a r=>?_,fun e s k h f i m=>?_⟩
 .cases q:s.testBit v with
  |false=>rfl
  |true=>rw[<-o u v a (c u r)];exact(c v q).symm
 .refine ytk k f (ygj i k) (yqp i) (fun v j=>?_) (fun v=>?_) fun v j=>by rw[yxj];exact ybim b m j
  .refine zK fun q=>?_;have:=i v j;have n:=b.2.2.1;rw[zAU]at q;rw[zX (zS h (zU (by omega) (by omega)))]at this
   cases this
  .rw[yxj];exact zS (ycaa b v) (by omega)
def ydnj(g:Gr):Prop:=Tr g/\yck g=true/\g.ports.length<=7
def ConG(g:Gr):Prop:=ybe g/\ycj g=true/\g.ports.length<=6
def AnyG(g:Gr):Prop:=ybe g/\g.ports.length<=7
theorem ydes:Layer 5 4 1 2 NqP CqP (Lies NqB Nqv) (Lies NqC Nqr) (Lies CqB Cqv) (Lies CqC Cqr) Nqt Cqt ydnj where
 graph:=ybjs
 txt:=ycmm
 txtq:=ycll
 prog:=ybsq
 progq:=ybtc
 chk:=fun g h=>⟨h.1.good,ydll,ydaf h.1.good,ycmy⟩
 chkq:=fun g h=>⟨h.1.good,ydfn,ycba h.1.good,ycrh⟩
 claim:=fun g h=>ycey (yro h.1.good) h.2.1
 vars:=ycnj
 lowT:=ybmc rfl rfl rfl rfl
 lowB:=ycpr
 m:=⟨rfl,by decide,by decide⟩
 kd:=by decide
 daemon:=fun g h=>ybqp h.1.good
 legit:=fun g h c hv h0=>ycfl h.1 h.2.1 hv h0
theorem ycxl:Layer 10 8 1 2 UqP IqP (Lies UqB Uqv) (Lies UqC Uqr) (Lies IqB Iqv) (Lies IqC Iqr) Uqt Iqt AnyG where
 graph:=ybnc
 txt:=ybzx
 txtq:=ycoq
 prog:=ybtf
 progq:=ybsm
 chk:=fun g h=>⟨h.1,ydmm,ycvy g,yckx⟩
 chkq:=fun g h=>⟨h.1,ydjp,ycww g,ycpv⟩
 claim:=fun g h=>ybvi (yro h.1) h.1
 vars:=ybxd
 lowT:=ybmc rfl rfl rfl rfl
 lowB:=ycqn
 m:=⟨rfl,by decide,by decide⟩
 kd:=by decide
 daemon:=fun g h=>ybqp h.1
 legit:=fun g h c hv h0=>ycfu h.1 hv h0
theorem ycuz:Layer 11 0 2 3 VqP BqP (Lies VqB Vqv) (Lies VqC Vqr) (Lies BqB Bqv) (Lies BqC Bqr) Vqt Bqt ConG where
 graph:=ykr (k:=11) (by decide)
 txt:=ycdr
 txtq:=yux
 prog:=ybtj
 progq:=yke
 chk:=fun g h=>⟨h.1,ydnf,ycxo h.1,ycrx⟩
 chkq:=fun g h=>⟨h.1,ybmt,yni h.1,yqx⟩
 claim:=fun g h=>ybtp (yro h.1) h.2.1
 vars:=ycjh
 lowT:=ybch rfl
 lowB:=yckk
 m:=⟨rfl,by decide,by decide⟩
 kd:=by decide
 daemon:=fun g h=>yuw g
 legit:=fun g h c hv h0=>ypy h.1 h.2.1 hv h0
theorem ycxg:Layer 12 0 2 3 XqP BqP (Lies XqB Xqv) (Lies XqC Xqr) (Lies BqB Bqv) (Lies BqC Bqr) Xqt Bqt ConG where
 graph:=ykr (k:=12) (by decide)
 txt:=ybyd
 txtq:=yux
 prog:=ybry
 progq:=yke
 chk:=fun g h=>⟨h.1,ydnv,yczz h.1,ycss⟩
 chkq:=fun g h=>⟨h.1,ybmt,yni h.1,yqx⟩
 claim:=fun g h=>ybvj (yro h.1) h.2.1
 vars:=ycji
 lowT:=ybch rfl
 lowB:=ycpb
 m:=⟨rfl,by decide,by decide⟩
 kd:=by decide
 daemon:=fun g h=>yuw g
 legit:=fun g h c hv h0=>ypy h.1 h.2.1 hv h0
theorem yczx:Layer 13 0 2 3 YqP BqP (Lies YqB Yqv) (Lies YqC Yqr) (Lies BqB Bqv) (Lies BqC Bqr) Yqt Bqt ConG where
 graph:=ykr (k:=13) (by decide)
 txt:=ybxi
 txtq:=yux
 prog:=ybss
 progq:=yke
 chk:=fun g h=>⟨h.1,ydkn,yczv h.1,ycqo⟩
 chkq:=fun g h=>⟨h.1,ybmt,yni h.1,yqx⟩
 claim:=fun g h=>ybso (yro h.1) h.2.1
 vars:=ybyx
 lowT:=ybch rfl
 lowB:=ycmp
 m:=⟨rfl,by decide,by decide⟩
 kd:=by decide
 daemon:=fun g h=>yuw g
 legit:=fun g h c hv h0=>ypy h.1 h.2.1 hv h0
theorem ydaq:Layer 14 0 2 3 ZqP BqP (Lies ZqB Zqv) (Lies ZqC Zqr) (Lies BqB Bqv) (Lies BqC Bqr) Zqt Bqt ConG where
 graph:=ykr (k:=14) (by decide)
 txt:=ycff
 txtq:=yux
 prog:=ybrr
 progq:=yke
 chk:=fun g h=>⟨h.1,ydnm,ycyb h.1,ycla⟩
 chkq:=fun g h=>⟨h.1,ybmt,yni h.1,yqx⟩
 claim:=fun g h=>ybvc (yro h.1) h.2.1
 vars:=ycbk
 lowT:=ybch rfl
 lowB:=ycpk
 m:=⟨rfl,by decide,by decide⟩
 kd:=by decide
 daemon:=fun g h=>yuw g
 legit:=fun g h c hv h0=>ypy h.1 h.2.1 hv h0
end Sh
end
section
theorem ybpb{t:Int}:∀{l:List (Int×Int)},(∀x∈l,x.1=t)->(l.map (·.1)).Nodup->l=[]\/∃w,l=[(t,w)]
 |[],_,_=>.inl rfl
 |[x],h,_=>.inr ⟨x.2,by rw[<-h x zL]⟩
 | x::y::r,h,c=>by
   have a:=h x zL;have b:=h y (zAJ _ zL);simp[a,b]at c
theorem ydhz{g:Gr}(z:ybe g)(hit:yck g=true)(r:g.ports.length=2)(m:∀y∈g.ids,y<2) :
 ∃w i,g=⟨[0,1],[[(1,w)],[(0,i)]]⟩\/g=⟨[1,0],[[(1,w)],[(0,i)]]⟩:=by
 obtain⟨_,_,j,hid,k,f,-⟩:=z;obtain⟨h,c⟩:=g
 obtain⟨p,q,rfl⟩:∃p q,c=[p,q]:=by
  match c,r with
  |[p,q],_=>exact⟨p,q,rfl⟩
 obtain⟨a,b,rfl⟩:∃a b,h=[a,b]:=by
  match h,j with
  |[a,b],_=>exact⟨a,b,rfl⟩
 have n:=f ⟨0,by simp⟩
 have o:=f ⟨1,by simp⟩
 have F:=hid a (by simp)
 have G:=hid b (by simp)
 have s:=m a (by simp)
 have v:=m b (by simp)
 have u:a≠b:=by simpa using k
 obtain⟨B,D⟩:=n;obtain⟨C,E⟩:=o;have d:=ybpb (t:=1) (fun x l=>by have:=B x l;unfold ymo at this;simp at this;omega) D
 have e:=ybpb (t:=0) (fun x l=>by have:=C x l;unfold ymo at this;simp at this;omega) E
 unfold yck yhq at hit;rw[zQ,decide_eq_true_eq]at hit;have A:=hit.2;rcases d with d|⟨w,d⟩<;>rcases e with e|⟨i,e⟩<;>simp at d e<;>subst d<;>subst e<;>simp at A
 refine⟨w,i,?_⟩;have:(a=0/\b=1)\/(a=1/\b=0):=by omega
 rcases this with⟨rfl,rfl⟩|⟨rfl,rfl⟩
 .exact .inl rfl
 .exact .inr rfl
namespace Sh
open Ev Go.RowKit
theorem yczj{r:Nat}(a:r≠0)(h:r<4):lowB r&&&(lowB r-1)=0:=by
 have:r=1\/r=2\/r=3:=by omega
 rcases this with rfl|rfl|rfl<;>rfl
theorem ybgm(net:SV){e s:Nat}(l:e<2^24)(k:s≠0)(m:s<2^24)(c:difB s e=0)(h:s&&&(s-1)=0):Returns zC 213 [net,.i .i64 1,.i .u32 e,.i .u32 s] (.b true):=by
 refine Returns.of ((okG 213) _ _ ?_);have j:((s:Int)==0)=false:=by simp;omega
 have d:=u32_andNot (a:=s) (b:=e) (by omega) (by omega)
 rw[c]at d;have g:(s:Int)-1=((s-1:Nat):Int):=by omega
 have f:=u32_and (a:=s) (b:=s-1) (by omega) (by omega)
 rw[h]at f;simp only[zZ,IntKind.bits]at d f;simp only[cdE 213,rgE 213 0,rgE 213 1,j,d,zAY,go_sem,zA,zB,↓reduceIte,reduceCtorEq];simp only[rgE 213 3,rgE 213 4,rgE 213 5,g,f,ygd,go_sem,zA,zB,↓reduceIte,reduceCtorEq];exact⟨by show(0:Int)<=_;omega,by show _<=(4294967295:Int);omega⟩
theorem ybiv(net:SV)(v:net.cells.all one1=true){e w:Nat}(l:e<2^24)(s:e≠0)(y:w<2^32):Returns zC 139 [net,.i .i64 1,.i .u32 e,.i .u32 w] (.i .u32 (resC e w)):=by
 refine Returns.of ((okG 139) _ _ ?_);have g:=u32_and (a:=w) (b:=e) (by omega) (by omega)
 have p:=u32_neg (a:=e) (by omega) (by omega)
 have h:=u32_and (a:=e) (b:=2^32-e) (by omega) (by omega)
 obtain⟨t,o⟩:=yoo e w s l;obtain⟨r,f⟩:∃r,resD e w=r:=⟨_,rfl⟩;rw[f]at t o;have x:=ygj o l;have n:=u32_neg (a:=r) (by omega) (by omega)
 have j:=u32_and (a:=r) (b:=2^32-r) (by omega) (by omega)
 have k:resC e w=r&&&(2^32-r):=by unfold resC;rw[f];rfl
 rw[k];obtain⟨W,d⟩:∃W,w&&&e=W:=⟨_,rfl⟩;rw[d]at g;simp only[IntKind.bits]at g h j;simp only[cdE 139,rgE 139 0,rgE 139 1,rgE 139 2,g,v,go_sem,zA,zB,zD,↓reduceIte,reduceCtorEq];have u:W<2^24:=by rw[<-d,Nat.and_comm];exact ybxk l
 refine⟨fun q=>?_,fun q=>?_⟩
 .have m:W=0:=by omega
  have c:resD e w=e&&&(2^32-e):=by unfold resD;rw[if_pos (by rw[d];exact m)];rfl
  rw[f]at c;rw[<-c]at h;simp only[rgE 139 3,rgE 139 4,rgE 139 5,rgE 139 6,IntKind.signed,p,h,n,j,go_sem,zA,zB,↓reduceIte,reduceCtorEq];exact Sim.refl _
 .have m:¬W=0:=by omega
  have c:resD e w=W:=by unfold resD;rw[if_neg (by rw[d];exact m),d]
  rw[f]at c;subst c;simp only[rgE 139 4,rgE 139 5,rgE 139 6,IntKind.signed,n,j,go_sem,zA,zB,↓reduceIte,reduceCtorEq];exact Sim.refl _
theorem ycle(a b:Nat):DaemonOk 1 [a,b] resC where
 resolve:=fun e w he _ h0 hw=>ybiv (usV [a,b]) (by simp[usV,ybdg,ybmo]) he h0 hw
 permits:=fun e w he hn h0 hw=>by
  obtain⟨h1,h2⟩:=yoo e w h0 he;have h3:=ygj h2 he;have h4:=ygj h2 hn;have hl:subB (lowB (resD e w)) e:=fun i h=>h2 i (yur _ i h);exact ybgm (usV [a,b]) he (ybmp h1 (by omega)) (ygj hl he) (yqp hl) (yczj h1 h4)
 zero:=fun w hw=>⟨0,by
  refine Returns.of ((okG 139) _ _ ?_);have a0:=u32_and (a:=w) (b:=0) (by omega) (by omega)
  rw[zBB]at a0;have a1:IntKind.wrap .u32 (0-0)=0:=by decide
  have a2:=u32_and (a:=0) (b:=0) (by omega) (by omega)
  rw[zBB]at a2;simp only[zZ,IntKind.bits]at a0 a2;simp only[usV,cdE 139,rgE 139 0,rgE 139 1,rgE 139 2,rgE 139 3,rgE 139 4,rgE 139 5,rgE 139 6,IntKind.signed,a0,a1,a2,ycc,go_sem,zA,zB,zD,↓reduceIte,reduceCtorEq];rfl⟩
 sub:=fun e w h0 he=>by
  obtain⟨h1,h2⟩:=yoo e w h0 he;exact⟨ybmp h1 (by have:=ygj h2 he;omega),fun i h=>h2 i (yur _ i h)⟩
structure Two(g:Gr)(c:Conf):Prop where
 conf:ycb BqP g [[2,0],[0,-1]]=true
 en0:(yh BqP g [[2,0],[0,-1]]==0)=false
 st1:((stAt (ybq BqP g) resC [1,2,3] [[2,0],[0,-1]] (yeo (yh BqP g [[2,0],[0,-1]])) 1).1==[[0,-1],[0,-1]])=true
 en1:(yh BqP g [[0,-1],[0,-1]]==0)=false
 st2:((stAt (ybq BqP g) resC [1,2,3] [[2,0],[0,-1]] (yeo (yh BqP g [[2,0],[0,-1]])) 2).1==c)=true
 en2:yh BqP g c=0
 conf2:ycb BqP g c=true
 ecc:ybu (ybr g 0)=1
theorem ycgp(w a:Int):Two ⟨[0,1],[[(1,w)],[(0,a)]]⟩ [[0,-1],[1,0]]/\Two ⟨[1,0],[[(1,w)],[(0,a)]]⟩ [[0,-1],[1,0]] :=
 ⟨⟨by kernel_rfl,by kernel_rfl,by kernel_rfl,by kernel_rfl,by kernel_rfl,by kernel_rfl,by kernel_rfl,by kernel_rfl⟩,⟨by kernel_rfl,by kernel_rfl,by kernel_rfl,by kernel_rfl,by kernel_rfl,by kernel_rfl,by kernel_rfl,by kernel_rfl⟩⟩
theorem yjq:Returns zC 20 [] (.b true):=by
 refine Returns.of ((okGU 20) [1000000000,1000000001] _ _ ?_);have H:NetR.ok ⟨2,[],[],[],false,false⟩:=⟨ikw (by decide) (by decide),fun k=>by simp;exact ikw (by decide) (by decide),fun k=>by simp;exact ikw (by decide) (by decide),fun k=>by simp;exact ikw (by decide) (by decide)⟩
 have C:=ybha H (most:=2) (by omega)
 have A:=ybfh;have t:=yke;simp only[netC,yj,zAF]at C;simp only[ybs]at t;simp only[cdE 20,rgE 20 0,rgE 20 1,splice,go_sem,zB,zF,zJ,↓reduceIte];refine(Ct.simL C (show SimL [.ag [.i .i64 2,.a (.slice none 0 0),.a (.slice none 0 0),.a (.slice none 0 0),.b false,.b false],.i .i64 2] _ from⟨yie (a:=[.i .i64 2,.a (.slice none 0 0),.a (.slice none 0 0),.a (.slice none 0 0),.b false,.b false]) (b:=[.i .i64 2,yj [],yj [],yj [],.b false,.b false]) ⟨Sim.refl _,yvf,yvf,yvf,Sim.refl _,Sim.refl _,trivial⟩,Sim.refl _,trivial⟩)).found (V:=grV) (fun r g h=>h.2.2.2) fun r g h=>?_
 obtain⟨f,hit,⟨F,u,l⟩,-⟩:=h
 have u:g.ports.length=2:=by
  have e:ycf (IntKind.wrap .i64 (2-1)) 2=1:=by decide
  have u:(g.ports.length:Int)=1+ycf (IntKind.wrap .i64 (2-1)) 2:=u;omega
 have p:=f.good;have G:=p.2.2.1
 have l:∀y∈g.ids,y<2:=fun y I=>by
  have:=l rfl y I;omega
 obtain⟨w,D,B⟩:=ydhz p hit u l
 have d:Two g [[0,-1],[1,0]]:=by
  rcases B with rfl|rfl
  .exact(ycgp w D).1
  .exact(ycgp w D).2
 have m:∃a b,g.ports.map netP=[a,b]:=by
  rcases B with rfl|rfl
  .exact⟨_,_,rfl⟩
  .exact⟨_,_,rfl⟩
 clear B
 obtain⟨a,b,m⟩:=m;have x:Checked (Lies BqB Bqv) (Lies BqC Bqr) BqP g:=⟨p,ybmt,yni p,yqx⟩
 have s:=yzy x (kind:=1) (by decide) (by rw[m];exact ycle a b) d.conf (ws:=[1,2,3]) (fun k=>by
  rcases k with _|_|_|k<;>simp) (by decide) rfl (N:=2) (by decide) (fun j M=>by
   have:j=0\/j=1:=by omega
   rcases this with rfl|rfl
   .exact ne_of_beq_false d.en0
   .rw[eq_of_beq d.st1];exact ne_of_beq_false d.en1) (.inr (by rw[eq_of_beq d.st2];exact d.en2))
 rw[eq_of_beq d.st2]at s;have z:=ybaq p (yut (ydf p ybmt d.conf2)) (yve p f.conn d.conf2);rw[(ybiq p f.conn d.conf2).1 d.en2]at z;have v:=ybvs (yro p) f.conn
 have E:eccP g 0=1:=by
  unfold eccP;rw[if_pos ⟨f.conn,by decide,by omega⟩]
  exact d.ecc
 rw[E]at v;simp only[grV]at s z v;simp only[ybs,usV,yfe]at s
 generalize (mapR 2 fun i=>resC (yh BqP g _) _)=A1 at s
 generalize (mapR (2+1) fun i=>yh BqP g _)=A2 at s
 generalize (stAt (ybq BqP g) resC [1,2,3] _ _ 2).2=K at s
 simp only[ylo,splice,clash,grV,go_sem,zA,zB,zD,↓reduceIte];simp only[rgE 20 2,go_sem,zJ,↓reduceIte];refine A.use ?_;simp only[yw,ylo,splice,clash,go_sem,zA,zB,zF,zD,zJ,↓reduceIte,reduceCtorEq];refine t.use ?_;simp only[go_sem,↓reduceIte];have o:∀{q:Nat},q<2->q=0\/q=1:=fun {q} h=>by omega
 have n:∀{q:Nat},q<3->q=0\/q=1\/q=2:=fun {q} h=>by omega
 refine⟨by decide,fun q c=>by rcases o c with rfl|rfl<;>rfl,fun q c=>by rcases o c with rfl|rfl<;>rfl,fun q c=>by rcases o c with rfl|rfl<;>rfl,fun q c=>by rcases n c with rfl|rfl|rfl<;>rfl,s.useS ?_ ?_⟩
 .refine⟨Sim.refl _,Sim.refl _,Sim.refl _,yel fun q c=>?_,yel fun q c=>?_,trivial⟩
  .rcases o c with rfl|rfl<;>exact⟨⟨ygf fun q c=>by rcases o c with rfl|rfl<;>rfl,trivial⟩,rfl⟩
  .rcases n c with rfl|rfl|rfl<;>exact⟨⟨Sim.refl _,trivial⟩,rfl⟩
 simp only[cntV,go_sem,zA,zB,↓reduceIte];refine⟨by decide,by decide,?_⟩
 have J:(((2:Nat):Int)==2)=true:=rfl;have L:((1:Int)+1==2)=true:=rfl;simp only[rgE 20 3,clash,J,go_sem,zA,zB,zF,zJ,↓reduceIte,reduceCtorEq];refine z.use ?_;simp only[ylo,clash,go_sem,zA,zB,zJ,↓reduceIte,reduceCtorEq];refine v.use ?_;simp only[clash,ydq,L,go_sem,zA,zB,zF,↓reduceIte,reduceCtorEq];exact Sim.refl _
end Sh
end
section
namespace Sh
open Ev Go.RowKit
theorem ybbz{a:Int}(c:inK .i64 a){x:NetR}(f:x.ok){raw:List Int}(e:∀k,inK .i64 (raw.getD k 0)){l:List Nat}(d:∀k,l.getD k 0<2^32) :
 Returns zC 3 [.i .i64 a,.ag (netC x),yj raw,usV l] (.b true):=by
 obtain⟨g,o⟩:=ydx (v:=a) (m:=6) (by decide)
 obtain⟨j,h⟩:∃j:Nat,ycf a 6=j:=Int.eq_ofNat_of_zero_le g;have n:j=0\/j=1\/j=2\/j=3\/j=4\/j=5:=by omega
 rcases n with rfl|rfl|rfl|rfl|rfl|rfl
 .exact yid ydes c h (by decide) (by decide) rfl rfl rfl (.inl ⟨rfl,rfl⟩) f e d yjq
 .exact yid ycxl c h (by decide) (by decide) rfl rfl rfl (.inr (.inl ⟨rfl,rfl⟩)) f e d yjq
 .exact yid ycuz c h (by decide) (by decide) rfl rfl rfl (.inr (.inr ⟨by decide,by decide,rfl⟩)) f e d yjq
 .exact yid ycxg c h (by decide) (by decide) rfl rfl rfl (.inr (.inr ⟨by decide,by decide,rfl⟩)) f e d yjq
 .exact yid yczx c h (by decide) (by decide) rfl rfl rfl (.inr (.inr ⟨by decide,by decide,rfl⟩)) f e d yjq
 .exact yid ydaq c h (by decide) (by decide) rfl rfl rfl (.inr (.inr ⟨by decide,by decide,rfl⟩)) f e d yjq
end Sh
end
end Go.Proofs.YtlbonpgkofloeaaGreatDoor
