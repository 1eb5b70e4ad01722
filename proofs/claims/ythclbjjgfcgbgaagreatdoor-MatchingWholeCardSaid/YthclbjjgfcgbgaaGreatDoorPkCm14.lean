/- Joined. -/
import Derived.Test.YthclbjjgfcgbgaaGreatDoorPkCm13
import Derived.Test.YthclbjjgfcgbgaaGreatDoorPkCm9
set_option linter.unusedSimpArgs false
set_option linter.unusedVariables false
set_option maxRecDepth 8000
open Nat renaming reduceEqDiff->zA,reduceAdd->zB,reduceLT->zC,reduceLeDiff->zD,reduceBEq->zF,add_comm->zJ,zero_add->zM,ble_eq_true_of_le->zS,le_refl->zU,testBit_lt_two_pow->zV,not_lt_zero->zAA,pow_le_pow_right->zAB,lt_of_lt_of_le->zAC,eq_zero_or_pos->zAD,zero_le->zAG,reduceMul->zAI,sub_self->zAK,lt_succ_self->zAO,mul_comm->zAT,beq->zAW
open Bool renaming false_ne_true->zG,and_eq_true->zY,true_and->zAR
open Int renaming eq_ofNat_of_zero_le->zH,toNat_natCast->zT,natCast_zero->zX
open List renaming getElem_mem->zI,eq_nil_of_length_eq_zero->zK,length_append->zL,range->zN,any_eq_true->zQ,not_mem_nil->zW,getD->zZ,getD_eq_getElem?_getD->zAE,range_succ->zAF,length_singleton->zAH,getElem_of_mem->zAJ,filter_append->zAM,getElem_map->zAN,take->zAP,drop->zAQ,length->zAU
open Go.Proofs.Tryz renaming prog->zO
open And renaming intro->zAL
open Classical renaming byContradiction->zAS
open Iff renaming rfl->zAV
open Go
namespace Go.Proofs.YthclbjjgfcgbgaaGreatDoor
section
structure NetR where
 n:Int
 links:List Int
 weights:List Int
 ids:List Int
 apart:Bool
 back:Bool
def NetR.ok(x:NetR):Prop:=Sh.inK .i64 x.n/\(∀k,Sh.inK .i64 (x.links.getD k 0))/\(∀k,Sh.inK .i64 (x.weights.getD k 0))/\(∀k,Sh.inK .i64 (x.ids.getD k 0))
theorem ybge(a r:Nat)(hr:r<=256):((zN r).map fun i=>(((a+i)%256:Nat):Int)).Nodup:=by
 unfold List.Nodup;rw[List.pairwise_map];refine List.Pairwise.imp_of_mem (R:=(· < ·)) (fun {i j} hi hj h=>?_) List.pairwise_lt_range;have hi:=List.mem_range.1 hi;have hj:=List.mem_range.1 hj;intro e;omega
theorem ybmg{a r:Nat}{l:List Int}(hr:r<=256)(h:∀i,i<r->(((a+i)%256:Nat):Int)∈l):r<=l.length:=by
 have:=List.Nodup.length_le_of_subset (ybge a r hr) (l₂:=l) fun x hx=>by
  obtain⟨i,hi,rfl⟩:=List.mem_map.1 hx;exact h i (List.mem_range.1 hi)
 simpa using this
namespace Sh
open Ev Go.RowKit
def netC(x:NetR):List SV:=[.i .i64 x.n,ybc x.links,ybc x.weights,ybc x.ids,.b x.apart,.b x.back]
theorem wrap64_in(z:Int):inK .i64 (IntKind.wrap .i64 z):=by
 unfold inK;have e1:IntKind.i64.min = -9223372036854775808:=rfl;have e2:IntKind.i64.max=9223372036854775807:=rfl;have h1:=Int.emod_nonneg z (show(18446744073709551616:Int)≠0 by decide)
 have h2:=Int.emod_lt_of_pos z (show(0:Int)<18446744073709551616 by decide)
 rw[e1,e2]
 have e:IntKind.wrap .i64 z=if z%18446744073709551616>=9223372036854775808 then z%18446744073709551616-18446744073709551616 else z%18446744073709551616:=by
  show(if (true&&decide (z%18446744073709551616>=9223372036854775808))=true then z%18446744073709551616-18446744073709551616 else z%18446744073709551616)=_
  simp only[zAR,decide_eq_true_eq]
 rw[e];split<;>omega
theorem ycce{x:NetR}(hx:x.ok){most:Nat}(hm:1<=most/\most<=24) :
 Cm zO 47 [] [] [.ag (netC x),.i .i64 most] fun r o=>∃ids:List Int,(1<=ids.length/\ids.length<=most/\(ids.length:Int)=1+ydj (IntKind.wrap .i64 (x.n-1)) most)/\(∀y∈ids,0<=y/\y<=255)/\ids.Nodup/\r = .ag [.os (148,0) 0 ids.length true,.os (17,0) 0 ids.length true] /\
  o=[(17,.one (some ⟨135,false,1,ids.length,fun _=>[.a (.slice none 0 0)]⟩)),(148,.one (some ⟨3,false,1,ids.length,fun k=>[.i .i64 (ids.getD k 0)]⟩))]:=by
 refine ydjg [] [] _ _ _ ?_;obtain⟨hx1,hx2,hx3,hx4⟩:=hx;have hin:=ygg (v:=IntKind.wrap .i64 (x.n-1)) (m:=(most:Int)) (by omega)
 obtain⟨k,hk⟩:∃k:Nat,ydj (IntKind.wrap .i64 (x.n-1)) most=k:=zH hin.1;have hW:=ygf (IntKind.wrap .i64 (x.n-1)) most (by omega) (wrap64_in _)
 rw[hk]at hW hin;obtain⟨n,hn⟩:∃n:Nat,(1:Int)+(k:Int)=(n:Int):=⟨1+k,by omega⟩
 have hn1:1<=n/\n<=most/\(n:Int)=1+ydj (IntKind.wrap .i64 (x.n-1)) most:=by omega
 simp only[c47,ydst,ydqo,netC,go_sem,zA,zB,zD,zC,↓reduceIte,reduceCtorEq];refine hW.use ?_;simp only[ybh,ydyg,ydpi,hn,clash,go_sem,zA,zB,zC,↓reduceIte,reduceCtorEq];refine⟨ikw (by omega) (by omega),⟨by omega,by omega,by omega⟩,?_⟩
 refine ybf (σ:=List Int) (fun l=>⟨[(7,.i .i64 l.length),(5,.i .i64 n),(2,.pt (2,0) 0 0),(6,.pt (6,0) 0 0),(4,.pt (4,0) 0 0)],
  [(2,.one (some ⟨24,true,6,1,fun _=>netC x⟩)),(4,.one (some ⟨27,true,2,1,fun _=>[.a (.slice none 0 0),.a (.slice none 0 0)]⟩)),
   (6,.one (some ⟨27,true,2,1,fun _=>[.os (148,0) 0 l.length true,.os (17,0) 0 n true]⟩)),(17,.one (some ⟨135,false,1,n,fun _=>[.a (.slice none 0 0)]⟩)),
   (148,.one (some ⟨3,false,1,l.length,fun k=>[.i .i64 (l.getD k 0)]⟩))]⟩)
  (fun l=>l.length<=n/\(∀y∈l,0<=y/\y<=255)/\l.Nodup) (fun l=>n-l.length) [] ⟨zAG _,fun y hy=>(zW hy).elim,List.nodup_nil⟩ ?_ ?_
 .refine yh [] [148] [] ?_;simp only[netC,allQ,live,yc,zX,go_sem,zA,zC,zF,↓reduceIte,reduceCtorEq];exact fun i _=>⟨(148,0),rfl,rfl,rfl⟩
 .rintro l ⟨hl,hl2,hl3⟩;obtain⟨v,hv⟩:∃v,l.length=v:=⟨_,rfl⟩;rw[hv]at hl;have hA:=at_ret x.ids v;have hi2:=ygg (v:=atP x.ids v) (m:=256) (by omega)
  obtain⟨a,ha⟩:∃a:Nat,ydj (atP x.ids v) 256=a:=zH hi2.1;have hW2:=ygf (atP x.ids v) 256 (by omega) (hx4 v)
  rw[ha]at hW2 hi2;simp only[ydtj,ydor,ydyj,ycwh,netC,hv,splice,clash,go_sem,zA,zB,zD,↓reduceIte,reduceCtorEq];refine⟨fun hlt=>?_,fun hge=>?_⟩
  .refine hA.use ?_;simp only[ybh,clash,go_sem,zA,zB,↓reduceIte,reduceCtorEq];refine hW2.use ?_
   refine ybf (σ:=Nat×Nat) (fun q=>⟨[(9,.i .i64 q.2),(8,.i .i64 ((a+q.1)%256:Nat)),(7,.i .i64 v),(5,.i .i64 n),(2,.pt (2,0) 0 0),(6,.pt (6,0) 0 0),(4,.pt (4,0) 0 0)],
    [(2,.one (some ⟨24,true,6,1,fun _=>netC x⟩)),(4,.one (some ⟨27,true,2,1,fun _=>[.a (.slice none 0 0),.a (.slice none 0 0)]⟩)),
     (6,.one (some ⟨27,true,2,1,fun _=>[.os (148,0) 0 v true,.os (17,0) 0 n true]⟩)),(17,.one (some ⟨135,false,1,n,fun _=>[.a (.slice none 0 0)]⟩)),
     (148,.one (some ⟨3,false,1,v,fun k=>[.i .i64 (l.getD k 0)]⟩))]⟩)
    (fun q=>q.2<=v/\(∀i,i<q.1->(((a+i)%256:Nat):Int)∈l)/\q.1<=256/\∀j,j<q.2->l.getD j 0≠(((a+q.1)%256:Nat):Int)) (fun q=>(v-q.1)*(v+2)+(v-q.2)) (0,0) ⟨zAG _,fun i hi=>absurd hi (zAA i),by omega,fun j hj=>absurd hj (zAA j)⟩ ?_ ?_
   .refine yh [] [] [] ?_;simp only[netC,allQ,live,yc,yx,zX,go_sem,zA,zC,↓reduceIte,reduceCtorEq];rw[Nat.mod_eq_of_lt (by omega)]
   .rintro⟨r,u⟩ ⟨hu,hr,hr256,hno⟩;obtain⟨b,hb⟩:∃b,(a+r)%256=b:=⟨_,rfl⟩;have hb256:b<256:=by omega
    simp only[ydkv,ydxz,ycnl,ycso,ycwn,ydyu,netC,hb,splice,clash,go_sem,zA,zB,zD,zC,↓reduceIte,reduceCtorEq];have hu:u<=v:=hu;have hr:∀i,i<r->(((a+i)%256:Nat):Int)∈l:=hr;have hr256:r<=256:=hr256;have hno:∀j,j<u->l.getD j 0≠(b:Int):=fun j hj=>by rw[<-hb];exact hno j hj
    have hrv:r<=v:=by rw[<-hv];exact ybmg hr256 hr
    refine⟨fun hlt2=>⟨⟨by omega,by omega⟩,by omega,fun he=>⟨ikw (by omega) (by omega),by decide,ikw (by omega) (by omega),?_⟩,fun hne=>⟨ikw (by omega) (by omega),?_⟩⟩,fun hge2=>?_⟩
    .have hmem:(b:Int)∈l:=by
      rw[<-he,getD_at (show u<l.length by omega)]
      exact zI _
     have hr':∀i,i<r+1->(((a+i)%256:Nat):Int)∈l:=fun i hi=>by
      by_cases q:i=r
      .rw[q,hb];exact hmem
      .exact hr i (by omega)
     have hrv':r+1<=v:=by rw[<-hv];exact ybmg (by omega) hr'
     refine yj (r+1,0) ⟨zAG _,hr',by show r+1<=256;omega,fun j hj=>absurd hj (zAA j)⟩ ?_ ?_
     .show(v-(r+1))*(v+2)+(v-0)<(v-r)*(v+2)+(v-u);obtain⟨m,hm⟩:∃m,v-r=m+1:=⟨v-r-1,by omega⟩
      rw[show v-(r+1)=m by omega,hm,Nat.succ_mul]
      generalize m*(v+2)=z
      omega
     .refine yh [] [] [] ?_;simp only[allQ,live,yc,yx,zX,go_sem,zA,zC,↓reduceIte,reduceCtorEq];refine⟨by omega,?_⟩
      rw[Int.tmod_eq_emod_of_nonneg (by omega)]
      omega
    .refine yj (r,u+1) ⟨by show u+1<=v;omega,hr,hr256,fun j hj=>?_⟩ ?_ ?_
     .show l.getD j 0≠(((a+r)%256:Nat):Int);rw[hb]
      by_cases q:j=u
      .rw[q];exact hne
      .exact hno j (by have:j<u+1:=hj;omega)
     .show(v-r)*(v+2)+(v-(u+1))<(v-r)*(v+2)+(v-u)
      generalize (v-r)*(v+2)=z
      omega
     .refine yh [] [] [] ?_;simp only[hb,allQ,live,yc,yx,go_sem,zA,zC,↓reduceIte,reduceCtorEq];omega
    .obtain rfl:u=v:=by omega
     refine⟨⟨by omega,by omega⟩,ikw (by omega) (by omega),?_⟩
     have hno':(b:Int)∉l:=fun hm=>by
      obtain⟨j,hj,e⟩:=zAJ hm;exact hno j (by omega) (by rw[getD_at hj,e])
     refine yj (l++[(b:Int)]) ⟨by rw[zL,zAH];omega,fun y hy=>?_,?_⟩ (by rw[zL,zAH];omega) ?_
     .rcases List.mem_append.1 hy with hy|hy
      .exact hl2 y hy
      .rw[List.mem_singleton.1 hy];omega
     .rw[List.nodup_append];exact⟨hl3,by simp,fun y hy z hz=>by rw[List.mem_singleton.1 hz];exact fun e=>hno' (e▸hy)⟩
     refine yh [(148,fun i=>(48,i))] [] [] ?_;simp only[zL,hv,allQ,live,yc,yx,go_sem,zA,zC,↓reduceIte,reduceCtorEq];refine⟨by omega,fun i hi=>?_⟩
     rw[ydwt,hv]
     by_cases q:i<u
     .simp only[if_pos q];simp only[live,yc,go_sem,reduceCtorEq]
     .obtain rfl:i=u:=by omega
      simp only[if_neg q,zAK];simp only[live,yc,go_sem,↓reduceIte,reduceCtorEq]
  .obtain rfl:v=n:=by omega
   simp only[yga,go_sem];refine⟨.ag [.os (148,0) 0 v true,.os (17,0) 0 v true],[(17,.one (some ⟨135,false,1,v,fun _=>[.a (.slice none 0 0)]⟩)),(148,.one (some ⟨3,false,1,v,fun k=>[.i .i64 (l.getD k 0)]⟩))],?_,?_,l,by rw[hv];exact hn1,hl2,hl3,by rw[hv],by rw[hv]⟩
   .refine yh [] [] [] ?_;simp only[allQ,live,yc,go_sem,zA,zC,↓reduceIte,reduceCtorEq]
   .simp only[yby,ydn,allQ,live,go_sem,zA,↓reduceIte]
theorem ybnr{x:NetR}(hx:x.ok){most:Nat}(hm:1<=most/\most<=24) :
 Cm zO 47 [] [] [.ag (netC x),.i .i64 most] fun r o=>∃ids:List Int,(1<=ids.length/\ids.length<=most/\(ids.length:Int)=1+ydj (IntKind.wrap .i64 (x.n-1)) most)/\(∀y∈ids,0<=y/\y<=255)/\ids.Nodup/\r = .ag [ybc ids,.os (17,0) 0 ids.length true] /\
  o=[(17,.one (some ⟨135,false,1,ids.length,fun _=>[.a (.slice none 0 0)]⟩))] :=
 (ycce hx hm).weak fun r o' ⟨ids,h1,h2,h3,e1,e2⟩=>by
   subst e1 e2;obtain⟨v,hv⟩:∃v,ids.length=v:=⟨_,rfl⟩;refine⟨.ag [ybc ids,.os (17,0) 0 ids.length true],[(17,.one (some ⟨135,false,1,ids.length,fun _=>[.a (.slice none 0 0)]⟩))],?_,?_,ids,h1,h2,h3,rfl,rfl⟩
   .refine yh [] [] [(148,0)] ?_;simp only[ybc,hv,allQ,live,yc,go_sem,zA,zC,↓reduceIte,reduceCtorEq]
   .simp only[yby,ydn,allQ,live,go_sem,↓reduceIte]
end Sh
end
section
def yin(back:Bool)(g:Gr)(a b:Nat)(w:Int):Gr:=if a=b\/ymf (g.ports.getD a []) b=true then g else ycu back g a b w
namespace Sh
open Ev Go.RowKit
def rowO(l:List (Int×Int)):OB:=⟨68,false,2,l.length,fun k=>[.i .i64 (l.getD k (0,0)).1,.i .i64 (l.getD k (0,0)).2]⟩
def ycr(ports:List (List (Int×Int))):Own:=[(211,.one (some ⟨135,false,1,ports.length,fun v=>[.os (212,v) 0 (ports.getD v []).length true]⟩)),
 (212,.many fun v=>if v<ports.length then some (rowO (ports.getD v []))else none)]
def yfu(g:Gr):SV:=.ag [ybc g.ids,.os (211,0) 0 g.ports.length true]
theorem ycx{i n:Nat}{x b:OB}(h:(if i<n then some x else none)=some b):i<n/\b=x:=by
 split at h
 .cases h;exact⟨by assumption,rfl⟩
 .cases h
theorem ycd(back:Bool)(L:List (Int×Int))(x:Int×Int):(addL back L x).length=L.length+1:=by
 unfold addL;cases back<;>simp
theorem ybdw(L:List (Int×Int))(x:Int×Int){k:Nat}(hk:k<L.length+1):(if k<L.length then[SV.i .i64 (L.getD k (0,0)).1,SV.i .i64 (L.getD k (0,0)).2]else zAP 2 (zAQ ((k-L.length)*2) [SV.i .i64 x.1,SV.i .i64 x.2]))=[SV.i .i64 ((addL false L x).getD k (0,0)).1,SV.i .i64 ((addL false L x).getD k (0,0)).2]:=by
 show _=[SV.i .i64 ((L++[x]).getD k (0,0)).1,SV.i .i64 ((L++[x]).getD k (0,0)).2];rw[ydwt]
 by_cases h:k<L.length
 .rw[if_pos h,if_pos h]
 .obtain rfl:k=L.length:=by omega
  rw[if_neg h,if_neg h,if_pos rfl,zAK];rfl
theorem yns(L:List (Int×Int))(x:Int×Int)(k:Nat):(if k<1 then zAP 2 (zAQ (k*2) [SV.i .i64 x.1,SV.i .i64 x.2])else[SV.i .i64 (L.getD (k-1) (0,0)).1,SV.i .i64 (L.getD (k-1) (0,0)).2])=[SV.i .i64 ((addL true L x).getD k (0,0)).1,SV.i .i64 ((addL true L x).getD k (0,0)).2]:=by
 show _=[SV.i .i64 ((x::L).getD k (0,0)).1,SV.i .i64 ((x::L).getD k (0,0)).2];cases k with
 |zero=>rfl
 |succ k=>rw[if_neg (by omega)];rfl
theorem cells_one(L:List (Int×Int))(h:L.length=0)(x:Int×Int){k:Nat}(hk:k<1):zAP 2 (zAQ (k*2) [SV.i .i64 x.1,SV.i .i64 x.2])=[SV.i .i64 ((addL true L x).getD k (0,0)).1,SV.i .i64 ((addL true L x).getD k (0,0)).2]:=by
 obtain rfl:k=0:=by omega
 rfl
theorem yju {n:Nat}{o:Own}{P':List (List (Int×Int))}(hl:P'.length=n) (A:Nat->Nm) {R:Nat->List SV}(h11:lookO o (211,0)=some ⟨135,false,1,n,R⟩) (hR:∀v,v<n->R v=[.os (A v) 0 (P'.getD v []).length true])
 (hA:∀v,v<n->∃q,lookO o (A v)=some ⟨68,false,2,(P'.getD v []).length,q⟩/\∀k,k<(P'.getD v []).length->q k=[.i .i64 ((P'.getD v []).getD k (0,0)).1,.i .i64 ((P'.getD v []).getD k (0,0)).2])
 (hi:∀u v,u<n->v<n->A u=A v->u=v) (h0:∀v,v<n->A v≠(211,0)) :
 ∃r o',Weak [(211,0)] ⟨[(0,.tp [])],o⟩ ⟨[(0,r)],o'⟩/\(cln (live o') 5 r=true/\allQ (fun p=>yby (live o') p.2) o'/\allQ (fun β=>live o' β=true) [(211,0)])/\r = .tp []/\o'=ycr P':=by
 subst hl
 have hsome:∀i,(if i<P'.length then some (rowO (P'.getD i []))else none).isSome=true->i<P'.length:=fun i h=>by
  by_cases q:i<P'.length
  .exact q
  .rw[if_neg q]at h;cases h
 have hlive:∀i,i<P'.length->live (ycr P') (212,i)=true:=fun i hi=>by
  show(if i<P'.length then some (rowO (P'.getD i []))else none).isSome=true
  rw[if_pos hi];rfl
 refine⟨.tp [],ycr P',ybgv [(212,A)] [] [] trivial ⟨.inr ⟨.inr fun e=>⟨rfl,rfl⟩,.inr fun j hj e=>?_,trivial⟩,.inr ⟨.inr fun i hi' e=>?_,.inr fun i hi' j hj e=>⟨rfl,?_⟩,trivial⟩,trivial⟩ ⟨?_,trivial⟩ ⟨?_,fun i b hb=>?_,trivial⟩ ⟨⟨rfl,rfl,rfl⟩,trivial⟩,⟨rfl,⟨?_,?_,trivial⟩,rfl,trivial⟩,rfl,rfl⟩
 .exact absurd e.symm (h0 j (hsome j hj))
 .exact absurd e (h0 i (hsome i hi'))
 .exact hi i j (hsome i hi') (hsome j hj) e
 .exact⟨_,rfl,.inl ⟨trivial,Sim.refl _,rfl⟩⟩
 .refine⟨_,h11,⟨rfl,rfl,rfl,rfl,rfl⟩,fun e=>absurd (show false=true from e) zG,fun i hi'=>?_⟩
  have hi':i<P'.length:=hi';show telL _ _ _ _ _ (R i) _;rw[hR i hi'];refine⟨.inl ⟨by simp only[go_sem],Sim.refl _,?_⟩,rfl,trivial⟩
  show(live (ycr P') (212,i) && !(List.elem 212 []))=true;rw[hlive i hi'];rfl
 .obtain⟨hi',rfl⟩:=ycx hb;obtain⟨q,q1,q2⟩:=hA i hi';refine⟨_,q1,⟨rfl,rfl,rfl,rfl,rfl⟩,fun e=>absurd (show false=true from e) zG,fun k hk=>?_⟩
  show telL _ _ _ _ _ (q k) _;rw[q2 k hk];exact⟨.inl ⟨trivial,Sim.refl _,rfl⟩,rfl,.inl ⟨trivial,Sim.refl _,rfl⟩,rfl,trivial⟩
 .intro k hk;have:live (ycr P') (212,k)=true:=hlive k hk;simp only[ycr,List.all_cons,List.all_nil,Bool.and_true]at this ⊢;exact this
 .intro i b hb k hk;obtain⟨hi',rfl⟩:=ycx hb;rfl
section
variable {x:NetR}{g:Gr}{a b:Nat}{w:Int}
theorem ycbf (ha:a<g.ports.length)(hb:b<g.ports.length)(hn:g.ports.length<=24)(hd:∀v,(g.ports.getD v []).length<=1000) :
 Cm zO 48 [(211,0)] (ycr g.ports) [.ag (netC x),yfu g,.i .i64 a,.i .i64 b,.i .i64 w] fun r o=>r = .tp []/\o=ycr (yin x.back g a b w).ports:=by
 refine yddk [(211,0)] [] _ _ _ ?_;obtain⟨O2,hO2⟩:∃O,ycr (yin x.back g a b w).ports=O:=⟨_,rfl⟩;rw[hO2]
 by_cases hab:a=b
 .subst hab;have hP:yin x.back g a a w=g:=if_pos (.inl rfl);rw[hP]at hO2;simp only[c48,ydeq,ydeu,netC,yfu,ycr,yga,go_sem,zA,zB,zC,↓reduceIte,reduceCtorEq];subst hO2;exact yju rfl (fun v=>(212,v)) rfl (fun v hv=>rfl) (fun v hv=>⟨_,if_pos hv,fun k hk=>rfl⟩) (fun u v _ _ e=>congrArg Prod.snd e) (fun v _ e=>by cases e)
 .have hne:((a:Int)==(b:Int))=false:=by rw[beq_eq_false_iff_ne];omega
  have hL:=ybrg (ids:=g.ids) (ports:=g.ports) (b:=b) ha (by have:=hd a;omega)
  simp only[c48,ydeq,ydeu,netC,yfu,ycr,hne,clash,go_sem,zA,zB,zC,↓reduceIte,reduceCtorEq];refine .inl ⟨fun q hq=>by rw[if_pos hq];exact⟨zU _,fun k hk=>by simp only[rowO,go_sem]⟩,hL.useS ?_ ?_⟩
  .refine⟨ybca ⟨Sim.refl _,?_,trivial⟩,Sim.refl _,Sim.refl _,trivial⟩;refine ydp fun q hq=>?_;rw[if_pos hq];simp only[rowO,ybb,go_sem];exact⟨Sim.refl _,trivial⟩
  cases hlk:ymf (g.ports.getD a []) b with
  | true =>
    have hP:yin x.back g a b w=g:=if_pos (.inr hlk);rw[hP]at hO2;simp only[ybh,clash,yga,go_sem,zA,zB,↓reduceIte];subst hO2;exact yju rfl (fun v=>(212,v)) rfl (fun v hv=>rfl) (fun v hv=>⟨_,if_pos hv,fun k hk=>rfl⟩) (fun u v _ _ e=>congrArg Prod.snd e) (fun v _ e=>by cases e)
  | false =>
    have hP:yin x.back g a b w=ycu x.back g a b w:=if_neg (fun q=>by rcases q with q|q;exact hab q;rw[hlk]at q;cases q)
    rw[hP]at hO2;subst hO2;have hba:¬b=a:=fun e=>hab e.symm;have hlen:(ycu x.back g a b w).ports.length=g.ports.length:=by simp[ycu]
    have hat:=yeg x.back g w ha hb;obtain⟨G',hG'⟩:∃G,(ycu x.back g a b w).ports=G:=⟨_,rfl⟩;rw[hG']at hlen ⊢;have hat:∀v,G'.getD v []=if v=b then addL x.back (g.ports.getD b []) (a,w)else if v=a then addL x.back (g.ports.getD a []) (b,w)else g.ports.getD v []:=fun v=>by rw[<-hG'];exact hat v
    clear hG' hP
    obtain⟨x1,x2,x3,x4,x5,back⟩:=x;have hda:=hd a;have hdb:=hd b;cases back with
    | false =>
      simp only[ybh,clash,ybpe,ybrr,ydso,rowO,if_pos ha,if_pos hb,hab,hba,yga,and_false,go_sem,zA,zB,zD,zC,↓reduceIte,reduceCtorEq];refine⟨⟨by omega,by omega⟩,by omega,⟨by omega,by omega⟩,by decide,⟨by omega,by omega⟩,by omega,⟨by omega,by omega⟩,by decide,⟨by omega,by omega⟩,by omega,by decide,⟨by omega,by omega⟩,by omega,by decide,?_⟩
      refine yju hlen (fun v=>if v=b then(74,0)else if v=a then(66,0)else(212,v)) rfl (fun v hv=>?_) (fun v hv=>?_) (fun u v _ _ e=>?_) (fun v _ e=>?_)
      .rw[hat v]
       by_cases q:v=b
       .simp only[if_pos q,ycd]
       .by_cases q2:v=a
        .simp only[if_neg q,if_pos q2,ycd]
        .simp only[if_neg q,if_neg q2]
      .rw[hat v]
       by_cases q:v=b
       .simp only[if_pos q,ycd];exact⟨_,rfl,fun k hk=>ybdw _ (_,_) hk⟩
       .by_cases q2:v=a
        .simp only[if_neg q,if_pos q2,ycd];exact⟨_,rfl,fun k hk=>ybdw _ (_,_) hk⟩
        .simp only[if_neg q,if_neg q2];refine⟨fun k=>[.i .i64 ((g.ports.getD v []).getD k (0,0)).1,.i .i64 ((g.ports.getD v []).getD k (0,0)).2],?_,fun k hk=>rfl⟩;show(if v=b then none else if v=a then none else if v<g.ports.length then some _ else none)=some _
         rw[if_neg q,if_neg q2,if_pos hv]
      .by_cases q:u=b<;>by_cases q2:u=a<;>by_cases q3:v=b<;>by_cases q4:v=a<;>simp[q,q2,q3,q4,hab]at e ⊢<;>omega
      .by_cases q:v=b<;>by_cases q2:v=a<;>simp[q,q2,hab]at e
    | true =>
      by_cases hza:(g.ports.getD a []).length=0
      .by_cases hzb:(g.ports.getD b []).length=0
       .simp only[ybh,clash,ybpe,ybrr,yccz,ycdo,rowO,if_pos ha,if_pos hb,hba,yga,and_false,hza,hzb,go_sem,zA,zB,zD,zC,zAI,↓reduceIte,reduceCtorEq]
        repeat' apply zAL
        all_goals first|omega|decide|skip
        refine yju hlen (fun v=>if v=b then(45,0)else if v=a then(33,0)else(212,v)) rfl (fun v hv=>?_) (fun v hv=>?_) (fun u v _ _ e=>?_) (fun v _ e=>?_)
        .rw[hat v]
         by_cases q:v=b
         .simp only[if_pos q,ycd,hzb,zM]
         .by_cases q2:v=a
          .simp only[if_neg q,if_pos q2,ycd,hza,zM]
          .simp only[if_neg q,if_neg q2]
        .rw[hat v]
         by_cases q:v=b
         .simp only[if_pos q,ycd,hzb,zM];exact⟨_,rfl,fun k hk=>cells_one _ hzb (_,_) hk⟩
         .by_cases q2:v=a
          .simp only[if_neg q,if_pos q2,ycd,hza,zM];exact⟨_,rfl,fun k hk=>cells_one _ hza (_,_) hk⟩
          .simp only[if_neg q,if_neg q2];refine⟨fun k=>[.i .i64 ((g.ports.getD v []).getD k (0,0)).1,.i .i64 ((g.ports.getD v []).getD k (0,0)).2],?_,fun k hk=>rfl⟩;show(if v<g.ports.length then some _ else none)=some _
           rw[if_pos hv]
        .by_cases q:u=b<;>by_cases q2:u=a<;>by_cases q3:v=b<;>by_cases q4:v=a<;>simp[q,q2,q3,q4,hab]at e ⊢<;>omega
        .by_cases q:v=b<;>by_cases q2:v=a<;>simp[q,q2,hab]at e
       .simp only[ybh,clash,ybpe,ybrr,yccz,ycdo,rowO,if_pos ha,if_pos hb,hba,yga,and_false,hza,hzb,go_sem,zA,zB,zD,zC,zAI,↓reduceIte,reduceCtorEq]
        repeat' apply zAL
        all_goals first|omega|decide|skip
        refine yju hlen (fun v=>if v=b then(51,0)else if v=a then(33,0)else(212,v)) rfl (fun v hv=>?_) (fun v hv=>?_) (fun u v _ _ e=>?_) (fun v _ e=>?_)
        .rw[hat v]
         by_cases q:v=b
         .simp only[if_pos q,ycd,zJ]
         .by_cases q2:v=a
          .simp only[if_neg q,if_pos q2,ycd,hza,zM,zJ]
          .simp only[if_neg q,if_neg q2]
        .rw[hat v]
         by_cases q:v=b
         .simp only[if_pos q,ycd];exact⟨_,congrArg some (congrArg (fun n=>OB.mk _ _ _ n _) (zJ _ _)),fun k hk=>yns _ (_,_) k⟩
         .by_cases q2:v=a
          .simp only[if_neg q,if_pos q2,ycd,hza,zM];exact⟨_,rfl,fun k hk=>cells_one _ hza (_,_) hk⟩
          .simp only[if_neg q,if_neg q2];refine⟨fun k=>[.i .i64 ((g.ports.getD v []).getD k (0,0)).1,.i .i64 ((g.ports.getD v []).getD k (0,0)).2],?_,fun k hk=>rfl⟩;show(if v<g.ports.length then some _ else none)=some _
           rw[if_pos hv]
        .by_cases q:u=b<;>by_cases q2:u=a<;>by_cases q3:v=b<;>by_cases q4:v=a<;>simp[q,q2,q3,q4,hab]at e ⊢<;>omega
        .by_cases q:v=b<;>by_cases q2:v=a<;>simp[q,q2,hab]at e
      .by_cases hzb:(g.ports.getD b []).length=0
       .simp only[ybh,clash,ybpe,ybrr,yccz,ycdo,rowO,if_pos ha,if_pos hb,hba,yga,and_false,hza,hzb,go_sem,zA,zB,zD,zC,zAI,↓reduceIte,reduceCtorEq]
        repeat' apply zAL
        all_goals first|omega|decide|skip
        refine yju hlen (fun v=>if v=b then(45,0)else if v=a then(39,0)else(212,v)) rfl (fun v hv=>?_) (fun v hv=>?_) (fun u v _ _ e=>?_) (fun v _ e=>?_)
        .rw[hat v]
         by_cases q:v=b
         .simp only[if_pos q,ycd,hzb,zM,zJ]
         .by_cases q2:v=a
          .simp only[if_neg q,if_pos q2,ycd,zJ]
          .simp only[if_neg q,if_neg q2]
        .rw[hat v]
         by_cases q:v=b
         .simp only[if_pos q,ycd,hzb,zM];exact⟨_,rfl,fun k hk=>cells_one _ hzb (_,_) hk⟩
         .by_cases q2:v=a
          .simp only[if_neg q,if_pos q2,ycd];exact⟨_,congrArg some (congrArg (fun n=>OB.mk _ _ _ n _) (zJ _ _)),fun k hk=>yns _ (_,_) k⟩
          .simp only[if_neg q,if_neg q2];refine⟨fun k=>[.i .i64 ((g.ports.getD v []).getD k (0,0)).1,.i .i64 ((g.ports.getD v []).getD k (0,0)).2],?_,fun k hk=>rfl⟩;show(if v<g.ports.length then some _ else none)=some _
           rw[if_pos hv]
        .by_cases q:u=b<;>by_cases q2:u=a<;>by_cases q3:v=b<;>by_cases q4:v=a<;>simp[q,q2,q3,q4,hab]at e ⊢<;>omega
        .by_cases q:v=b<;>by_cases q2:v=a<;>simp[q,q2,hab]at e
       .simp only[ybh,clash,ybpe,ybrr,yccz,ycdo,rowO,if_pos ha,if_pos hb,hba,yga,and_false,hza,hzb,go_sem,zA,zB,zD,zC,↓reduceIte,reduceCtorEq]
        repeat' apply zAL
        all_goals first|omega|decide|skip
        refine yju hlen (fun v=>if v=b then(51,0)else if v=a then(39,0)else(212,v)) rfl (fun v hv=>?_) (fun v hv=>?_) (fun u v _ _ e=>?_) (fun v _ e=>?_)
        .rw[hat v]
         by_cases q:v=b
         .simp only[if_pos q,ycd,zJ]
         .by_cases q2:v=a
          .simp only[if_neg q,if_pos q2,ycd,zJ]
          .simp only[if_neg q,if_neg q2]
        .rw[hat v]
         by_cases q:v=b
         .simp only[if_pos q,ycd];exact⟨_,congrArg some (congrArg (fun n=>OB.mk _ _ _ n _) (zJ _ _)),fun k hk=>yns _ (_,_) k⟩
         .by_cases q2:v=a
          .simp only[if_neg q,if_pos q2,ycd];exact⟨_,congrArg some (congrArg (fun n=>OB.mk _ _ _ n _) (zJ _ _)),fun k hk=>yns _ (_,_) k⟩
          .simp only[if_neg q,if_neg q2];refine⟨fun k=>[.i .i64 ((g.ports.getD v []).getD k (0,0)).1,.i .i64 ((g.ports.getD v []).getD k (0,0)).2],?_,fun k hk=>rfl⟩;show(if v<g.ports.length then some _ else none)=some _
           rw[if_pos hv]
        .by_cases q:u=b<;>by_cases q2:u=a<;>by_cases q3:v=b<;>by_cases q4:v=a<;>simp[q,q2,q3,q4,hab]at e ⊢<;>omega
        .by_cases q:v=b<;>by_cases q2:v=a<;>simp[q,q2,hab]at e
end
end Sh
end
section
theorem ywi{back:Bool}{g:Gr}{a b:Nat}{w:Int}(hg:ybg g)(ha:a<g.ports.length)(hb:b<g.ports.length)(hw:1<=w/\w<=15):ybg (yin back g a b w)/\(yin back g a b w).ids=g.ids/\(yin back g a b w).ports.length=g.ports.length:=by
 unfold yin
 by_cases h:a=b\/ymf (g.ports.getD a []) b=true
 .rw[if_pos h];exact⟨hg,rfl,rfl⟩
 .rw[if_neg h];refine⟨ybep hg ha hb (fun e=>h (.inl e)) hw fun l hl e=>h (.inr (List.any_eq_true.2 ⟨l,hl,decide_eq_true e⟩)),rfl,by simp[ycu]⟩
theorem ybed{back:Bool}{g:Gr}{a b:Nat}{w:Int}(ha:a<g.ports.length)(hb:b<g.ports.length){m:Nat}(h:Tre g m):Tre (yin back g a b w) m:=by
 unfold yin;split
 .exact h
 .exact h.add ha hb
theorem ycef{back:Bool}{g:Gr}{a b:Nat}{w:Int}(ha:a<g.ports.length)(hb:b<g.ports.length)(hab:a≠b):adj (yin back g a b w) a b:=by
 unfold yin;split
 .rename_i h
  rcases h with h|h
  .exact absurd h hab
  .obtain⟨l,hl,e⟩:=List.any_eq_true.1 h;exact yhj.2 ⟨l,hl,of_decide_eq_true e⟩
 .exact ybim ha hb hab
theorem ybhg:∀(l:List Nat) (i x:Nat) (h:i<l.length),(l.set i x).sum+l[i]=l.sum+x
 |a::l,0,x,_=>by simp;omega
 | a::l,i+1,x,h=>by
   have:=ybhg l i x (by simpa using h)
   simp only[List.set_cons_succ,List.sum_cons,List.getElem_cons_succ];omega
theorem ybsa{back:Bool}{g:Gr}{a b:Nat}{w:Int}(ha:a<g.ports.length)(hb:b<g.ports.length)(hab:a≠b):yfg (ycu back g a b w)=yfg g+2:=by
 unfold yfg ycu;simp only[List.map_set,Sh.ycd];have h1:=ybhg (g.ports.map zAU) a ((g.ports.getD a []).length+1) (by simpa using ha)
 have h2:=ybhg ((g.ports.map zAU).set a ((g.ports.getD a []).length+1)) b ((g.ports.getD b []).length+1) (by simpa using hb)
 rw[List.getElem_set_ne hab,zAN,<-Sh.getD_at hb (d:=[])]at h2;rw[zAN,<-Sh.getD_at ha (d:=[])]at h1;omega
def WtF(x:NetR)(g:Gr):Prop:=∀v l,l∈g.ports.getD v []->∃i,l.2=1+ydj (atP x.weights i) 15
theorem yblr{x:NetR}{back:Bool}{g:Gr}{a b:Nat}{w:Int}(ha:a<g.ports.length)(hb:b<g.ports.length)(hw:∃i,w=1+ydj (atP x.weights i) 15)(h:WtF x g):WtF x (yin back g a b w):=by
 unfold yin;split
 .exact h
 .intro v l hl;rw[yeg back g w ha hb]at hl;split at hl
  .rcases yez.1 hl with rfl|hl
   .exact hw
   .exact h _ _ hl
  .split at hl
   .rcases yez.1 hl with rfl|hl
    .exact hw
    .exact h _ _ hl
   .exact h _ _ hl
structure TreeTo(x:NetR)(v:Nat)(g:Gr):Prop where
 tre:Tre g v
 wt:WtF x g
 none_:∀u,v<=u->g.ports.getD u []=[]
 count:yfg g+2=2*v
theorem ylc(ids:List Int)(v:Nat):(bare ids).ports.getD v []=[]:=by
 unfold bare;rw[zAE,List.getElem?_replicate];split<;>rfl
theorem TreeTo.zero(x:NetR)(ids:List Int):TreeTo x 1 (bare ids):=by
 refine⟨fun v h0 h1=>by omega,fun v l hl=>?_,fun u _=>ylc ids u,?_⟩
 .rw[ylc]at hl;exact absurd hl zW
 .have:yfg (bare ids)=0:=by
   unfold yfg bare;simp
  omega
theorem TreeTo.succ{x:NetR}{v:Nat}{g:Gr}(hg:ybg g)(h:TreeTo x v g)(hv:v<g.ports.length)(h1:1<=v){a:Nat}(ha:a<v){w:Int}(hw:∃i,w=1+ydj (atP x.weights i) 15):TreeTo x (v+1) (yin x.back g a v w):=by
 have hadj:=ycef (back:=x.back) (g:=g) (a:=a) (b:=v) (w:=w) (by omega) (by omega) (by omega)
 have hno:¬(a=v\/ymf (g.ports.getD a []) v=true):=by
  rintro(e|e)
  .omega
  .obtain⟨l,hl,e⟩:=List.any_eq_true.1 e;have e:=of_decide_eq_true e;have:adj g v a:=hg.adj_symm (yhj.2 ⟨l,hl,e⟩);obtain⟨l',hl',_⟩:=yhj.1 this;rw[h.none_ v (zU _)]at hl';exact absurd hl' zW
 have e:yin x.back g a v w=ycu x.back g a v w:=by unfold yin;rw[if_neg hno]
 refine⟨fun u h0 hu=>?_,yblr (by omega) hv hw h.wt,fun u hu=>?_,?_⟩
 .by_cases q:u=v
  .subst q;exact⟨a,ha,hadj⟩
  .exact ybed (by omega) hv h.tre u h0 (by omega)
 .rw[e,yeg x.back g w (by omega) hv,if_neg (by omega),if_neg (by omega)]
  exact h.none_ u (by omega)
 .rw[e,ybsa (by omega) hv (by omega)]
  have:=h.count;omega
namespace Sh
open Ev Go.RowKit
theorem yry{n:Nat}{P:List (List (Int×Int))}{f:SV->SV}(hf:∀k z,f (.i k z) = .i k z){i:Nat}(hi:i<n):(match (if i<n then some (rowO (P.getD i []))else none)with|some b=>some (⟨b.e,b.bx,b.z,b.n,fun k=>(b.g k).map f⟩:OB)|none=>none)=some (rowO (P.getD i [])):=by
 rw[if_pos hi];simp[rowO,hf]
theorem yddj{x:NetR}(hx:x.ok){most:Nat}(hm:1<=most/\most<=24) :
 Cm zO 10 [] [] [.ag (netC x),.i .i64 most] fun r o=>∃g,ybg g/\TreeTo x g.ports.length g/\(g.ports.length<=most/\(g.ports.length:Int)=1+ydj (IntKind.wrap .i64 (x.n-1)) most)/\r=yfu g/\o=ycr g.ports:=by
 refine ydcd [] [47,48] _ _ _ ?_;have hN:=ybnr hx hm;obtain⟨hx1,hx2,hx3,hx4⟩:=hx;simp only[netC]at hN;simp only[c10,ydql,ydsf,netC,go_sem,zA,zB,zC,↓reduceIte,reduceCtorEq];refine yco hN [(17,117)] 0 [2,4] [2,4] ?_ ?_
 .simp only[okN,yby,ydn,ycs,yck,allQ,live,yc,go_sem,zA,zB,zF,↓reduceIte,reduceCtorEq]
 rintro r o' ⟨ids,h1,h2,h3,rfl,rfl⟩;obtain⟨n,hn⟩:∃n,ids.length=n:=⟨_,rfl⟩;rw[hn]at h1;simp only[hn,yiq,yhr,nuF,nu,difN,ycs,yck,Fam.ren,OB.ren,dim,ydpv,yyf,yfx,go_sem,zA,zB,zC,zF,↓reduceIte];simp only[ydwh,go_sem]
 refine ybf (σ:=Nat×Gr) (fun q=>⟨[(6,.i .i64 q.1),(5,.pt (5,0) 0 0),(2,.pt (2,0) 0 0),(4,.pt (4,0) 0 0)],
  (5,.one (some ⟨27,true,2,1,fun _=>[ybc q.2.ids,.os (211,0) 0 n true]⟩))::(2,.one (some ⟨24,true,6,1,fun _=>netC x⟩))::(4,.one (some ⟨27,true,2,1,fun _=>[.a (.slice none 0 0),.a (.slice none 0 0)]⟩))::ycr q.2.ports⟩)
  (fun q=>ybg q.2/\q.2.ports.length=n/\TreeTo x q.1 q.2/\1<=q.1/\q.1<=n) (fun q=>n-q.1) (1,bare ids) ⟨ybgb (by omega) (by omega) h2 h3,by simp[bare,hn],TreeTo.zero x ids,by omega,by omega⟩ ?_ ?_
 .refine yh [(211,fun i=>(117,i))] [212] [] ?_;have b1:(bare ids).ids=ids:=rfl;have b2:(bare ids).ports.length=n:=by simp[bare,hn]
  have b3:∀v,(bare ids).ports.getD v []=[]:=ylc ids;simp only[netC,ycr,rowO,b1,b2,b3,List.length_nil,allQ,live,yc,yx,go_sem,zA,zC,zF,↓reduceIte,reduceCtorEq];refine⟨rfl,fun i hi=>⟨(212,i),rfl,rfl,by simp[hi]⟩,fun i b hb=>?_⟩
  obtain⟨_,rfl⟩:=ycx hb;exact⟨rfl,rfl⟩
 .rintro⟨v,g⟩ ⟨hg,hgn,htr,hv1,hvn⟩;have hg:ybg g:=hg;have hgn:g.ports.length=n:=hgn;have htr:TreeTo x v g:=htr;have hv1:1<=v:=hv1;have hvn:v<=n:=hvn
  by_cases hlt:v<n
  .have ht:decide ((v:Int)<(n:Int))=true:=decide_eq_true (by omega)
   have hv2:(v:Int)-1=((v-1:Nat):Int):=by omega
   have hA1:=at_ret x.links (v-1);have hA2:=at_ret x.weights (v-1);have hi1:=ygg (v:=atP x.links (v-1)) (m:=(v:Int)) (by omega)
   have hi2:=ygg (v:=atP x.weights (v-1)) (m:=15) (by omega)
   have hW1:=ygf (atP x.links (v-1)) v (by omega) (hx2 _)
   have hW2:=ygf (atP x.weights (v-1)) 15 (by omega) (hx3 _)
   obtain⟨a,ha⟩:∃a:Nat,ydj (atP x.links (v-1)) v=a:=zH hi1.1;obtain⟨w,hw⟩:∃w:Int,ydj (atP x.weights (v-1)) 15=w:=⟨_,rfl⟩;rw[ha]at hW1 hi1;rw[hw]at hW2 hi2;have hL:=ycbf (x:=x) (g:=g) (a:=a) (b:=v) (w:=1+w) (by omega) (by omega) (by omega) (fun u=>by have:=hg.deg_lt (v:=u);omega)
   simp only[ydka,ydta,ydxx,netC,ycr,ht,hv2,clash,go_sem,zA,zB,zD,zF,↓reduceIte,reduceCtorEq];refine⟨ikw (by omega) (by omega),hA1.use ?_⟩
   simp only[ybh,clash,go_sem,zA,zB,zD,zF,↓reduceIte,reduceCtorEq];refine hW1.use ?_;simp only[hv2,go_sem];refine⟨ikw (by omega) (by omega),hA2.use ?_⟩
   simp only[go_sem,↓reduceIte];refine hW2.use ?_;simp only[go_sem,zA,zF,↓reduceIte];refine⟨ikw (by omega) (by omega),yco hL [(211,211),(212,212)] 0 [2,4,5,6] [2,4,5] ?_ ?_⟩
   .simp only[netC,yfu,ycr,hgn,to1,okN,yby,ydn,ycs,yck,allQ,live,yc,go_sem,zA,zB,zC,zF,↓reduceIte,reduceCtorEq];refine⟨⟨fun i _ j _ e=>e,fun i hi=>by rw[if_pos hi],fun i b hb=>?_⟩,by decide⟩
    obtain⟨hi,rfl⟩:=ycx hb;exact⟨_,if_pos hi,⟨rfl,rfl,rfl,rfl⟩,fun e=>absurd (show false=true from e) zG,fun k hk=>by simp only[rowO,live,yc,go_sem,reduceCtorEq]⟩
   .rintro r o' ⟨rfl,rfl⟩;simp only[ycr,yiq,yhr,nuF,nu,difN,ycs,yck,Fam.ren,OB.ren,dim,ymc,yfx,go_sem,zA,zB,zF,↓reduceIte,reduceCtorEq];obtain⟨gg1,gg2,gg3⟩:=ywi (back:=x.back) (a:=a) (b:=v) (w:=1+w) hg (by omega) (by omega) (by omega)
    have gg4:=htr.succ hg (by omega) hv1 (a:=a) (by omega) (w:=1+w) ⟨v-1,by rw[hw]⟩
    obtain⟨G,hG⟩:∃G,yin x.back g a v (1+w)=G:=⟨_,rfl⟩;rw[hG]at gg1 gg2 gg3 gg4 ⊢;rw[hgn]at gg3;refine⟨ikw (by omega) (by omega),yj (v+1,G) ⟨gg1,gg3,gg4,by omega,by omega⟩ (by show n-(v+1)<n-v;omega) ?_⟩
    .refine yh [] [] [] ?_;simp only[gg3,gg2,allQ,live,yc,yx,go_sem,zA,zC,↓reduceIte,reduceCtorEq];refine⟨fun i _ j _ e=>e,by omega,fun i hi=>by rw[if_pos hi],fun i b hb=>?_⟩
     obtain⟨hi,rfl⟩:=ycx hb;refine⟨_,yry (f:=ren (nu [(211,211),(212,212)] 0) 5) (fun _ _=>rfl) hi,⟨rfl,rfl,rfl,rfl⟩,fun e=>absurd (show false=true from e) zG,fun k hk=>?_⟩
     simp only[rowO,live,yc,go_sem,reduceCtorEq]
  .obtain rfl:v=n:=by omega
   have ht:decide ((v:Int)<(v:Int))=false:=decide_eq_false (by omega)
   simp only[ydka,ydzi,netC,ycr,ht,clash,splice,yga,go_sem,zA,zB,↓reduceIte,reduceCtorEq];refine⟨yfu g,ycr g.ports,?_,?_,g,hg,by rw[hgn];exact htr,by omega,rfl,rfl⟩
   .refine yh [] [] [] ?_;simp only[ycr,yfu,hgn,allQ,live,yc,go_sem,zA,zC,↓reduceIte,reduceCtorEq];refine⟨fun i _ j _ e=>e,fun i hi=>by rw[if_pos hi],fun i b hb=>?_⟩
    obtain⟨hi,rfl⟩:=ycx hb;exact⟨_,if_pos hi,⟨rfl,rfl,rfl,rfl⟩,fun e=>absurd (show false=true from e) zG,fun k hk=>by simp only[rowO,live,yc,go_sem,reduceCtorEq]⟩
   .simp only[ycr,yfu,yby,ydn,allQ,live,go_sem,zA,↓reduceIte];refine⟨fun i hi=>by rw[if_pos hi],fun i b hb k hk=>?_⟩
    obtain⟨hi,rfl⟩:=ycx hb;simp only[rowO,go_sem]
end Sh
end
section
namespace Sh
open Ev Go.RowKit
theorem ycab{x:NetR}(hx:x.ok){g:Gr}(hg:ybg g){Q:Gr->Prop}(ht:Q g)(hQ:∀G a b w,ybg G->G.ports.length=g.ports.length->a<G.ports.length->b<G.ports.length->(∃i,w=1+ydj (atP x.weights i) 15)->Q G->Q (yin x.back G a b w)) :
 Cm zO 80 [] (ycr g.ports) [.ag (netC x),yfu g] fun r o=>∃g',ybg g'/\Q g'/\g'.ports.length=g.ports.length/\r=yfu g'/\o=ycr g'.ports:=by
 refine ydhp [] [48] _ _ _ ?_;obtain⟨hx1,hx2,hx3,hx4⟩:=hx;have h1:=hg.1;have h24:=hg.2.1;obtain⟨n,hn⟩:∃n,g.ports.length=n:=⟨_,rfl⟩;rw[hn]at h1 h24 hQ;obtain⟨L,hL⟩:∃L,x.links.length=L:=⟨_,rfl⟩;simp only[c80,ydoo,ydwe,yduf,netC,yfu,ycr,hn,clash,go_sem,zA,zB,zC,↓reduceIte,reduceCtorEq]
 refine ybf (σ:=Nat×Gr) (fun q=>⟨[(6,.i .i64 q.1),(5,.i .i64 n),(3,.pt (3,0) 0 0),(2,.pt (2,0) 0 0),(4,.pt (4,0) 0 0)],
  (3,.one (some ⟨27,true,2,1,fun _=>[ybc q.2.ids,.os (211,0) 0 n true]⟩))::(2,.one (some ⟨24,true,6,1,fun _=>netC x⟩))::(4,.one (some ⟨27,true,2,1,fun _=>[.a (.slice none 0 0),.a (.slice none 0 0)]⟩))::ycr q.2.ports⟩)
  (fun q=>ybg q.2/\q.2.ports.length=n/\Q q.2/\q.1<=61) (fun q=>62-q.1) (n,g) ⟨hg,hn,ht,by show n<=61;omega⟩ ?_ ?_
 .refine yh [] [] [] ?_;simp only[netC,ycr,hn,allQ,live,yc,go_sem,zA,zC,↓reduceIte,reduceCtorEq];refine⟨fun i _ j _ e=>e,fun i hi=>by rw[if_pos hi],fun i b hb=>?_⟩
  obtain⟨hi,rfl⟩:=ycx hb;exact⟨_,if_pos hi,⟨rfl,rfl,rfl,rfl⟩,fun e=>absurd (show false=true from e) zG,fun k hk=>by simp only[rowO,live,yc,go_sem,reduceCtorEq]⟩
 .rintro⟨i,G⟩ ⟨gg,ggn,gtr,hi61⟩;have gg:ybg G:=gg;have ggn:G.ports.length=n:=ggn;have gtr:Q G:=gtr;have hi61:i<=61:=hi61;have hi1:(i:Int)+1=((i+1:Nat):Int):=by omega
  by_cases hlt:i+1<L
  .by_cases h60:i<60
   .have ht1:decide (((i+1:Nat):Int)<(L:Int))=true:=decide_eq_true (by omega)
    have ht2:decide ((i:Int)<60)=true:=decide_eq_true (by omega)
    have hA2:=at_ret x.weights i;have hi2:=ygg (v:=atP x.weights i) (m:=15) (by omega)
    have hw1:=ygg (v:=x.links.getD i 0) (m:=(n:Int)) (by omega)
    have hw2:=ygg (v:=x.links.getD (i+1) 0) (m:=(n:Int)) (by omega)
    have hW1:=ygf (x.links.getD i 0) n (by omega) (hx2 i)
    have hW2:=ygf (x.links.getD (i+1) 0) n (by omega) (hx2 (i+1))
    have hW3:=ygf (atP x.weights i) 15 (by omega) (hx3 _)
    obtain⟨a,ha⟩:∃a:Nat,ydj (x.links.getD i 0) n=a:=zH hw1.1;obtain⟨b,hb⟩:∃b:Nat,ydj (x.links.getD (i+1) 0) n=b:=zH hw2.1;obtain⟨w,hw⟩:∃w:Int,ydj (atP x.weights i) 15=w:=⟨_,rfl⟩;rw[ha]at hW1 hw1;rw[hb]at hW2 hw2;rw[hw]at hW3 hi2;have hK:=ycbf (x:=x) (g:=G) (a:=a) (b:=b) (w:=1+w) (by omega) (by omega) (by omega) (fun u=>by have:=gg.deg_lt (v:=u);omega)
    simp only[ycmd,ydpz,ydlf,netC,ycr,ybc,hL,hi1,ht1,ht2,clash,go_sem,zA,zB,zD,zF,↓reduceIte,reduceCtorEq];refine⟨ikw (by omega) (by omega),⟨by omega,by omega⟩,hW1.use ?_⟩
    simp only[ybh,clash,hi1,go_sem,zA,zB,zD,zF,↓reduceIte,reduceCtorEq];refine⟨ikw (by omega) (by omega),⟨by omega,by omega⟩,hW2.use ?_⟩
    simp only[go_sem];simp only[ybc]at hA2;refine hA2.use ?_;simp only[go_sem,↓reduceIte];refine hW3.use ?_;simp only[go_sem,zA,↓reduceIte];refine⟨ikw (by omega) (by omega),yco hK [(211,211),(212,212)] 0 [2,3,4,5,6] [2,3,4] ?_ ?_⟩
    .simp only[netC,yfu,ycr,ggn,ybc,hL,to1,okN,yby,ydn,ycs,yck,allQ,live,yc,go_sem,zA,zB,zC,zF,↓reduceIte,reduceCtorEq];refine⟨⟨fun i _ j _ e=>e,fun i hi=>by rw[if_pos hi],fun i b hb=>?_⟩,by decide⟩
     obtain⟨hi,rfl⟩:=ycx hb;exact⟨_,if_pos hi,⟨rfl,rfl,rfl,rfl⟩,fun e=>absurd (show false=true from e) zG,fun k hk=>by simp only[rowO,live,yc,go_sem,reduceCtorEq]⟩
    .rintro r o' ⟨rfl,rfl⟩;simp only[ycr,yiq,yhr,nuF,nu,difN,ycs,yck,Fam.ren,OB.ren,dim,ymc,yfx,go_sem,zA,zB,zF,↓reduceIte,reduceCtorEq];obtain⟨gg1,gg2,gg3⟩:=ywi (back:=x.back) (a:=a) (b:=b) (w:=1+w) gg (by omega) (by omega) (by omega)
     have gg4:=hQ G a b (1+w) gg ggn (by omega) (by omega) ⟨i,by rw[hw]⟩ gtr
     obtain⟨H,hH⟩:∃H,yin x.back G a b (1+w)=H:=⟨_,rfl⟩;rw[hH]at gg1 gg2 gg3 gg4 ⊢;rw[ggn]at gg3;refine⟨ikw (by omega) (by omega),yj (i+2,H) ⟨gg1,gg3,gg4,by show i+2<=61;omega⟩ (by show 62-(i+2)<62-i;omega) ?_⟩
     refine yh [] [] [] ?_;simp only[gg3,gg2,allQ,live,yc,yx,go_sem,zA,zC,↓reduceIte,reduceCtorEq];refine⟨fun i _ j _ e=>e,by omega,fun i hi=>by rw[if_pos hi],fun i b hb=>?_⟩
     obtain⟨hi,rfl⟩:=ycx hb;refine⟨_,yry (f:=ren (nu [(211,211),(212,212)] 0) 5) (fun _ _=>rfl) hi,⟨rfl,rfl,rfl,rfl⟩,fun e=>absurd (show false=true from e) zG,fun k hk=>?_⟩
     simp only[rowO,live,yc,go_sem,reduceCtorEq]
   .have ht1:decide (((i+1:Nat):Int)<(L:Int))=true:=decide_eq_true (by omega)
    have ht2:decide ((i:Int)<60)=false:=decide_eq_false (by omega)
    simp only[ycmd,yddy,netC,ycr,ybc,hL,hi1,ht1,ht2,clash,splice,yga,go_sem,zA,zB,zD,↓reduceIte,reduceCtorEq];refine⟨ikw (by omega) (by omega),?_⟩
    refine⟨yfu G,ycr G.ports,?_,?_,G,gg,gtr,ggn,rfl,rfl⟩
    .refine yh [] [] [] ?_;simp only[ycr,yfu,ggn,ybc,allQ,live,yc,go_sem,zA,zC,↓reduceIte,reduceCtorEq];refine⟨fun i _ j _ e=>e,fun i hi=>by rw[if_pos hi],fun i b hb=>?_⟩
     obtain⟨hi,rfl⟩:=ycx hb;exact⟨_,if_pos hi,⟨rfl,rfl,rfl,rfl⟩,fun e=>absurd (show false=true from e) zG,fun k hk=>by simp only[rowO,live,yc,go_sem,reduceCtorEq]⟩
    .simp only[ycr,yfu,yby,ydn,allQ,live,go_sem,zA,↓reduceIte];refine⟨fun i hi=>by rw[if_pos hi],fun i b hb k hk=>?_⟩
     obtain⟨hi,rfl⟩:=ycx hb;simp only[rowO,go_sem]
  .have ht1:decide (((i+1:Nat):Int)<(L:Int))=false:=decide_eq_false (by omega)
   simp only[ycmd,yddy,netC,ycr,ybc,hL,hi1,ht1,clash,splice,yga,go_sem,zA,zB,zD,↓reduceIte,reduceCtorEq];refine⟨ikw (by omega) (by omega),?_⟩
   refine⟨yfu G,ycr G.ports,?_,?_,G,gg,gtr,ggn,rfl,rfl⟩
   .refine yh [] [] [] ?_;simp only[ycr,yfu,ggn,ybc,allQ,live,yc,go_sem,zA,zC,↓reduceIte,reduceCtorEq];refine⟨fun i _ j _ e=>e,fun i hi=>by rw[if_pos hi],fun i b hb=>?_⟩
    obtain⟨hi,rfl⟩:=ycx hb;exact⟨_,if_pos hi,⟨rfl,rfl,rfl,rfl⟩,fun e=>absurd (show false=true from e) zG,fun k hk=>by simp only[rowO,live,yc,go_sem,reduceCtorEq]⟩
   .simp only[ycr,yfu,yby,ydn,allQ,live,go_sem,zA,↓reduceIte];refine⟨fun i hi=>by rw[if_pos hi],fun i b hb k hk=>?_⟩
    obtain⟨hi,rfl⟩:=ycx hb;simp only[rowO,go_sem]
theorem yvk{x:NetR}(hx:x.ok){most:Nat}(hm:1<=most/\most<=24) :
 Ct zO 79 [.ag (netC x),.i .i64 most] fun r=>∃g,ybg g/\ycjx g=true/\(g.ports.length<=most/\WtF x g)/\Sim r (grV g):=by
 refine ydcg [10,80] _ _ ?_;have hT:=yddj hx hm;simp only[netC]at hT;simp only[c79,ydqp,ydwb,netC,clash,go_sem,zA,zB,zC,↓reduceIte,reduceCtorEq];refine yco hT [(211,211),(212,212)] 0 [2,4,5] [2,4] ?_ ?_
 .simp only[okN,yby,ydn,ycs,yck,allQ,live,yc,go_sem,zA,zB,zF,↓reduceIte,reduceCtorEq]
 rintro r o' ⟨g,hg,ht,⟨hn,-⟩,rfl,rfl⟩;have hM:=ycab (Q:=fun G=>Tre G g.ports.length/\WtF x G) hx hg ⟨ht.tre,ht.wt⟩ (fun G a b w gG gl ga gb gw gQ=>⟨ybed ga gb gQ.1,yblr ga gb gw gQ.2⟩);simp only[netC]at hM;simp only[ycr,yfu,yiq,yhr,nuF,nu,difN,ycs,yck,Fam.ren,OB.ren,dim,yyf,yfx,go_sem,zA,zB,zF,↓reduceIte];refine yco hM [(211,211),(212,212)] 0 [4] [4] ?_ ?_
 .simp only[yfu,ycr,to1,okN,yby,ydn,ycs,yck,allQ,live,yc,go_sem,zA,zB,zC,zF,↓reduceIte,reduceCtorEq];refine⟨⟨fun i _ j _ e=>e,fun i hi=>by rw[if_pos hi],fun i b hb=>?_⟩,by decide⟩
  obtain⟨hi,rfl⟩:=ycx hb;refine⟨_,yry (f:=ren (nu [(211,211),(212,212)] 0) 5) (fun _ _=>rfl) hi,⟨rfl,rfl,rfl,rfl⟩,fun e=>absurd (show false=true from e) zG,fun k hk=>?_⟩
  simp only[rowO,live,yc,go_sem,reduceCtorEq]
 rintro r o' ⟨G,gg,⟨gt,gw⟩,gn,rfl,rfl⟩;simp only[ycr,yfu,clash,splice,yiq,yhr,nuF,nu,difN,ycs,yck,Fam.ren,OB.ren,dim,yyf,yfx,go_sem,zA,zB,zF,↓reduceIte];refine⟨by decide,fun q hq=>?_,G,gg,Tre.conn gg (by rw[gn];exact gt),⟨by omega,gw⟩,?_⟩
 .simp only[if_pos hq];exact⟨zU _,fun k hk=>by simp only[rowO,go_sem]⟩
 .refine ybca ⟨Sim.refl _,?_,trivial⟩;refine ydp fun q hq=>?_;simp only[if_pos hq];simp only[rowO,ybb,ygr,go_sem];exact⟨Sim.refl _,trivial⟩
theorem ybaa{x:NetR}(hx:x.ok){most:Nat}(hm:1<=most/\most<=24) :
 Ct zO 79 [.ag (netC x),.i .i64 most] fun r=>∃g,ybg g/\ycjx g=true/\g.ports.length<=most/\Sim r (grV g) :=
 (yvk hx hm).mono fun _ ⟨g,h1,h2,h3,h4⟩=>⟨g,h1,h2,h3.1,h4⟩
end Sh
end
section
namespace Sh
open Ev Go.RowKit
theorem ycmb(l:List Nat):one1 (usV l)=true:=rfl
theorem ybvu{n:Nat}(l:List Nat):owned (n+1) (usV l)=false:=rfl
theorem ybrx{n:Nat}(l:List Nat):scalar (n+1) (usV l)=false:=rfl
theorem ycjw{n:Nat}(o:Own)(l:List Nat):view o (n+1) (usV l)=usV l:=rfl
theorem ydkg{n:Nat}(o:Own)(l:List Nat):vok o (n+1) (usV l)=True:=rfl
theorem ydgu{n:Nat}(h:Nm->Nm)(l:List Nat):ren h (n+1) (usV l)=usV l:=rfl
theorem yddt{n:Nat}(D:Nm->Bool)(l:List Nat):cln D (n+1) (usV l)=true:=rfl
theorem ycar{n:Nat}(fr:List Nm)(o:Own)(l:List Nat):ydu fr o (n+1) (usV l)=usV l:=rfl
theorem ydcl{n:Nat}(fr:List Nm)(o:Own)(l:List Nat):pok fr o (n+1) (usV l)=True:=rfl
theorem ycff(l:List Nat):SV.cells (usV l)=[usV l]:=rfl
theorem ybjk(l:List Conf):one1 (yia l)=true:=rfl
theorem ybel{n:Nat}(l:List Conf):owned (n+1) (yia l)=false:=rfl
theorem yzc{n:Nat}(l:List Conf):scalar (n+1) (yia l)=false:=rfl
theorem ybhq{n:Nat}(o:Own)(l:List Conf):view o (n+1) (yia l)=yia l:=rfl
theorem ybpd{n:Nat}(o:Own)(l:List Conf):vok o (n+1) (yia l)=True:=rfl
theorem ybrj{n:Nat}(h:Nm->Nm)(l:List Conf):ren h (n+1) (yia l)=yia l:=rfl
theorem ybqj{n:Nat}(D:Nm->Bool)(l:List Conf):cln D (n+1) (yia l)=true:=rfl
theorem ybde{n:Nat}(fr:List Nm)(o:Own)(l:List Conf):ydu fr o (n+1) (yia l)=yia l:=rfl
theorem ybpy{n:Nat}(fr:List Nm)(o:Own)(l:List Conf):pok fr o (n+1) (yia l)=True:=rfl
theorem ybdr(l:List Conf):SV.cells (yia l)=[yia l]:=rfl
theorem ybsc(l:List Cnt):one1 (yog l)=true:=rfl
theorem ybgi{n:Nat}(l:List Cnt):owned (n+1) (yog l)=false:=rfl
theorem ybfe{n:Nat}(l:List Cnt):scalar (n+1) (yog l)=false:=rfl
theorem ybsk{n:Nat}(o:Own)(l:List Cnt):view o (n+1) (yog l)=yog l:=rfl
theorem ybuh{n:Nat}(o:Own)(l:List Cnt):vok o (n+1) (yog l)=True:=rfl
theorem ybtv{n:Nat}(h:Nm->Nm)(l:List Cnt):ren h (n+1) (yog l)=yog l:=rfl
theorem ycaw{n:Nat}(D:Nm->Bool)(l:List Cnt):cln D (n+1) (yog l)=true:=rfl
theorem ybjh{n:Nat}(fr:List Nm)(o:Own)(l:List Cnt):ydu fr o (n+1) (yog l)=yog l:=rfl
theorem yccf{n:Nat}(fr:List Nm)(o:Own)(l:List Cnt):pok fr o (n+1) (yog l)=True:=rfl
theorem ybha(l:List Cnt):SV.cells (yog l)=[yog l]:=rfl
theorem yckq(l:List Bool):one1 (blV l)=true:=rfl
theorem ybtb{n:Nat}(l:List Bool):owned (n+1) (blV l)=false:=rfl
theorem ybps{n:Nat}(l:List Bool):scalar (n+1) (blV l)=false:=rfl
theorem yckb{n:Nat}(o:Own)(l:List Bool):view o (n+1) (blV l)=blV l:=rfl
theorem ydfk{n:Nat}(o:Own)(l:List Bool):vok o (n+1) (blV l)=True:=rfl
theorem ydfj{n:Nat}(h:Nm->Nm)(l:List Bool):ren h (n+1) (blV l)=blV l:=rfl
theorem ydfu{n:Nat}(D:Nm->Bool)(l:List Bool):cln D (n+1) (blV l)=true:=rfl
theorem ycda{n:Nat}(fr:List Nm)(o:Own)(l:List Bool):ydu fr o (n+1) (blV l)=blV l:=rfl
theorem ydgx{n:Nat}(fr:List Nm)(o:Own)(l:List Bool):pok fr o (n+1) (blV l)=True:=rfl
theorem ycex(l:List Bool):SV.cells (blV l)=[blV l]:=rfl
attribute [go_sem] ycmb ybvu ybrx ycjw ydkg ydgu yddt ycar ydcl ycff ybjk ybel yzc ybhq ybpd ybrj ybqj ybde ybpy ybdr ybsc ybgi ybfe ybsk ybuh ybtv ycaw ybjh yccf ybha yckq ybtb ybps yckb ydfk ydfj ydfu ycda ydgx ycex
theorem Ct.found{P:Program}{g:FuncId}{args:List SV}{α:Type}{R:SV->α->Prop}{V:α->SV}{Q:SV->Prop}(h:Ct P g args fun r=>∃x,R r x)(hs:∀r x,R r x->Sim r (V x))(hq:∀r x,R r x->Q (V x)):Ct P g args Q:=fun G m us h1 h2 h3=>by
 obtain⟨v,m',r,a,b,c,⟨x,hx⟩,e⟩:=h G m us h1 h2 h3;exact⟨v,m',V x,a,b,c,hq r x hx,hs r x hx _ _ _ e⟩
end Sh
end
section
namespace Sh
theorem ytm{f:Int×Int->Bool}{ls:List (Int×Int)}(h:∃l∈ls,f l=true):∃i:Nat,ybew f ls=i/\i<ls.length/\f (ls.getD i (0,0))=true:=by
 unfold ybew;cases hq:ls.findIdx? f with
 | none =>
   obtain⟨l,h1,h2⟩:=h;have:=List.findIdx?_eq_none_iff.1 hq l h1;rw[h2]at this;cases this
 | some i =>
   obtain⟨h1,h2,_⟩:=List.findIdx?_eq_some_iff_getElem.1 hq;exact⟨i,rfl,h1,by rw[getD_at h1];exact h2⟩
end Sh
end
section
def ydzb(na:ByteArray):RuleT:=⟨na,.bin 41 (.bin 35 (eVar 0) ybcl) (.agg 21 ynq),[(0,.agg 23 ynq)]⟩
def ydvq(nb:ByteArray):RuleT:=⟨nb,.bin 41 (.bin 35 (eVar 0) ybcl) (.agg 21 ymy),[(0,.agg 23 ymy)]⟩
def ydsz(nw:ByteArray):RuleT:=⟨nw,.agg 21 ybfh,[(0,ybcl)]⟩
def gAcc(g:Gr)(c:Conf)(v:Nat):Prop:=toP g c v=none/\∃u,adj g v u/\toP g c u=some v
def gPro(g:Gr)(c:Conf)(v:Nat):Prop:=toP g c v=none/\∃u,adj g v u/\toP g c u=none
def gWit(g:Gr)(c:Conf)(v:Nat):Prop:=∃u w,toP g c v=some u/\toP g c u=some w/\w≠v
section
variable {nm np na nb nw:ByteArray}{g:Gr}{c:Conf}{u v s:Nat}
theorem ysj(hg:ybg g)(h:MtC g c)(hv:v<g.ids.length):toP g c v=none↔pAt c v = -1:=by
 have:=(h.row v hv).2;have hvp:v<g.ports.length:=by have:=hg.2.2.1;omega
 unfold toP;constructor
 .intro q
  by_cases q0:0<=pAt c v
  .rw[if_pos ⟨hvp,q0⟩]at q;cases q
  .omega
 .intro q;rw[if_neg (by omega)]
theorem ybal(hg:ybg g)(h:MtC g c)(e:toP g c v=some u):adj g v u:=by
 have hpl:=hg.2.2.1;unfold toP at e
 by_cases q0:v<g.ports.length/\0<=pAt c v
 .have hrow:=(h.row v (by omega)).2
  rw[if_pos q0]at e;have e:=Option.some.inj e;have hk:(pAt c v).toNat<(g.ports.getD v []).length:=by omega
  rw[Sh.getD_at hk]at e;have:=(ydl hg (by omega) (zI hk)).2.2.1
  rwa [e]at this
 .rw[if_neg q0]at e;cases e
theorem ycaf(f:Int×Int->Bool)(x:Ex)(hx:∀q:Nat,q<(g.ports.getD v []).length->ydr g c v x q=ybz (f (ybt g v q))):ydr g c v (.agg 21 x) (-1)=ybz ((g.ports.getD v []).any f):=by
 rw[<-yxc];show yhv 21 _=_;congr 1;exact ybch g v _ _ fun q hq=>hx q hq
theorem ybof(f:Int×Int->Bool)(x:Ex)(hx:∀q:Nat,q<(g.ports.getD v []).length->ydr g c v x q=ybz (f (ybt g v q))):ydr g c v (.agg 23 x) (-1)=ybew f (g.ports.getD v []):=by
 rw[<-yym];show yhv 23 _=_;unfold yhv;rw[if_neg (by decide),if_neg (by decide),if_neg (by decide),if_pos rfl]
 congr 1;exact ybch g v _ _ fun q hq=>hx q hq
theorem ybdh{q:Nat}:ydr g c v ymy q=ybz (yqg c (ybt g v q)):=rfl
theorem ybol(hg:ybg g)(h:MtC g c)(hv:v<g.ports.length):(g.ports.getD v []).any (yqz g c v)=true↔∃u,adj g v u/\toP g c u=some v:=by
 rw[zQ];constructor
 .rintro⟨l,hl,hb⟩;exact⟨_,(ydl hg hv hl).2.2.1,(yss hg h hv hl).1 hb⟩
 .rintro⟨u,hu,e⟩;obtain⟨l,hl,el⟩:=yto hu;exact⟨l,hl,(yss hg h hv hl).2 (by rw[el];exact e)⟩
theorem ybns(hg:ybg g)(h:MtC g c)(hv:v<g.ports.length):(g.ports.getD v []).any (yqg c)=true↔∃u,adj g v u/\toP g c u=none:=by
 rw[zQ];constructor
 .rintro⟨l,hl,hb⟩;exact⟨_,(ydl hg hv hl).2.2.1,(ysc hg h hv hl).1 hb⟩
 .rintro⟨u,hu,e⟩;obtain⟨l,hl,el⟩:=yto hu;exact⟨l,hl,(ysc hg h hv hl).2 (by rw[el];exact e)⟩
def yben(g:Gr)(c:Conf)(v q:Nat):Bool:=(((q:Int)==pAt c v)&&(endP c 0 (ybt g v q) != -1))&&(endP c 0 (ybt g v q)!=yig (g.ports.getD (ybt g v q).1.toNat []) v)
theorem ydjx(hv:v<g.ports.length){q:Nat}(hq:q<(g.ports.getD v []).length):ydr g c v ybfh q=ybz (yben g c v q):=by
 have b41:∀a b:Bool,binP 41 (ybz a) (ybz b)=ybz (a&&b):=fun a b=>by cases a<;>cases b<;>rfl
 have b36:∀a b:Int,binP 36 a b=ybz (a != b):=fun a b=>rfl;have b35:∀a b:Int,binP 35 a b=ybz (a==b):=fun a b=>rfl;show binP 41 (binP 41 (binP 35 (q:Int) (pAt c v)) (binP 36 (endP c 0 (ybt g v q)) (-1))) (binP 36 (endP c 0 (ybt g v q)) (ydr g c v (.leaf 17 0) q))=_;rw[ybxs hv hq,b35,b36,b36,b41,b41];rfl
theorem ydcm(hg:ybg g)(h:MtC g c)(hv:v<g.ids.length):ydr g c v (.agg 21 ybfh) (-1)=ybz ((zN (g.ports.getD v []).length).any (yben g c v)):=by
 have hpl:=hg.2.2.1;rw[<-yxc];show yhv 21 _=_;congr 1;refine List.map_congr_left fun q hq=>?_;exact ydjx (by omega) (List.mem_range.1 hq)
theorem ycil(hg:ybg g)(h:MtC g c)(hv:v<g.ids.length):(zN (g.ports.getD v []).length).any (yben g c v)=true↔gWit g c v:=by
 have hpl:=hg.2.2.1;have hrow:=(h.row v hv).2
 have key:∀q:Nat,q<(g.ports.getD v []).length->(yben g c v q=true↔(q:Int)=pAt c v/\toP g c (ybt g v q).1.toNat≠none/\toP g c (ybt g v q).1.toNat≠some v):=fun q hq=>by
  have hm:ybt g v q∈g.ports.getD v []:=by
   unfold ybt;rw[Sh.getD_at hq];exact zI hq
  have i1:=yss hg h (by omega) hm
  have i2:=ysc hg h (by omega) hm
  unfold yben;rw[zY,zY,beq_iff_eq,bne_iff_ne,bne_iff_ne];unfold yqz at i1;unfold yqg at i2;rw[beq_iff_eq]at i1 i2;constructor
  .rintro⟨⟨a,b⟩,d⟩;exact⟨a,fun e=>b (i2.2 e),fun e=>d (i1.2 e)⟩
  .rintro⟨a,b,d⟩;exact⟨⟨a,fun e=>b (i2.1 e)⟩,fun e=>d (i1.1 e)⟩
 have at_:∀q:Nat,(q:Int)=pAt c v->toP g c v=some (ybt g v q).1.toNat:=fun q e=>by
  unfold toP ybt;rw[if_pos ⟨by omega,by omega⟩,<-e,zT]
 rw[zQ];constructor
 .rintro⟨q,hq,hl⟩;obtain⟨a,b,d⟩:=(key q (List.mem_range.1 hq)).1 hl;cases e:toP g c (ybt g v q).1.toNat with
  |none=>exact absurd e b
  |some w=>exact⟨(ybt g v q).1.toNat,w,at_ q a,e,fun r=>d (by rw[e,r])⟩
 .rintro⟨u,w,h1,h2,h3⟩
  have q0:0<=pAt c v:=by
   refine zAS fun r=>?_;unfold toP at h1;rw[if_neg (fun t=>r t.2)]at h1;cases h1
  obtain⟨q,hq⟩:=zH q0;have hl:q<(g.ports.getD v []).length:=by omega
  have e:=at_ q hq.symm;rw[h1]at e;have e:=Option.some.inj e;exact⟨q,List.mem_range.2 hl,(key q hl).2 ⟨hq.symm,(fun r=>by rw[<-e,h2]at r;cases r),fun r=>by rw[<-e,h2]at r;exact h3 (Option.some.inj r)⟩⟩
theorem ybyw(hg:ybg g)(h:MtC g c)(hv:v<g.ids.length):(yka g c v (ydzb na)=true↔gAcc g c v)/\(yka g c v (ydvq nb)=true↔gPro g c v)/\(yka g c v (ydsz nw)=true↔gWit g c v):=by
 have hvp:v<g.ports.length:=by have:=hg.2.2.1;omega
 have b35:∀a b:Int,binP 35 a b=ybz (a==b):=fun a b=>rfl;have b41:∀a b:Bool,binP 41 (ybz a) (ybz b)=ybz (a&&b):=fun a b=>by cases a<;>cases b<;>rfl
 refine⟨?_,?_,?_⟩
 .show(binP 41 (binP 35 (pAt c v) (-1)) (ydr g c v (.agg 21 ynq) (-1))!=0)=true↔_;rw[ycaf (yqz g c v) ynq (fun q hq=>ybek hvp hq),b35,b41,ytw,zY,beq_iff_eq,ybol hg h hvp,<-ysj hg h hv];exact zAV
 .show(binP 41 (binP 35 (pAt c v) (-1)) (ydr g c v (.agg 21 ymy) (-1))!=0)=true↔_;rw[ycaf (yqg c) ymy (fun q hq=>ybdh),b35,b41,ytw,zY,beq_iff_eq,ybns hg h hvp,<-ysj hg h hv];exact zAV
 .show(ydr g c v (.agg 21 ybfh) (-1)!=0)=true↔_;rw[ydcm hg h hv,ytw];exact ycil hg h hv
def ybxw(g:Gr)(c:Conf)(v:Nat):Prop:=gAcc g c v\/gPro g c v\/gWit g c v
theorem ycbi(hg:ybg g)(h:MtC g c)(hv:v<g.ids.length) :
 (gAcc g c v->ydy (ybs nm np na nb nw) g c v=0)/\(¬gAcc g c v->gPro g c v->ydy (ybs nm np na nb nw) g c v=1) /\
 (¬gAcc g c v->¬gPro g c v->gWit g c v->ydy (ybs nm np na nb nw) g c v=2)/\(¬ybxw g c v->ydy (ybs nm np na nb nw) g c v = -1):=by
 obtain⟨h1,h2,h3⟩:=ybyw (na:=na) (nb:=nb) (nw:=nw) hg h hv;have e:ydy (ybs nm np na nb nw) g c v=(match [ydzb na,ydvq nb,ydsz nw].findIdx? (yka g c v)with|some k=>(k:Int)|none=>-1):=rfl
 rw[e];simp only[List.findIdx?_cons,List.findIdx?_nil];refine⟨fun q=>?_,fun q r=>?_,fun q r t=>?_,fun q=>?_⟩
 .rw[h1.2 q];rfl
 .rw[Bool.eq_false_iff.2 fun e=>q (h1.1 e),h2.2 r];rfl
 .rw[Bool.eq_false_iff.2 fun e=>q (h1.1 e),Bool.eq_false_iff.2 fun e=>r (h2.1 e),h3.2 t];rfl
 .rw[Bool.eq_false_iff.2 fun e=>q (.inl (h1.1 e)),Bool.eq_false_iff.2 fun e=>q (.inr (.inl (h2.1 e))),Bool.eq_false_iff.2 fun e=>q (.inr (.inr (h3.1 e)))];rfl
theorem ydgl(hg:ybg g)(h:MtC g c)(hv:v<g.ids.length):(ybj (ybs nm np na nb nw) g c).testBit v=true↔ybxw g c v:=by
 obtain⟨r1,r2,r3,r4⟩:=ycbi (nm:=nm) (np:=np) (na:=na) (nb:=nb) (nw:=nw) hg h hv;unfold ybj;rw[yod,decide_eq_true hv,zAR,decide_eq_true_iff]
 by_cases q1:gAcc g c v
 .rw[r1 q1];exact⟨fun _=>.inl q1,fun _=>by omega⟩
 .by_cases q2:gPro g c v
  .rw[r2 q1 q2];exact⟨fun _=>.inr (.inl q2),fun _=>by omega⟩
  .by_cases q3:gWit g c v
   .rw[r3 q1 q2 q3];exact⟨fun _=>.inr (.inr q3),fun _=>by omega⟩
   .have:¬ybxw g c v:=fun h=>by rcases h with h|h|h<;>contradiction
    rw[r4 this];exact⟨fun h=>by omega,fun h=>absurd h this⟩
theorem ydej(h:MtC g c)(hv:v<g.ids.length)(hb:s.testBit v=false):toP g (ydm (ybs nm np na nb nw) g c s) v=toP g c v:=by
 unfold toP pAt;rw[Sh.ynf _ g c s (by rw[h.len];exact hv),hb]
 rfl
theorem yeaf(hg:ybg g)(h:MtC g c)(hv:v<g.ids.length)(hb:s.testBit v=true)(ha:ybxw g c v):Mv g (toP g c) v (toP g (ydm (ybs nm np na nb nw) g c s) v):=by
 have hpl:=hg.2.2.1;have hvp:v<g.ports.length:=by omega
 obtain⟨r1,r2,r3,_⟩:=ycbi (nm:=nm) (np:=np) (na:=na) (nb:=nb) (nw:=nw) hg h hv
 obtain⟨x,hx⟩:∃x,c.getD v []=[x]:=by
  have:=(h.row v hv).1
  match hq:c.getD v [],this with
  |[x],_=>exact⟨x,rfl⟩
 have st:=Sh.ynf (ybs nm np na nb nw) g c s (v:=v) (by rw[h.len];exact hv)
 rw[hb,if_pos rfl]at st
 have at_:∀k:Nat,(ydm (ybs nm np na nb nw) g c s).getD v []=[(k:Int)]->toP g (ydm (ybs nm np na nb nw) g c s) v=some (ybt g v k).1.toNat:=fun k e=>by
  unfold toP pAt;rw[e];show(if v<g.ports.length/\0<=(k:Int)then some ((g.ports.getD v []).getD (k:Int).toNat (0,0)).1.toNat else none)=_
  rw[if_pos ⟨hvp,by omega⟩,zT]
  rfl
 have bring:∀k:Int,-1<=k->k<(g.ports.getD v []).length->yiz 3 (ybm g v ⟨np,3,0,0,0,0⟩) k=k:=fun k h1 h2=>by
  unfold yiz;rw[bT3];simp only
  first
   |rw[if_pos (by omega)]
   |(split<;>first|rfl|omega)
 by_cases q1:gAcc g c v
 .obtain⟨k,e1,e2,e3⟩:=Sh.ytm (f:=yqz g c v) (ls:=g.ports.getD v []) (by
   have:=(ybol hg h hvp).2 q1.2
   rwa [zQ]at this)
  have hm:ybt g v k∈g.ports.getD v []:=by
   unfold ybt;rw[Sh.getD_at e2];exact zI e2
  rw[r1 q1]at st
  have:(ydm (ybs nm np na nb nw) g c s).getD v []=[(k:Int)]:=by
   rw[st];unfold yis yop;rw[hx];show[yiz 3 (ybm g v ⟨np,3,0,0,0,0⟩) (ydr g c v (.agg 23 ynq) (-1))]=_;rw[ybof (yqz g c v) ynq (fun q hq=>ybek hvp hq),e1,bring _ (by omega) (by omega)]
  rw[at_ k this];exact .accept _ q1.1 (ydl hg hvp hm).2.2.1 ((yss hg h hvp hm).1 e3)
 .by_cases q2:gPro g c v
  .obtain⟨k,e1,e2,e3⟩:=Sh.ytm (f:=yqg c) (ls:=g.ports.getD v []) (by
    have:=(ybns hg h hvp).2 q2.2
    rwa [zQ]at this)
   have hm:ybt g v k∈g.ports.getD v []:=by
    unfold ybt;rw[Sh.getD_at e2];exact zI e2
   rw[r2 q1 q2]at st
   have:(ydm (ybs nm np na nb nw) g c s).getD v []=[(k:Int)]:=by
    rw[st];unfold yis yop;rw[hx];show[yiz 3 (ybm g v ⟨np,3,0,0,0,0⟩) (ydr g c v (.agg 23 ymy) (-1))]=_;rw[ybof (yqg c) ymy (fun q hq=>ybdh),e1,bring _ (by omega) (by omega)]
   rw[at_ k this];exact .propose _ q2.1 (ydl hg hvp hm).2.2.1 ((ysc hg h hvp hm).1 e3) fun x hx e=>q1 ⟨q2.1,x,hx,e⟩
  .have q3:gWit g c v:=by rcases ha with q|q|q<;>first|exact q|contradiction
   rw[r3 q1 q2 q3]at st
   have:(ydm (ybs nm np na nb nw) g c s).getD v []=[-1]:=by
    rw[st];unfold yis yop;rw[hx];show[yiz 3 (ybm g v ⟨np,3,0,0,0,0⟩) (-1)]=_;rw[bring _ (by omega) (by omega)]
   have e:toP g (ydm (ybs nm np na nb nw) g c s) v=none:=by
    unfold toP pAt;rw[this];exact if_neg fun r=>absurd r.2 (by decide)
   rw[e];obtain⟨u,w,h1,h2,h3⟩:=q3;exact .withdraw u w h1 h2 h3
end
end
section
section
variable {nm np na nb nw:ByteArray}{g:Gr}{c:Conf}{u v s:Nat}
theorem ybgp(hg:ybg g):Sh.ybgc (ybs nm np na nb nw) g=true:=by
 have h1:=hg.1;have h2:=hg.2.1;have h3:=hg.2.2.1;simp[Sh.ybgc,ybs,ybm]
 try omega
theorem ydns:(ybs nm np na nb nw).ok=true:=by kernel_rfl
theorem ycfk(hg:ybg g):∀u,¬adj g u u:=fun u h=>by
 obtain⟨hu,_⟩:=hg.adj_lt h;obtain⟨l,hl,e⟩:=yhj.1 h;have e3:g.ports[u]?=some (g.ports.getD u []):=by simp[zZ,hu]
 exact(hg.link e3 hl).2.2.1 e
def yyg(g:Gr)(s:Nat):List Nat:=(zN g.ids.length).filter s.testBit
theorem ybjx{α:Type}(f:α->Bool)(l:List α)(x:α):((l++[x]).filter f).length=(l.filter f).length+(f x).toNat:=by
 rw[zAM,zL];cases h:f x<;>simp[h]
theorem yrd(s:Nat):∀n,yfk s n=((zN n).filter s.testBit).length
 |0=>rfl
 | n+1=>by
   rw[zAF,ybjx,<-yrd s n];rfl
theorem yxb{s n:Nat}(h:s<2^n):∀d,yfk s (n+d)=yfk s n
 |0=>rfl
 | d+1=>by
   show yfk s (n+d)+(s.testBit (n+d)).toNat=_;rw[yxb h d,zV (zAC h (zAB (by omega) (by omega)))]
   rfl
theorem ycal(hg:ybg g)(hv:¬v<g.ids.length):toP g c v=none:=by
 have:=hg.2.2.1;unfold toP;rw[if_neg (fun r=>hv (by omega))]
theorem ycru(hg:ybg g)(h:MtC g c):toP g (ydm (ybs nm np na nb nw) g c s)=fun x=>if x∈yyg g s then toP g (ydm (ybs nm np na nb nw) g c s) x else toP g c x:=by
 funext x
 by_cases q:x∈yyg g s
 .rw[if_pos q]
 .rw[if_neg q]
  by_cases hx:x<g.ids.length
  .refine ydej h hx ?_;cases hb:s.testBit x with
   |false=>rfl
   |true=>exact absurd (List.mem_filter.2 ⟨List.mem_range.2 hx,hb⟩) q
  .rw[ycal hg hx,ycal hg hx]
theorem ybql(hg:ybg g)(hs:s<2^g.ids.length):popP s=(yyg g s).length:=by
 have h2:=hg.2.1;have h3:=hg.2.2.1;unfold yyg;rw[<-yrd];show yfk s 32=_;have:32=g.ids.length+(32-g.ids.length):=by omega
 rw[this,yxb hs]
structure MtJ(nm np na nb nw:ByteArray)(g:Gr)(c:Conf)(k:Cnt):Prop where
 valid:yfs (ybs nm np na nb nw) g c=true
 moves:∃I,PtI g (toP g c) I/\2*k.moves+potN g (toP g c) I<=2*g.ports.length+2*yfg g
theorem ybid{a b n:Nat}(h:subB a b)(hb:b<2^n):a<2^n:=by
 refine Nat.lt_pow_two_of_testBit _ fun i hi=>?_;cases q:a.testBit i with
 |false=>rfl
 | true =>
   have:=h i q;rw[zV (zAC hb (zAB (by omega) hi))]at this
   cases this
theorem ydef(hg:ybg g){I:Nat->Prop}(hV:yfs (ybs nm np na nb nw) g c=true)(hi:PtI g (toP g c) I)(hs:subB s (ybj (ybs nm np na nb nw) g c))(hD:ybda g s) :
 ∃I',PtI g (toP g (ydm (ybs nm np na nb nw) g c s)) I'/\potN g (toP g (ydm (ybs nm np na nb nw) g c s)) I'+2*popP s<=potN g (toP g c) I:=by
 have hpl:=hg.2.2.1;have h:=ybav hV;have bit:∀v∈yyg g s,v<g.ids.length/\s.testBit v=true:=fun v hv=>⟨List.mem_range.1 (List.mem_filter.1 hv).1,(List.mem_filter.1 hv).2⟩
 obtain⟨I',h1,h2⟩:=ybdt hg (toP g (ydm (ybs nm np na nb nw) g c s)) (yyg g s) (toP g c) I hi (List.nodup_range.filter _) (fun v hv=>by have:=(bit v hv).1;omega)
  (fun v hv w hw ha=>by have:=hD v w ha (bit v hv).2;rw[(bit w hw).2]at this;cases this)
  (fun v hv=>yeaf hg h (bit v hv).1 (bit v hv).2 ((ydgl hg h (bit v hv).1).1 (hs v (bit v hv).2)))
 refine⟨I',?_,?_⟩
 .rw[ycru hg h];exact h1
 .rw[ybql hg (ybid hs (Sh.ype _ g c)),ycru hg h];exact h2
theorem ybat{k:Cnt}(hJ:MtJ nm np na nb nw g c k):k.moves<=g.ports.length+yfg g:=by
 obtain⟨I,_,h⟩:=hJ.moves;omega
def yzw(g:Gr)(c:Conf):Prop:=(∀v u,toP g c v=some u->toP g c u=some v)/\∀v u,adj g v u->toP g c v=none->toP g c u≠none
theorem ybfy(hg:ybg g)(h:MtC g c):(∀v,v<g.ids.length->¬ybxw g c v)↔yzw g c:=by
 have hpl:=hg.2.2.1;constructor
 .intro ha;refine⟨fun v u e=>?_,fun v u hu e1 e2=>?_⟩
  .have had:=ybal hg h e;obtain⟨hv,hu⟩:=hg.adj_lt had;cases q:toP g c u with
   |none=>exact absurd (.inl ⟨q,v,hg.adj_symm had,e⟩) (ha u (by omega))
   | some w =>
     by_cases r:w=v
     .rw[r]
     .exact absurd (.inr (.inr ⟨u,w,e,q,r⟩)) (ha v (by omega))
  .obtain⟨hv,_⟩:=hg.adj_lt hu;exact ha v (by omega) (.inr (.inl ⟨e1,u,hu,e2⟩))
 .rintro⟨h1,h2⟩ v hv (⟨q,u,hu,e⟩|⟨q,u,hu,e⟩|⟨u,w,e1,e2,e3⟩)
  .have:=h1 u v e;rw[q]at this;cases this
  .exact h2 v u hu q e
  .have:=h1 v u e1;rw[e2]at this;exact e3 (Option.some.inj this)
theorem ychh(hg:ybg g)(h:MtC g c):ybj (ybs nm np na nb nw) g c=0↔yzw g c:=by
 rw[<-ybfy hg h];constructor
 .intro he v hv hq;have:=(ydgl (nm:=nm) (np:=np) (na:=na) (nb:=nb) (nw:=nw) hg h hv).2 hq;rw[he]at this;simp at this
 .intro ha;rw[ygx];intro i
  by_cases hi:i<g.ids.length
  .cases q:(ybj (ybs nm np na nb nw) g c).testBit i with
   |false=>rfl
   |true=>exact absurd ((ydgl hg h hi).1 q) (ha i hi)
  .exact zV (zAC (Sh.ype _ g c) (zAB (by omega) (by omega)))
end
end
section
def mtT(g:Gr)(c:Conf)(v:Nat):Int:=(yyy g c 0).getD v (-1)
section
variable {g:Gr}{c:Conf}{u v:Nat}
theorem ycbl(hg:ybg g)(h:MtC g c)(hv:v<g.ids.length):(∀u,toP g c v=some u->mtT g c v=(u:Int))/\(toP g c v=none->mtT g c v = -1):=by
 have hpl:=hg.2.2.1;have hlt:v<c.length:=by rw[h.len];exact hv
 have hs:c[v]?=some (c.getD v []):=by simp[zZ,hlt]
 have hrow:=(h.row v hv).2
 have e:mtT g c v=portOf g v (pAt c v):=by
  unfold mtT;rw[zAE,ybev g c 0 v _ hs];rfl
 rw[e];constructor
 .intro u hu;unfold toP at hu
  by_cases q:v<g.ports.length/\0<=pAt c v
  .rw[if_pos q]at hu;have hu:=Option.some.inj hu;have hk:(pAt c v).toNat<(g.ports.getD v []).length:=by omega
   have hm:=ydl hg q.1 (zI hk);rw[Sh.getD_at hk]at hu;unfold portOf
   first
    |(rw[if_pos (by omega),Sh.getD_at hk];omega)
    |(rw[if_neg (by omega),Sh.getD_at hk];omega)
    |(simp only[Sh.getD_at hk];split<;>omega)
  .rw[if_neg q]at hu;cases hu
 .intro hn;rw[(ysj hg h hv).1 hn];rfl
theorem ytk(hg:ybg g)(h:MtC g c)(hv:v<g.ids.length):mtT g c v<0↔toP g c v=none:=by
 obtain⟨h1,h2⟩:=ycbl hg h hv;cases e:toP g c v with
 |none=>rw[h2 e];exact⟨fun _=>rfl,fun _=>by decide⟩
 |some u=>rw[h1 u e];exact⟨fun q=>by omega,fun q=>nomatch q⟩
theorem ytg(hg:ybg g)(h:MtC g c)(hv:v<g.ids.length):mtT g c v=(u:Int)↔toP g c v=some u:=by
 obtain⟨h1,h2⟩:=ycbl hg h hv;cases e:toP g c v with
 |none=>rw[h2 e];exact⟨fun q=>by omega,fun q=>nomatch q⟩
 |some w=>rw[h1 w e];exact⟨fun q=>by rw[show w=u by omega],fun q=>by rw[Option.some.inj q]⟩
theorem ychq(hg:ybg g)(h:MtC g c):((∀v,v<g.ids.length->0<=mtT g c v->mtT g c (mtT g c v).toNat=(v:Int))/\∀v l,v<g.ids.length->l∈g.ports.getD v []->¬(mtT g c v<0/\mtT g c l.1.toNat<0))↔yzw g c:=by
 have hpl:=hg.2.2.1
 have inside:∀{v u},toP g c v=some u->v<g.ids.length/\u<g.ids.length:=fun {v u} e=>by
  obtain⟨a,b⟩:=hg.adj_lt (ybal hg h e);omega
 constructor
 .rintro⟨h1,h2⟩;refine⟨fun v u e=>?_,fun v u hu e1 e2=>?_⟩
  .obtain⟨hv,hu⟩:=inside e;have ev:=(ytg hg h hv).2 e;have:=h1 v hv (by omega)
   rw[ev,zT]at this;exact(ytg hg h hu).1 this
  .obtain⟨hv,hul⟩:=hg.adj_lt hu;obtain⟨l,hl,el⟩:=yto hu;refine h2 v l (by omega) hl ⟨(ytk hg h (by omega)).2 e1,?_⟩
   rw[el];exact(ytk hg h (by omega)).2 e2
 .rintro⟨h1,h2⟩;refine⟨fun v hv h0=>?_,fun v l hv hl ⟨q1,q2⟩=>?_⟩
  .cases e:toP g c v with
   |none=>have:=(ytk hg h hv).2 e;omega
   | some u =>
     rw[(ytg hg h hv).2 e,zT];exact(ytg hg h (inside e).2).2 (h1 v u e)
  .obtain⟨_,a2,a3,_⟩:=ydl hg (by omega) hl
   exact h2 v _ a3 ((ytk hg h hv).1 q1) ((ytk hg h (by omega)).1 q2)
end
end
section
section
variable {g:Gr}{t u v:Nat}
end
end
section
section
variable {g:Gr}{a b u v w x:Nat}
end
end
section
section
variable {g:Gr}{t u v a:Nat}
end
end
section
section
variable {g:Gr}{t:Nat}
theorem ybii(g:Gr):yfg g=((zN g.ports.length).map fun v=>(g.ports.getD v []).length).sum:=by
 unfold yfg;congr 1;refine List.ext_getElem (by simp) fun i h1 h2=>?_
 simp at h1;simp[zZ,h1]
end
end
section
def sumTo(f:Nat->Nat):Nat->Nat
 |0=>0
 |n+1=>sumTo f n+f n
theorem ybga(f h:Nat->Nat):∀n,sumTo (fun v=>f v+h v) n=sumTo f n+sumTo h n
 |0=>rfl
 | n+1=>by
   have:=ybga f h n;show sumTo (fun v=>f v+h v) n+(f n+h n)=(sumTo f n+f n)+(sumTo h n+h n);omega
theorem sumTo_congr{f h:Nat->Nat}:∀n,(∀v,v<n->f v=h v)->sumTo f n=sumTo h n
 |0,_=>rfl
 | n+1,e=>by
   show sumTo f n+f n=sumTo h n+h n;rw[sumTo_congr n fun v hv=>e v (by omega),e n (by omega)]
theorem yboa(a:Nat->Nat->Nat):∀n,(∀u v,u<n->v<n->a u v=a v u)->(∀v,v<n->a v v=0)->sumTo (fun v=>sumTo (a v) n) n%2=0
 |0,_,_=>rfl
 | n+1,hs,h0=>by
   have ih:=yboa a n (fun u v hu hv=>hs u v (by omega) (by omega)) fun v hv=>h0 v (by omega)
   have e1:sumTo (fun v=>sumTo (a v) (n+1)) n=sumTo (fun v=>sumTo (a v) n) n+sumTo (fun v=>a v n) n:=ybga (fun v=>sumTo (a v) n) (fun v=>a v n) n;have e2:sumTo (fun v=>a v n) n=sumTo (a n) n:=sumTo_congr n fun v hv=>hs v n (by omega) (by omega)
   have e3:=h0 n (by omega)
   show(sumTo (fun v=>sumTo (a v) (n+1)) n+(sumTo (a n) n+a n n))%2=0;omega
theorem yqv(p:Nat->Bool):∀n,sumTo (fun v=>(p v).toNat) n=((zN n).filter p).length
 |0=>rfl
 | n+1=>by
   rw[zAF,zAM,zL,<-yqv p n];show _+(p n).toNat=_;cases h:p n<;>simp[List.filter,h]
theorem yuw(f:Nat->Nat):∀n,((zN n).map f).sum=sumTo f n
 |0=>rfl
 |n+1=>by rw[zAF,List.map_append,List.sum_append,yuw f n];simp[sumTo]
def adjB(g:Gr)(v u:Nat):Bool:=(g.ports.getD v []).any fun l=>l.1==(u:Int)
theorem ynm{g:Gr}{u v:Nat}:adjB g v u=true↔adj g v u:=by
 unfold adjB;rw[zQ,yhj];exact⟨fun⟨l,h,e⟩=>⟨l,h,beq_iff_eq.1 e⟩,fun⟨l,h,e⟩=>⟨l,h,beq_iff_eq.2 e⟩⟩
theorem ycec{g:Gr}(hg:ybg g){v:Nat}(hv:v<g.ports.length):(g.ports.getD v []).length=sumTo (fun u=>(adjB g v u).toNat) g.ports.length:=by
 rw[yqv]
 have hn:((g.ports.getD v []).map (·.1)).Nodup:=by
  have h:=(hg.2.2.2.2.2.1 ⟨v,hv⟩).2;have e0:g.ports[v]=g.ports.getD v []:=by rw[Sh.getD_at hv]
  have h:((g.ports[v]).map (·.1)).Nodup:=h
  rwa [e0]at h
 refine Nat.le_antisymm ?_ ?_
 .have:=yhl hn (l2:=((zN g.ports.length).filter (adjB g v)).map fun j:Nat=>(j:Int)) fun x hx=>by
   obtain⟨l,hl,rfl⟩:=List.mem_map.1 hx;obtain⟨h1,h2,h3,_⟩:=ydl hg hv hl;exact List.mem_map.2 ⟨l.1.toNat,List.mem_filter.2 ⟨List.mem_range.2 h2,ynm.2 h3⟩,by omega⟩
  simpa using this
 .have:=yhl (l1:=(zN g.ports.length).filter (adjB g v)) (l2:=(g.ports.getD v []).map fun l=>l.1.toNat) (List.nodup_range.filter _) fun u hu=>by
   obtain⟨l,hl,e⟩:=yto (ynm.1 (List.mem_filter.1 hu).2);exact List.mem_map.2 ⟨l,hl,e⟩
  simpa using this
theorem ybpw{g:Gr}(hg:ybg g):yfg g%2=0:=by
 have e:yfg g=sumTo (fun v=>sumTo (fun u=>(adjB g v u).toNat) g.ports.length) g.ports.length:=by
  rw[ybii,yuw];exact sumTo_congr _ fun v hv=>ycec hg hv
 rw[e];refine yboa _ _ (fun u v _ _=>?_) fun v _=>?_
 .have:adjB g u v=adjB g v u:=by
   rw[Bool.eq_iff_iff,ynm,ynm];exact⟨hg.adj_symm,hg.adj_symm⟩
  rw[this]
 .have:adjB g v v=false:=by
   rw[Bool.eq_false_iff];intro h;exact ycfk hg v (ynm.1 h)
  rw[this];rfl
end
section
namespace Sh
open Go Ev
def ycyl:LO:=[o3 (.box 27 (.tmp 0)) 3 0,o3 (.mv (.const (.slice none 0 0))) 6 0]
def yctf:LO:=[mv' 1 10 0,ln' 10 11 1,o3 (.mk 3 1 8 [.i .i64 0] (.tmp 11) (.tmp 11)) 12 3,mv' 12 7 7]
def ycst:LO:=[mv' 1 13 0,ln' 13 14 1,o3 (.mv (ci' 0)) 15 0]
def ybnb:LO:=[bn' .lss 15 14 16 0]
def ybzw:LO:=[mv' 15 17 0,ix' 1 13 15 18 0,ld' false 1 18 19 2,mv' 17 8 7,mv' 19 9 15]
def ybur:LO:=[mv' 7 20 0,mv' 8 21 0,ix' 1 20 21 22 3,o0 (.store 1 (.tmp 22) (.const (.int .i64 (-1)))) 7]
def ybzd:LO:=[mv' 9 23 0,mv' 2 24 0,ix' 1 23 24 25 3,ld' false 1 25 26 7,o3 (.bin .geq (.tmp 26) (ci' 0)) 27 15]
def ycvx:LO:=[mv' 7 28 0,mv' 8 29 0,fa' 1 1 3 30 0,ld' false 1 30 31 4,mv' 8 32 0,ix' 1 31 32 33 28,ld' false 1 33 34 60,mv' 9 35 0,mv' 2 36 0,ix' 1 35 36 37 384,ld' false 1 37 38 896,ix' 2 34 38 39 2044,fa' 0 1 39 40 4092,ld' false 1 40 41 8188,ix' 1 28 29 42 16383,o0 (.store 1 (.tmp 42) (.tmp 41)) 32767]
def ybwy:LO:=[o3 (.bin .add (.tmp 15) (ci' 1)) 43 0,mv' 43 15 1]
def ycpu:LO:=[mv' 7 44 0,mv' 44 6 1]
def c107:SC:=(.seq (.reg false ycyl) (.seq (.reg false yctf) (.seq (.seq (.reg false ycst) (.block 0 (.loop (.seq (.reg false ybnb) (.seq (.cond (.tmp 16) .skip (.exit 0)) (.seq (.block 1 (.seq (.reg false ybzw) (.seq (.reg false ybur) (.seq (.reg false ybzd) (.cond (.tmp 27) (.reg true ycvx) .skip))))) (.reg false ybwy))))))) (.seq (.reg false ycpu) .ret))))
theorem ydhl:Fn 107 c107 [.t 6]:=fn_0 Tryz.func107 (by kernel_rfl) (by kernel_rfl)
end Sh
end
section
namespace Sh
open Ev Go.RowKit
def towP(g:Gr)(c:Conf)(x:Nat):List Int:=mapR c.length fun v=>if (c.getD v []).getD x 0>=0 then((g.ports.getD v []).getD ((c.getD v []).getD x 0).toNat (0,0)).1 else -1
theorem ybml(g:Gr)(c:Conf)(x:Nat):(towP g c x).length=c.length:=yclh _ _
theorem ybjd{g:Gr}{c:Conf}{x v:Nat}(hv:v<c.length):(towP g c x).getD v 0=if (c.getD v []).getD x 0>=0 then((g.ports.getD v []).getD ((c.getD v []).getD x 0).toNat (0,0)).1 else -1:=gmR _ _ _ _ hv
set_option maxHeartbeats 1000000 in
theorem ybjm{g:Gr}{c:Conf}{x:Nat}(hl:c.length<=g.ports.length)(h1:g.ports.length<=1000)(hx:x<=1000)(hc:∀v,v<c.length->x<(c.getD v []).length/\(c.getD v []).getD x 0<(g.ports.getD v []).length) :
 Returns zO 107 [grV g,ycz c,.i .i64 x] (ybc (towP g c x)):=by
 refine Returns.of (ydhl _ _ ?_);obtain⟨n,hn⟩:∃n,c.length=n:=⟨_,rfl⟩;obtain⟨T,hT⟩:∃T,towP g c x=T:=⟨_,rfl⟩;have hTl:T.length=n:=by rw[<-hT,ybml,hn]
 rw[hn]at hl hc;simp only[c107,ycyl,yctf,ycst,grV,ycz,hn,clash,go_sem,zA,zB,zC,↓reduceIte,reduceCtorEq];refine⟨⟨by omega,by omega⟩,?_⟩
 refine ybf (σ:=Nat) (fun k=>⟨[(15,.i .i64 k),(14,.i .i64 n),(13,.sl 1 n fun v=>[ybc (c.getD v [])]),(2,.i .i64 x),(3,.pt (3,0) 0 0),(7,.os (12,0) 0 n true)],[(12,.one (some ⟨3,false,1,n,fun i=>[.i .i64 (if i<k then T.getD i 0 else 0)]⟩)),(3,.one (some ⟨27,true,2,1,fun _=>[ybc g.ids,yu g.ports]⟩))]⟩) (fun k=>k<=n) (fun k=>n-k) 0 (zAG _) ?_ ?_
 .refine yh [] [] [] ?_;simp only[zAA,allQ,live,yc,zX,go_sem,zA,zC,↓reduceIte,reduceCtorEq]
 intro k hk
 by_cases hlt:k<n
 .have t1:decide ((k:Int)<(n:Int))=true:=decide_eq_true (by omega)
  obtain⟨hcx,hcp⟩:=hc k hlt;have hat:=ybjd (g:=g) (x:=x) (show k<c.length by omega)
  rw[hT]at hat
  by_cases hp:(c.getD k []).getD x 0>=0
  .have t2:decide ((c.getD k []).getD x 0>=0)=true:=decide_eq_true hp;rw[if_pos hp]at hat;simp only[ybnb,ybzw,ybur,ybzd,ycvx,ybwy,t1,t2,ybc,yu,ybb,splice,clash,go_sem,zA,zB,zD,↓reduceIte,reduceCtorEq]
   repeat (refine⟨by omega,?_⟩)
   refine⟨ikw (by omega) (by omega),?_⟩
   refine yj (k+1) (by omega) (by omega) ?_
   refine yh [] [] [] ?_;simp only[go_sem,allQ,live,yc,yx,go_sem,zA,zC,↓reduceIte,reduceCtorEq];refine⟨by omega,fun i hi=>?_⟩
   by_cases q:i=k
   .subst q;simp only[if_pos (zAO i),hat];simp only[go_sem,live,yc,go_sem,↓reduceIte,reduceCtorEq]
   .have e:(if i<k+1 then T.getD i 0 else 0)=if i<k then T.getD i 0 else 0:=by
     by_cases q1:i<k
     .rw[if_pos q1,if_pos (by omega)]
     .rw[if_neg q1,if_neg (by omega)]
    simp only[if_neg q,e];simp only[go_sem,live,yc,go_sem,reduceCtorEq]
  .have t2:decide ((c.getD k []).getD x 0>=0)=false:=decide_eq_false hp;rw[if_neg hp]at hat;simp only[ybnb,ybzw,ybur,ybzd,ybwy,t1,t2,ybc,splice,clash,go_sem,zA,zB,↓reduceIte,reduceCtorEq]
   repeat (refine⟨by omega,?_⟩)
   refine⟨ikw (by omega) (by omega),?_⟩
   refine yj (k+1) (by omega) (by omega) ?_
   refine yh [] [] [] ?_;simp only[go_sem,allQ,live,yc,yx,go_sem,zA,zC,↓reduceIte,reduceCtorEq];refine⟨by omega,fun i hi=>?_⟩
   by_cases q:i=k
   .subst q;simp only[if_pos (zAO i),hat];simp only[go_sem,live,yc,go_sem,↓reduceIte,reduceCtorEq]
   .have e:(if i<k+1 then T.getD i 0 else 0)=if i<k then T.getD i 0 else 0:=by
     by_cases q1:i<k
     .rw[if_pos q1,if_pos (by omega)]
     .rw[if_neg q1,if_neg (by omega)]
    simp only[if_neg q,e];simp only[go_sem,live,yc,go_sem,reduceCtorEq]
 .obtain rfl:k=n:=by omega
  have t1:decide ((k:Int)<(k:Int))=false:=decide_eq_false (by omega)
  simp only[ybnb,ycpu,t1,clash,go_sem,zA,zB,↓reduceIte,reduceCtorEq];rw[hT];unfold ybc;rw[hTl];exact ybce fun i hi=>by rw[if_pos hi]
end Sh
end
section
namespace Sh
open Go Ev
end Sh
end
section
namespace Sh
open Ev Go.RowKit
end Sh
end
section
namespace Sh
open Ev Go.RowKit
def clmV(kind:Int)(fair silent:Bool)(rounds moves:Int):List SV:=[.i .i64 kind,.b fair,.b silent,.i .i64 rounds,.i .i64 moves]
theorem ycgp{g:Gr}(hg:ybg g){c:Conf}(hR:ycew c){G:List Int}(hG:∀x∈G,I64 x):Returns zO 89 [grV g,ycz c,ybc G] (.b (yvy g.ports.length (yef g G) c)):=by
 refine ybyg ⟨_,_,Tryz.func89,rfl⟩ (fun _=>.b) (fun _=>.simple rfl) fun H m us hH hr φ M w us' hRl hs hv=>?_
 obtain⟨u,us2,rfl,h1,h2⟩:∃u us2,us=u::us2/\RV H om0 (grV g) u/\RVL H om0 [ycz c,ybc G] us2:=by
  cases hr with|cons x y=>exact⟨_,_,rfl,x,y⟩
 obtain⟨u2,u3,rfl,h3,h4⟩:=rvl2 h2
 obtain⟨u',us3,rfl,h5,h6⟩:∃u' us3,us'=u'::us3/\VR φ u u'/\VRL φ [u2,u3] us3:=by
  cases hv with|cons x y=>exact⟨_,_,rfl,x,y⟩
 obtain⟨u2',u3',rfl,h7,h8⟩:=yzp h6;exact ypc u' u2' u3' g c G w (ydqb hH h1 h5 hRl hs (ydcu hg)) (yddh hH h3 h7 hRl hs hR) (ints_at hH h4 h8 hRl hs hG) hg
end Sh
end
section
namespace Sh
open Ev Go.RowKit
end Sh
end
section
namespace Sh
open Ev Go.RowKit
end Sh
end
section
namespace Sh
open Go Ev Go.RowKit
section
variable {m:Mem}{F:AM}
theorem row_of{z bk p n cp N e zz:Nat}{Tb:Ev.T Value}{L:Nat->List Value}(h1:m.b.get bk=some (.cells Tb N e zz))(h2:0<n)(h3:p+n*z<=N)(h4:∀a,a<n->(L a).length=z)(h5:∀a,a<n->∀j,j<z->Tb.get (p+a*z+j)=(L a)[j]?) :
 rowOf m z (.slice (some ⟨bk,p,none⟩) n cp)=some (ycm L n,[bk]):=by
 have hl:=ycp h4;show(bif zAW n 0 then _ else _)=_;rw[show zAW n 0=false by cases n with|zero=>omega|succ n=>rfl]
 simp only[cond_false];rw[h1];simp only;rw[zS h3];simp only[cond_true]
 have hg:=yhh (T:=Tb) (L:=ycm L n) (o:=p) (fun j hj=>by
  rw[hl]at hj;rcases zAD z with hz|hz
  .subst hz;omega
  .have hd:=Nat.div_add_mod j z;have hm:=Nat.mod_lt j hz;have hk:j/z<n:=Nat.div_lt_of_lt_mul (by rwa [zAT]at hj)
   have e1:j=j/z*z+j%z:=by rw[zAT];exact hd.symm
   rw[e1,ygq h4 _ _ hk hm,<-Nat.add_assoc];exact h5 _ hk _ hm)
 rw[hl]at hg;rw[hg]
theorem row_zero{u:Value}(h:Z0 u)(z:Nat):rowOf m z u=some ([],[]):=by
 rcases h with rfl|⟨b,o,c,rfl⟩
 .rfl
 .rfl
theorem in64{n:Int}(h:I64 n):inI64 n=true:=by
 unfold I64 at h;unfold inI64;split
 .rename_i k;exact zS (by simp only[Int.ofNat_eq_natCast]at h;omega)
 .rename_i k;exact zS (by omega)
theorem yqm{a b:Int}(ha:I64 a)(hb:I64 b):∀{l:List Value}{r:List (Int×Int)},pairsOf l=some r->pairsOf (l++[.int .i64 a,.int .i64 b])=some (r++[(a,b)])
 | [],r,h=>by
   cases h
   show(bif inI64 a&&inI64 b then _ else _)=_;rw[in64 ha,in64 hb];rfl
 | .int .i64 x :: .int .i64 y::l,r,h=>by
   unfold pairsOf at h;split at h
   .rename_i r' hr
    rw[Bool.cond_eq_ite]at h;split at h
    .rename_i hc
     cases h
     show(match pairsOf (l++[.int .i64 a,.int .i64 b])with|some r=>bif inI64 x&&inI64 y then some ((x,y)::r)else none|none=>none)=_
     rw[yqm ha hb hr];simp only[hc,cond_true];rfl
    .cases h
   .cases h
theorem yww(hF:Le F m.b.get){ls:List (Int×Int)}{u:Value}(h:RV F om0 (ybb ls) u)(hI:∀l∈ls,I64 l.1/\I64 l.2):linksOf m u=some ls:=by
 unfold linksOf;rcases h.sl_inv with⟨h0,hz⟩|⟨bk,p,cp,T,N,e,zz,L,rfl,g1,g2,g3,g4,g5,g6,g7⟩
 .rw[row_zero hz];have:ls=[]:=zK h0;subst this;rfl
 .rcases zAD ls.length with h0|h0
  .have:ls=[]:=zK h0;subst this;rfl
  .rw[row_of (hF _ _ g1) h0 g3 g4 g5]
   have:∀n,n<=ls.length->pairsOf (ycm L n)=some (ls.take n):=by
    intro n
    induction n with
    |zero=>intro _;rfl
    | succ n ih =>
      intro hn;have hn':n<ls.length:=by omega
      have hl:=g6 n hn'
      have e1:L n=[.int .i64 ls[n].1,.int .i64 ls[n].2]:=by
       have e0:ls.getD n (0,0)=ls[n]:=by simp[zZ,hn']
       rw[e0]at hl;obtain⟨x,y,e2,hx,hy⟩:=rvl2 hl;rw[e2,hx.int_inv,hy.int_inv]
      show pairsOf (ycm L n++L n)=_;rw[e1,List.take_succ_eq_append_getElem hn'];have:=hI ls[n] (zI hn');exact yqm this.1 this.2 (ih (by omega))
   simp only;rw[this _ (zU _),List.take_length]
theorem ycaq{α β:Type}{f:α->Option β}:∀{l:List α}{r:List β},l.length=r.length->(∀(k:Nat) x y,l[k]?=some x->r[k]?=some y->f x=some y)->mapO f l=some r
 |[],[],_,_=>rfl
 | x::l,y::r,hl,h=>by
   unfold mapO;rw[h 0 x y rfl rfl];simp only;rw[ycaq (by simpa using hl) fun k a b h1 h2=>h (k+1) a b (by simpa using h1) (by simpa using h2)]
 |[],_::_,hl,_=>by simp at hl
 |_::_,[],hl,_=>by simp at hl
theorem ybfq{L:Nat->List Value}{n:Nat}(h:∀a,a<n->(L a).length=1){k:Nat}(hk:k<n):(ycm L n)[k]?=(L k)[0]?:=by
 have:=ygq h k 0 hk (by omega)
 simpa using this
theorem ybpj{ids:SV}{P:List (List (Int×Int))}{u:Value}(h:RV F om0 (.rf [ids,yu P]) u)(hI:∀ls∈P,∀l∈ls,I64 l.1/\I64 l.2) :
 ∃A v us,u = .pointer (some A)/\∀m:Mem,Le F m.b.get->graphOf m A=some ⟨v,us,P⟩:=by
 obtain⟨bk,p,T,N,e,zz,L,rfl,h1,h2,h3,h4,_⟩:=h.rf_inv;cases h4 with
 | cons a0 b0 =>
   cases b0 with
   | cons a1 b1 =>
     rename_i u0 _ u1 _
     cases b1
     have hbox:∀m:Mem,Le F m.b.get->boxPorts m ⟨bk,p,none⟩=some u1:=fun m hF=>by
      unfold boxPorts;simp only;rw[hF _ _ h1];simp only;rw[show Nat.blt (p+1) N=true from zS (show p+1+1<=N by simp at h2;omega)]
      simp only[cond_true];exact h3 1 (by simp)
     have fin:∀(us:List Value) (ft:List Nat),(∀m:Mem,Le F m.b.get->rowOf m 1 u1=some (us,ft))->us.length=P.length->(∀(k:Nat) x y,us[k]?=some x->P[k]?=some y->RV F om0 (ybb y) x) ->
      ∃A v us,Value.pointer (some ⟨bk,p,none⟩) = .pointer (some A)/\∀m:Mem,Le F m.b.get->graphOf m A=some ⟨v,us,P⟩:=fun us ft hr hl hx=>by
      refine⟨_,u1,us,rfl,fun m hF=>?_⟩;unfold graphOf;rw[hbox m hF];show ob (rowOf m 1 u1) _=_;rw[hr m hF];show ob (mapO (linksOf m) us) _=_;rw[ycaq hl fun k x y q1 q2=>yww hF (hx k x y q1 q2) (hI y (List.mem_of_getElem? q2))];rfl
     rcases a1.sl_inv with⟨k0,hz⟩|⟨bk',p',cp,T',N',e',zz',L',rfl,g1,g2,g3,g4,g5,g6,g7⟩
     .have:P=[]:=zK k0;subst this;exact fin [] [] (fun m _=>row_zero hz 1) rfl (fun k x y q _=>by simp at q)
     .rcases zAD P.length with h0|h0
      .have:P=[]:=zK h0;subst this;exact fin [] [] (fun m _=>rfl) rfl (fun k x y q _=>by simp at q)
      .refine fin (ycm L' P.length) [bk'] (fun m hF=>row_of (hF _ _ g1) h0 g3 g4 g5) (by rw[ycp g4,Nat.mul_one]) fun k x y q1 q2=>?_
       have hk:k<P.length:=(List.getElem?_eq_some_iff.1 q2).1;rw[ybfq g4 hk]at q1;have hl:=g6 k hk;have e0:P.getD k []=y:=by simp[zZ,q2]
       rw[e0]at hl;obtain⟨v,e1,hv⟩:=rvl1 hl;rw[e1]at q1;cases q1
       exact hv
end
def ydo(P:List (List (Int×Int)))(k:Nat):El:=(flatAt 0 P).getD k ⟨0,0,0⟩
def ycue(P:List (List (Int×Int))):ItS:=⟨(flatAt 0 P).length,fun k=>[.i .i64 (ydo P k).v,.ag [.i .i64 (ydo P k).a,.i .i64 (ydo P k).b]],[],fun _ _=>True,fun _ o=>o⟩
theorem yckf{ids:SV}{P:List (List (Int×Int))}(hI:∀ls∈P,∀l∈ls,I64 l.1/\I64 l.2):ItC zO 122 [.rf [ids,yu P]] (ycue P):=by
 intro lo F ω s f m us hc hr _;obtain⟨u,rfl,hu⟩:=rvl1 hr
 have hu0:RV F om0 (.rf [ids,yu P]) u:=by
  obtain⟨bk,p,T,N,e,zz,L,rfl,h1,h2,h3,h4,h5⟩:=hu.rf_inv;exact .rf h1 h2 h3 h4 h5
 obtain⟨A,v,vs,rfl,hg⟩:=ybpj hu0 hI;have el0:∀k,k<(flatAt 0 P).length->(flatAt 0 P)[k]?=some (ydo P k):=fun k hk=>by simp[ydo,zZ,hk]
 refine⟨⟨(flatAt 0 P).length,fun k=>[(ydo P k).v0,(ydo P k).v1],fun _ m=>graphOf m A=some ⟨v,vs,P⟩,fun _ m=>m,fun _ _ M w M' w'=>M'=M/\w'=w⟩,⟨ybbh.1,fun k m hk hw _=>Grow.refl hw,?_,?_⟩,rfl,fun F' ω' s' f' m' k hF _ hc' hk _=>⟨hg m' (hF.trans hc'.sub),fun hk=>⟨.cons .i (.cons (.ag (.cons .i (.cons .i .nil))) .nil),hc'⟩⟩⟩
 .rintro k φ M w m M' w' hk hw hR hs hp ⟨rfl,rfl⟩;exact Good.refl hR hs
 .intro l St Stop φ M w cap' hread hgrow hyield h0 hcap;obtain⟨box,rfl,hbox⟩:=ygi hcap;refine CallsIn.mono (ybbh.2 l A ⟨v,vs,P⟩ (fun pre φ' M' w'=>φ.le φ'/\(∃post,flatAt 0 P=pre++post)/\St pre.length φ' M' w') Stop φ M w box ?_ ?_ ?_ ⟨φ.le_refl,⟨_,rfl⟩,h0⟩ hbox) ?_
  .rintro pre φ' M' w' ⟨_,_,hst⟩;exact(hread _ _ _ _ hst).2
  .rintro pre φ' M' w' w'' ⟨h1,h2,hst⟩ hb;exact⟨h1,h2,hgrow _ _ _ _ _ hst hb⟩
  .rintro pre x post φ' M' w' ⟨h1,_,hst⟩ hfl;have hfl:flatAt 0 P=pre++x::post:=hfl;have hk:pre.length<(flatAt 0 P).length:=by rw[hfl];simp
   have ex:ydo P pre.length=x:=by
    have:=el0 _ hk;rw[hfl,List.getElem?_append_right (zU _)]at this
    simpa using this.symm
   obtain⟨fn,tmps,asg,bd,hy1,hy2⟩:=hyield pre.length φ' M' w' [x.v0,x.v1] hk hst (by
    show VRL φ' [(ydo P pre.length).v0,(ydo P pre.length).v1] _;rw[ex];exact .cons (.simple rfl) (.cons (VR.atomA (v:=x.v1) rfl) .nil))
   refine⟨fn,tmps,asg,bd,hy1,hy2.mono ?_⟩
   .rintro e w'' (⟨he,φ'',M'',h3,_,h4⟩|h)
    .refine .inl ⟨he,φ'',M'',h3,Phi.le_trans h1 h3,⟨post,by rw[hfl];simp⟩,?_⟩
     rw[zL];exact h4 M'' w'' ⟨rfl,rfl⟩
    .exact .inr h
  .rintro e w' ⟨h1,(⟨φ',M',_,_,hst⟩|h)⟩
   .exact⟨h1,.inl ⟨φ',M',hst⟩⟩
   .exact⟨h1,.inr h⟩
end Sh
end
section
namespace Sh
open Go Ev
def ydvt:LO:=[o3 (.box 27 (.tmp 0)) 1 0,o3 (.mv (.const (.nilFunc))) 2 0]
def ydyv:LO:=[o3 (.mkfn 122 [] [(.tmp 1)]) 3 0,mv' 3 2 1]
def c53:SC:=(.seq (.reg false ydvt) (.seq (.reg false ydyv) .ret))
theorem ydti:Fn 53 c53 [.t 2]:=fn_0 Tryz.func53 (by kernel_rfl) (by kernel_rfl)
end Sh
end
section
open Ev
theorem ybfa:∀(ps:List (List (Int×Int))) (v:Nat) (x:El),x∈flatAt v ps->v<=x.v/\x.v<v+ps.length/\(x.a,x.b)∈ps.getD (x.v-v) []
 |[],_,_,h=>absurd h zW
 | ls::l,v,x,h=>by
   rcases List.mem_append.1 h with h|h
   .obtain⟨y,hy,rfl⟩:=List.mem_map.1 h;refine⟨zU _,by simp,?_⟩
    simp only[zAK,List.getD_cons_zero];exact hy
   .obtain⟨h1,h2,h3⟩:=ybfa l (v+1) x h;refine⟨by omega,by simp only[List.length_cons];omega,?_⟩
    have e:x.v-v=(x.v-(v+1))+1:=by omega
    rw[e,List.getD_cons_succ];exact h3
theorem ybdj{g:Gr}(hg:ybg g){k:Nat}(hk:k<(flatAt 0 g.ports).length):(Sh.ydo g.ports k).v<g.ports.length/\((Sh.ydo g.ports k).a,(Sh.ydo g.ports k).b)∈g.ports.getD (Sh.ydo g.ports k).v []:=by
 have hm:Sh.ydo g.ports k∈flatAt 0 g.ports:=by unfold Sh.ydo;rw[Sh.getD_at hk];exact zI hk
 obtain⟨_,h2,h3⟩:=ybfa _ _ _ hm;exact⟨by omega,by simpa using h3⟩
theorem ybul{g:Gr}(hg:ybg g):∀ls∈g.ports,∀l∈ls,I64 l.1/\I64 l.2:=fun ls hls l hl=>by
 obtain⟨v,hv,e⟩:=zAJ hls;have h24:=hg.2.1;have:g.ports.getD v []=ls:=by simp[zZ,hv,e]
 obtain⟨h1,h2,_,h4,h5⟩:=ydl hg hv (by rw[this];exact hl)
 exact⟨Sh.yhi (by omega),Sh.yhi (by omega)⟩
end
section
namespace Sh
open Ev Go.RowKit
theorem ycek{g:Gr}:Returns zO 53 [grV g] (.fn 122 [] [.rf [ybc g.ids,yu g.ports]]):=by
 refine Returns.of (ydti _ _ ?_);simp only[c53,ydvt,ydyv,grV,clash,go_sem,zA,zB,zD,zC,↓reduceIte,reduceCtorEq];exact Sim.refl _
end Sh
end
section
section
variable {nm nc nr:ByteArray}{g:Gr}{c:Conf}{u v s:Nat}
end
end
section
namespace Sh
open Go Ev
end Sh
end
section
theorem ychz{ps:List (List (Int×Int))}{v:Nat}{l:Int×Int}(hv:v<ps.length)(hl:l∈ps.getD v []):(⟨v,l.1,l.2⟩:Ev.El)∈Ev.flatAt 0 ps:=by
 have key:∀(ps:List (List (Int×Int))) (b v:Nat),v<ps.length->l∈ps.getD v []->(⟨b+v,l.1,l.2⟩:Ev.El)∈Ev.flatAt b ps:=by
  intro ps
  induction ps with
  |nil=>intro b v h;simp at h
  | cons x ps ih =>
    intro b v h hl;show _∈(x.map fun y=>(⟨b,y.1,y.2⟩:Ev.El))++Ev.flatAt (b+1) ps;rw[List.mem_append];cases v with
    |zero=>exact .inl (List.mem_map.2 ⟨l,hl,rfl⟩)
    | succ v =>
      right
      have:=ih (b+1) v (by simpa using h) hl
      rwa [show b+1+v=b+(v+1)by omega]at this
 have:=key ps 0 v hv hl
 rwa [zM]at this
namespace Sh
open Ev Go.RowKit
end Sh
end
section
section
variable {nm nh nr:ByteArray}{g:Gr}{c:Conf}{v:Nat}
end
end
section
section
variable {nm nh nl nf nd nt ni:ByteArray}{g:Gr}{c:Conf}{u v w:Nat}
open Classical in
end
end
section
section
variable {nm nh nl nf nd nt ni:ByteArray}{g:Gr}{c:Conf}{u v w s:Nat}
end
end
section
section
variable {g:Gr}{u v:Nat}
end
end
section
section
variable {g:Gr}{a b v:Nat}
end
end
end Go.Proofs.YthclbjjgfcgbgaaGreatDoor
