/- Lemmas, joined: SiC SiD SiE SiF SiG Run Syn WmE WmF WmH RnA TrC RnB RnC Pev ScBf RdT ScLd LdB LdC LdV RdA. -/
import Derived.Test.YtiejahgklcjhkaaGreatDoorPkF15
import Derived.Test.YtiejahgklcjhkaaGreatDoorPkF14
import Derived.Test.YtiejahgklcjhkaaGreatDoorPkF12
import Derived.Test.YtiejahgklcjhkaaGreatDoorPkF11
import Derived.Test.YtiejahgklcjhkaaGreatDoorPkF13
set_option linter.unusedSimpArgs false
set_option linter.unusedVariables false
namespace Go.Proofs.YtiejahgklcjhkaaGreatDoor
open Go
def yjg(ls:List (Int × Int))(b:Int):Bool:=ls.any fun l=>decide (l.1=b)
namespace Sh
open Ev Go.RowKit
set_option maxRecDepth 8000
theorem ybkg{ids:List Int}{ports:List (List (Int × Int))}{a b:Nat}(ha:a<ports.length)(hl:(ports.getD a []).length<=100000) :
  Returns Tryz.prog 128 [.ag [intsV ids,portsV ports],.i .i64 a,.i .i64 b] (.b (yjg (ports.getD a []) b)):=by
 refine Returns.of (yczr _ _ ?_);obtain⟨n,hn⟩:∃ n,ports.length=n:=⟨_,rfl⟩;obtain⟨L,hL⟩:∃ L,ports.getD a []=L:=⟨_,rfl⟩;rw[hL]at hl ⊢;obtain⟨m,hm⟩:∃ m,L.length=m:=⟨_,rfl⟩;simp only[c128,ycpn,ycnn,go_sem,Nat.reduceAdd,Nat.reduceLT,↓reduceIte];refine loop_on (σ:=Nat) (fun k=>⟨[(7,.i .i64 k),(3,.pt (3,0) 0 0),(1,.i .i64 a),(2,.i .i64 b)],[(3,.one (some ⟨27,true,2,1,fun _=>[intsV ids,portsV ports]⟩))]⟩) (fun k=>k<=m /\ ∀ j,j<k->(L.getD j (0,0)).1 ≠ b) (fun k=>m - k) 0 ⟨Nat.zero_le _,fun j hj=>absurd hj (Nat.not_lt_zero j)⟩ ?_ ?_
 ·refine weak_all [] [] [] ?_;simp only[go_sem,allQ,live,sim_self,Int.natCast_zero,go_sem,Nat.reduceEqDiff,↓reduceIte,reduceCtorEq]
 ·rintro k ⟨hk,hno⟩;simp only[ycsb,ycqd,ycda,ycfs,ycqb,portsV,yg,hn,hL,hm,go_sem,Nat.reduceEqDiff,Nat.reduceAdd,Nat.reduceLeDiff,↓reduceIte,reduceCtorEq];refine⟨⟨by omega,by omega⟩,fun hlt=>⟨⟨by omega,by omega⟩,⟨by omega,by omega⟩,fun he=>?_,fun hne=>⟨ikw (by omega) (by omega),?_⟩⟩,fun hge=>?_⟩
  ·have hk':k<L.length:=by omega
   have:yjg L b=true:=List.any_eq_true.2 ⟨L[k],List.getElem_mem _,by rw[getD_at hk']at he;exact decide_eq_true he⟩
   rw[this];exact Sim.refl _
  ·refine loop_again (k+1) ⟨by omega,fun j hj=>?_⟩ (by omega) ?_
   ·by_cases q:j=k
    ·rw[q];exact hne
    ·exact hno j (by omega)
   refine weak_all [] [] [] ?_;simp only[allQ,live,sim_self,sim_i,go_sem,Nat.reduceEqDiff,↓reduceIte,reduceCtorEq];omega
  ·have:yjg L b=false:=List.any_eq_false.2 fun l hl he=>by
    obtain⟨j,hj,rfl⟩:=List.getElem_of_mem hl;have:=hno j (by omega)
    rw[getD_at hj]at this;exact this (of_decide_eq_true he)
   rw[this];exact Sim.refl _
end Sh
end Go.Proofs.YtiejahgklcjhkaaGreatDoor

namespace Go.Proofs.YtiejahgklcjhkaaGreatDoor
open Go
structure NetR where
 n:Int
 links:List Int
 weights:List Int
 ids:List Int
 apart:Bool
 back:Bool
def NetR.ok(x:NetR):Prop:=Sh.inK .i64 x.n/\(∀ k,Sh.inK .i64 (x.links.getD k 0))/\(∀ k,Sh.inK .i64 (x.weights.getD k 0))/\(∀ k,Sh.inK .i64 (x.ids.getD k 0))
theorem ybej(a r:Nat)(hr:r<=256):((List.range r).map fun i=>(((a+i) % 256:Nat):Int)).Nodup:=by
 unfold List.Nodup;rw[List.pairwise_map];refine List.Pairwise.imp_of_mem (R:=(· < ·)) (fun {i j} hi hj h=>?_) List.pairwise_lt_range;have hi:=List.mem_range.1 hi;have hj:=List.mem_range.1 hj;intro e;omega
theorem ybff{a r:Nat}{l:List Int}(hr:r<=256)(h:∀ i,i<r->(((a+i) % 256:Nat):Int) ∈ l):r<=l.length:=by
 have:=List.Nodup.length_le_of_subset (ybej a r hr) (l₂:=l) fun x hx=>by
  obtain⟨i,hi,rfl⟩:=List.mem_map.1 hx;exact h i (List.mem_range.1 hi)
 simpa using this
namespace Sh
open Ev Go.RowKit
set_option maxRecDepth 8000
def netC(x:NetR):List SV:=[.i .i64 x.n,intsV x.links,intsV x.weights,intsV x.ids,.b x.apart,.b x.back]
theorem wrap64_in(z:Int):inK .i64 (IntKind.wrap .i64 z):=by
 unfold inK;have e1:IntKind.i64.min = -9223372036854775808:=rfl;have e2:IntKind.i64.max=9223372036854775807:=rfl;have h1:=Int.emod_nonneg z (show(18446744073709551616:Int) ≠ 0 by decide)
 have h2:=Int.emod_lt_of_pos z (show(0:Int)<18446744073709551616 by decide)
 rw[e1,e2]
 have e:IntKind.wrap .i64 z=if z % 18446744073709551616 >= 9223372036854775808 then z % 18446744073709551616 - 18446744073709551616 else z % 18446744073709551616:=by
  show(if (true && decide (z % 18446744073709551616 >= 9223372036854775808))=true then z % 18446744073709551616 - 18446744073709551616 else z % 18446744073709551616)=_
  simp only[Bool.true_and,decide_eq_true_eq]
 rw[e];split<;>omega
theorem nodes_ok{x:NetR}(hx:x.ok){most:Nat}(hm:1<=most/\most<=24) :
  Cm Tryz.prog 75 [] [] [.ag (netC x),.i .i64 most] fun r o=>∃ ids:List Int,(1<=ids.length/\ids.length<=most)/\(∀ y ∈ ids,0<=y/\y<=255)/\ids.Nodup/\r = .ag [intsV ids,.os (17,0) 0 ids.length true] /\
   o = [(17,.one (some ⟨71,false,1,ids.length,fun _=>[.a (.slice none 0 0)]⟩))]:=by
 refine yctu [] [] _ _ _ ?_;obtain⟨hx1,hx2,hx3,hx4⟩:=hx;have hin:=yck (v:=IntKind.wrap .i64 (x.n - 1)) (m:=(most:Int)) (by omega)
 obtain⟨k,hk⟩:∃ k:Nat,ycc (IntKind.wrap .i64 (x.n - 1)) most=k:=Int.eq_ofNat_of_zero_le hin.1;have hW:=ycj (IntKind.wrap .i64 (x.n - 1)) most (by omega) (wrap64_in _)
 rw[hk]at hW hin;obtain⟨n,hn⟩:∃ n:Nat,(1:Int)+(k:Int)=(n:Int):=⟨1+k,by omega⟩
 have hn1:1<=n/\n<=most:=by omega
 simp only[c75,ydew,ydct,netC,go_sem,Nat.reduceEqDiff,Nat.reduceAdd,Nat.reduceLeDiff,Nat.reduceLT,↓reduceIte,reduceCtorEq];refine hW.use ?_;simp only[thenO,ydbb,ydef,hn,clash,go_sem,Nat.reduceEqDiff,Nat.reduceAdd,Nat.reduceLT,↓reduceIte,reduceCtorEq];refine⟨ikw (by omega) (by omega),⟨by omega,by omega,by omega⟩,?_⟩
 refine loop_on (σ:=List Int) (fun l=>⟨[(7,.i .i64 l.length),(5,.i .i64 n),(2,.pt (2,0) 0 0),(6,.pt (6,0) 0 0),(4,.pt (4,0) 0 0)],
   [(2,.one (some ⟨24,true,6,1,fun _=>netC x⟩)),(4,.one (some ⟨27,true,2,1,fun _=>[.a (.slice none 0 0),.a (.slice none 0 0)]⟩)),
    (6,.one (some ⟨27,true,2,1,fun _=>[.os (148,0) 0 l.length true,.os (17,0) 0 n true]⟩)),(17,.one (some ⟨71,false,1,n,fun _=>[.a (.slice none 0 0)]⟩)),
    (148,.one (some ⟨3,false,1,l.length,fun k=>[.i .i64 (l.getD k 0)]⟩))]⟩)
  (fun l=>l.length<=n/\(∀ y ∈ l,0<=y/\y<=255)/\l.Nodup) (fun l=>n - l.length) [] ⟨Nat.zero_le _,fun y hy=>(List.not_mem_nil hy).elim,List.nodup_nil⟩ ?_ ?_
 ·refine weak_all [] [148] [] ?_;simp only[netC,allQ,live,sim_self,Int.natCast_zero,go_sem,Nat.reduceEqDiff,Nat.reduceBEq,↓reduceIte,reduceCtorEq];exact fun i _=>⟨(148,0),rfl,rfl,rfl⟩
 ·rintro l ⟨hl,hl2,hl3⟩;obtain⟨v,hv⟩:∃ v,l.length=v:=⟨_,rfl⟩;rw[hv]at hl;have hA:=at_ret x.ids v;have hi2:=yck (v:=atP x.ids v) (m:=256) (by omega)
  obtain⟨a,ha⟩:∃ a:Nat,ycc (atP x.ids v) 256=a:=Int.eq_ofNat_of_zero_le hi2.1;have hW2:=ycj (atP x.ids v) 256 (by omega) (hx4 v)
  rw[ha]at hW2 hi2;simp only[ydhs,ydaf,yddj,ycns,netC,hv,splice,clash,go_sem,Nat.reduceEqDiff,Nat.reduceAdd,Nat.reduceLeDiff,↓reduceIte,reduceCtorEq];refine⟨fun hlt=>?_,fun hge=>?_⟩
  ·refine hA.use ?_;simp only[thenO,clash,go_sem,Nat.reduceEqDiff,Nat.reduceAdd,↓reduceIte,reduceCtorEq];refine hW2.use ?_
   refine loop_on (σ:=Nat × Nat) (fun q=>⟨[(9,.i .i64 q.2),(8,.i .i64 ((a+q.1) % 256:Nat)),(7,.i .i64 v),(5,.i .i64 n),(2,.pt (2,0) 0 0),(6,.pt (6,0) 0 0),(4,.pt (4,0) 0 0)],
    [(2,.one (some ⟨24,true,6,1,fun _=>netC x⟩)),(4,.one (some ⟨27,true,2,1,fun _=>[.a (.slice none 0 0),.a (.slice none 0 0)]⟩)),
     (6,.one (some ⟨27,true,2,1,fun _=>[.os (148,0) 0 v true,.os (17,0) 0 n true]⟩)),(17,.one (some ⟨71,false,1,n,fun _=>[.a (.slice none 0 0)]⟩)),
     (148,.one (some ⟨3,false,1,v,fun k=>[.i .i64 (l.getD k 0)]⟩))]⟩)
    (fun q=>q.2<=v/\(∀ i,i<q.1->(((a+i) % 256:Nat):Int) ∈ l)/\q.1<=256 /\ ∀ j,j<q.2->l.getD j 0 ≠ (((a+q.1) % 256:Nat):Int)) (fun q=>(v - q.1) * (v+2)+(v - q.2)) (0,0) ⟨Nat.zero_le _,fun i hi=>absurd hi (Nat.not_lt_zero i),by omega,fun j hj=>absurd hj (Nat.not_lt_zero j)⟩ ?_ ?_
   ·refine weak_all [] [] [] ?_;simp only[netC,allQ,live,sim_self,sim_i,Int.natCast_zero,go_sem,Nat.reduceEqDiff,↓reduceIte,reduceCtorEq];rw[Nat.mod_eq_of_lt (by omega)]
   ·rintro⟨r,u⟩ ⟨hu,hr,hr256,hno⟩;obtain⟨b,hb⟩:∃ b,(a+r) % 256=b:=⟨_,rfl⟩;have hb256:b<256:=by omega
    simp only[ydfy,yddu,ycql,ycjx,ycoy,ydcz,netC,hb,splice,clash,go_sem,Nat.reduceEqDiff,Nat.reduceAdd,Nat.reduceLeDiff,Nat.reduceLT,↓reduceIte,reduceCtorEq];have hu:u<=v:=hu;have hr:∀ i,i<r->(((a+i) % 256:Nat):Int) ∈ l:=hr;have hr256:r<=256:=hr256;have hno:∀ j,j<u->l.getD j 0 ≠ (b:Int):=fun j hj=>by rw[<- hb];exact hno j hj
    have hrv:r<=v:=by rw[<- hv];exact ybff hr256 hr
    refine⟨fun hlt2=>⟨⟨by omega,by omega⟩,by omega,fun he=>⟨ikw (by omega) (by omega),by decide,ikw (by omega) (by omega),?_⟩,fun hne=>⟨ikw (by omega) (by omega),?_⟩⟩,fun hge2=>?_⟩
    ·have hmem:(b:Int) ∈ l:=by
      rw[<- he,getD_at (show u<l.length by omega)]
      exact List.getElem_mem _
     have hr':∀ i,i<r+1->(((a+i) % 256:Nat):Int) ∈ l:=fun i hi=>by
      by_cases q:i=r
      ·rw[q,hb];exact hmem
      ·exact hr i (by omega)
     have hrv':r+1<=v:=by rw[<- hv];exact ybff (by omega) hr'
     refine loop_again (r+1,0) ⟨Nat.zero_le _,hr',by show r+1<=256;omega,fun j hj=>absurd hj (Nat.not_lt_zero j)⟩ ?_ ?_
     ·show(v - (r+1)) * (v+2)+(v - 0)<(v - r) * (v+2)+(v - u);obtain⟨m,hm⟩:∃ m,v - r=m+1:=⟨v - r - 1,by omega⟩
      rw[show v - (r+1)=m by omega,hm,Nat.succ_mul]
      generalize m * (v+2)=z
      omega
     ·refine weak_all [] [] [] ?_;simp only[allQ,live,sim_self,sim_i,Int.natCast_zero,go_sem,Nat.reduceEqDiff,↓reduceIte,reduceCtorEq];refine⟨by omega,?_⟩
      rw[Int.tmod_eq_emod_of_nonneg (by omega)]
      omega
    ·refine loop_again (r,u+1) ⟨by show u+1<=v;omega,hr,hr256,fun j hj=>?_⟩ ?_ ?_
     ·show l.getD j 0 ≠ (((a+r) % 256:Nat):Int);rw[hb]
      by_cases q:j=u
      ·rw[q];exact hne
      ·exact hno j (by have:j<u+1:=hj;omega)
     ·show(v - r) * (v+2)+(v - (u+1))<(v - r) * (v+2)+(v - u)
      generalize (v - r) * (v+2)=z
      omega
     ·refine weak_all [] [] [] ?_;simp only[hb,allQ,live,sim_self,sim_i,go_sem,Nat.reduceEqDiff,↓reduceIte,reduceCtorEq];omega
    ·obtain rfl:u=v:=by omega
     refine⟨⟨by omega,by omega⟩,ikw (by omega) (by omega),?_⟩
     have hno':(b:Int) ∉ l:=fun hm=>by
      obtain⟨j,hj,e⟩:=List.getElem_of_mem hm;exact hno j (by omega) (by rw[getD_at hj,e])
     refine loop_again (l ++ [(b:Int)]) ⟨by rw[List.length_append,List.length_singleton];omega,fun y hy=>?_,?_⟩ (by rw[List.length_append,List.length_singleton];omega) ?_
     ·rcases List.mem_append.1 hy with hy | hy
      ·exact hl2 y hy
      ·rw[List.mem_singleton.1 hy];omega
     ·rw[List.nodup_append];exact⟨hl3,by simp,fun y hy z hz=>by rw[List.mem_singleton.1 hz];exact fun e=>hno' (e ▸ hy)⟩
     refine weak_all [(148,fun i=>(48,i))] [] [] ?_;simp only[List.length_append,hv,allQ,live,sim_self,sim_i,go_sem,Nat.reduceEqDiff,↓reduceIte,reduceCtorEq];refine⟨by omega,fun i hi=>?_⟩
     rw[yrg,hv]
     by_cases q:i<u
     ·simp only[if_pos q];simp only[live,sim_self,go_sem,reduceCtorEq]
     ·obtain rfl:i=u:=by omega
      simp only[if_neg q,Nat.sub_self];simp only[live,sim_self,go_sem,↓reduceIte,reduceCtorEq]
  ·obtain rfl:v=n:=by omega
   simp only[yer,go_sem];refine⟨.ag [intsV l,.os (17,0) 0 v true],[(17,.one (some ⟨71,false,1,v,fun _=>[.a (.slice none 0 0)]⟩))],?_,?_,l,by rw[hv];exact hn1,hl2,hl3,by rw[hv],by rw[hv]⟩
   ·refine weak_all [] [] [(148,0)] ?_;simp only[intsV,hv,allQ,live,sim_self,go_sem,Nat.reduceEqDiff,↓reduceIte,reduceCtorEq]
   ·simp only[famCln,obCln,allQ,live,go_sem,↓reduceIte]
end Sh
end Go.Proofs.YtiejahgklcjhkaaGreatDoor

namespace Go.Proofs.YtiejahgklcjhkaaGreatDoor
open Go
def yfx(back:Bool)(g:Gr)(a b:Nat)(w:Int):Gr:=if a=b\/yjg (g.ports.getD a []) b=true then g else ybn back g a b w
namespace Sh
open Ev Go.RowKit
set_option maxRecDepth 8000
def rowO(l:List (Int × Int)):OB:=⟨95,false,2,l.length,fun k=>[.i .i64 (l.getD k (0,0)).1,.i .i64 (l.getD k (0,0)).2]⟩
def linkO(ports:List (List (Int × Int))):Own:=[(211,.one (some ⟨71,false,1,ports.length,fun v=>[.os (212,v) 0 (ports.getD v []).length true]⟩)),
 (212,.many fun v=>if v<ports.length then some (rowO (ports.getD v []))else none)]
def linkA(g:Gr):SV:=.ag [intsV g.ids,.os (211,0) 0 g.ports.length true]
theorem some_row{i n:Nat}{x b:OB}(h:(if i<n then some x else none)=some b):i<n/\b=x:=by
 split at h
 ·cases h;exact⟨by assumption,rfl⟩
 ·cases h
theorem ybj(back:Bool)(L:List (Int × Int))(x:Int × Int):(addL back L x).length=L.length+1:=by
 unfold addL;cases back<;>simp
theorem ybau(L:List (Int × Int))(x:Int × Int){k:Nat}(hk:k<L.length+1):(if k<L.length then[SV.i .i64 (L.getD k (0,0)).1,SV.i .i64 (L.getD k (0,0)).2]else List.take 2 (List.drop ((k - L.length) * 2) [SV.i .i64 x.1,SV.i .i64 x.2])) = [SV.i .i64 ((addL false L x).getD k (0,0)).1,SV.i .i64 ((addL false L x).getD k (0,0)).2]:=by
 show _ = [SV.i .i64 ((L ++ [x]).getD k (0,0)).1,SV.i .i64 ((L ++ [x]).getD k (0,0)).2];rw[yrg]
 by_cases h:k<L.length
 ·rw[if_pos h,if_pos h]
 ·obtain rfl:k=L.length:=by omega
  rw[if_neg h,if_neg h,if_pos rfl,Nat.sub_self];rfl
theorem yju(L:List (Int × Int))(x:Int × Int)(k:Nat):(if k<1 then List.take 2 (List.drop (k * 2) [SV.i .i64 x.1,SV.i .i64 x.2])else[SV.i .i64 (L.getD (k - 1) (0,0)).1,SV.i .i64 (L.getD (k - 1) (0,0)).2]) = [SV.i .i64 ((addL true L x).getD k (0,0)).1,SV.i .i64 ((addL true L x).getD k (0,0)).2]:=by
 show _ = [SV.i .i64 ((x :: L).getD k (0,0)).1,SV.i .i64 ((x :: L).getD k (0,0)).2];cases k with
 | zero=>rfl
 | succ k=>rw[if_neg (by omega)];rfl
theorem cells_one(L:List (Int × Int))(h:L.length=0)(x:Int × Int){k:Nat}(hk:k<1):List.take 2 (List.drop (k * 2) [SV.i .i64 x.1,SV.i .i64 x.2]) = [SV.i .i64 ((addL true L x).getD k (0,0)).1,SV.i .i64 ((addL true L x).getD k (0,0)).2]:=by
 obtain rfl:k=0:=by omega
 rfl
theorem yha {n:Nat} {o:Own} {P':List (List (Int × Int))} (hl:P'.length=n) (A:Nat->Nm) {R:Nat->List SV} (h11:lookO o (211,0)=some ⟨71,false,1,n,R⟩) (hR:∀ v,v<n->R v = [.os (A v) 0 (P'.getD v []).length true])
  (hA:∀ v,v<n -> ∃ q,lookO o (A v)=some ⟨95,false,2,(P'.getD v []).length,q⟩ /\ ∀ k,k<(P'.getD v []).length->q k = [.i .i64 ((P'.getD v []).getD k (0,0)).1,.i .i64 ((P'.getD v []).getD k (0,0)).2])
  (hi:∀ u v,u<n->v<n->A u=A v->u=v) (h0:∀ v,v<n->A v ≠ (211,0)) :
  ∃ r o',Weak [(211,0)] ⟨[(0,.tp [])],o⟩ ⟨[(0,r)],o'⟩/\(cln (live o') 5 r=true/\allQ (fun p=>famCln (live o') p.2) o'/\allQ (fun β=>live o' β=true) [(211,0)])/\r = .tp []/\o'=linkO P':=by
 subst hl
 have hsome:∀ i,(if i<P'.length then some (rowO (P'.getD i []))else none).isSome=true->i<P'.length:=fun i h=>by
  by_cases q:i<P'.length
  ·exact q
  ·rw[if_neg q]at h;cases h
 have hlive:∀ i,i<P'.length->live (linkO P') (212,i)=true:=fun i hi=>by
  show(if i<P'.length then some (rowO (P'.getD i []))else none).isSome=true
  rw[if_pos hi];rfl
 refine⟨.tp [],linkO P',ybcp [(212,A)] [] [] trivial ⟨.inr ⟨.inr fun e=>⟨rfl,rfl⟩,.inr fun j hj e=>?_,trivial⟩,.inr ⟨.inr fun i hi' e=>?_,.inr fun i hi' j hj e=>⟨rfl,?_⟩,trivial⟩,trivial⟩ ⟨?_,trivial⟩ ⟨?_,fun i b hb=>?_,trivial⟩ ⟨⟨rfl,rfl,rfl⟩,trivial⟩,⟨rfl,⟨?_,?_,trivial⟩,rfl,trivial⟩,rfl,rfl⟩
 ·exact absurd e.symm (h0 j (hsome j hj))
 ·exact absurd e (h0 i (hsome i hi'))
 ·exact hi i j (hsome i hi') (hsome j hj) e
 ·exact⟨_,rfl,.inl ⟨trivial,Sim.refl _,rfl⟩⟩
 ·refine⟨_,h11,⟨rfl,rfl,rfl,rfl,rfl⟩,fun i hi'=>?_⟩;have hi':i<P'.length:=hi';show telL _ _ _ _ _ (R i) _;rw[hR i hi'];refine⟨.inl ⟨by simp only[go_sem],Sim.refl _,?_⟩,rfl,trivial⟩
  show(live (linkO P') (212,i) && !(List.elem 212 []))=true;rw[hlive i hi'];rfl
 ·obtain⟨hi',rfl⟩:=some_row hb;obtain⟨q,q1,q2⟩:=hA i hi';refine⟨_,q1,⟨rfl,rfl,rfl,rfl,rfl⟩,fun k hk=>?_⟩;show telL _ _ _ _ _ (q k) _;rw[q2 k hk];exact⟨.inl ⟨trivial,Sim.refl _,rfl⟩,rfl,.inl ⟨trivial,Sim.refl _,rfl⟩,rfl,trivial⟩
 ·intro k hk;have:live (linkO P') (212,k)=true:=hlive k hk;simp only[linkO,List.all_cons,List.all_nil,Bool.and_true]at this ⊢;exact this
 ·intro i b hb k hk;obtain⟨hi',rfl⟩:=some_row hb;rfl
section
variable {x:NetR} {g:Gr} {a b:Nat} {w:Int}
theorem ybvk(ha:a<g.ports.length)(hb:b<g.ports.length)(hn:g.ports.length<=24)(hd:∀ v,(g.ports.getD v []).length<=1000) :
  Cm Tryz.prog 76 [(211,0)] (linkO g.ports) [.ag (netC x),linkA g,.i .i64 a,.i .i64 b,.i .i64 w] fun r o=>r = .tp []/\o=linkO (yfx x.back g a b w).ports:=by
 refine ycun [(211,0)] [] _ _ _ ?_;obtain⟨O2,hO2⟩:∃ O,linkO (yfx x.back g a b w).ports=O:=⟨_,rfl⟩;rw[hO2]
 by_cases hab:a=b
 ·subst hab;have hP:yfx x.back g a a w=g:=if_pos (.inl rfl);rw[hP]at hO2;simp only[c76,ycvo,ycuv,netC,linkA,linkO,yer,go_sem,Nat.reduceEqDiff,Nat.reduceAdd,Nat.reduceLT,↓reduceIte,reduceCtorEq];subst hO2;exact yha rfl (fun v=>(212,v)) rfl (fun v hv=>rfl) (fun v hv=>⟨_,if_pos hv,fun k hk=>rfl⟩) (fun u v _ _ e=>congrArg Prod.snd e) (fun v _ e=>by cases e)
 ·have hne:((a:Int) == (b:Int))=false:=by rw[beq_eq_false_iff_ne];omega
  have hL:=ybkg (ids:=g.ids) (ports:=g.ports) (b:=b) ha (by have:=hd a;omega)
  simp only[c76,ycvo,ycuv,netC,linkA,linkO,hne,clash,go_sem,Nat.reduceEqDiff,Nat.reduceAdd,Nat.reduceLT,↓reduceIte,reduceCtorEq];refine .inl ⟨fun q hq=>by rw[if_pos hq];exact⟨Nat.le_refl _,fun k hk=>by simp only[rowO,go_sem]⟩,hL.useS ?_ ?_⟩
  ·refine⟨ynt ⟨Sim.refl _,?_,trivial⟩,Sim.refl _,Sim.refl _,trivial⟩;refine yfv fun q hq=>?_;rw[if_pos hq];simp only[rowO,yg,go_sem];exact⟨Sim.refl _,trivial⟩
  cases hlk:yjg (g.ports.getD a []) b with
  | true =>
   have hP:yfx x.back g a b w=g:=if_pos (.inr hlk);rw[hP]at hO2;simp only[thenO,clash,yer,go_sem,Nat.reduceEqDiff,Nat.reduceAdd,↓reduceIte];subst hO2;exact yha rfl (fun v=>(212,v)) rfl (fun v hv=>rfl) (fun v hv=>⟨_,if_pos hv,fun k hk=>rfl⟩) (fun u v _ _ e=>congrArg Prod.snd e) (fun v _ e=>by cases e)
  | false =>
   have hP:yfx x.back g a b w=ybn x.back g a b w:=if_neg (fun q=>by rcases q with q | q;exact hab q;rw[hlk]at q;cases q)
   rw[hP]at hO2;subst hO2;have hba:¬ b=a:=fun e=>hab e.symm;have hlen:(ybn x.back g a b w).ports.length=g.ports.length:=by simp[ybn]
   have hat:=ycx x.back g w ha hb;obtain⟨G',hG'⟩:∃ G,(ybn x.back g a b w).ports=G:=⟨_,rfl⟩;rw[hG']at hlen ⊢;have hat:∀ v,G'.getD v []=if v=b then addL x.back (g.ports.getD b []) (a,w)else if v=a then addL x.back (g.ports.getD a []) (b,w)else g.ports.getD v []:=fun v=>by rw[<- hG'];exact hat v
   clear hG' hP
   obtain⟨x1,x2,x3,x4,x5,back⟩:=x;have hda:=hd a;have hdb:=hd b;cases back with
   | false =>
    simp only[thenO,clash,ybli,ybln,ydhd,rowO,if_pos ha,if_pos hb,hab,hba,yer,and_false,go_sem,Nat.reduceEqDiff,Nat.reduceAdd,Nat.reduceLeDiff,Nat.reduceLT,↓reduceIte,reduceCtorEq];refine⟨⟨by omega,by omega⟩,by omega,⟨by omega,by omega⟩,by decide,⟨by omega,by omega⟩,by omega,⟨by omega,by omega⟩,by decide,⟨by omega,by omega⟩,by omega,by decide,⟨by omega,by omega⟩,by omega,by decide,?_⟩
    refine yha hlen (fun v=>if v=b then(74,0)else if v=a then(66,0)else(212,v)) rfl (fun v hv=>?_) (fun v hv=>?_) (fun u v _ _ e=>?_) (fun v _ e=>?_)
    ·rw[hat v]
     by_cases q:v=b
     ·simp only[if_pos q,ybj]
     ·by_cases q2:v=a
      ·simp only[if_neg q,if_pos q2,ybj]
      ·simp only[if_neg q,if_neg q2]
    ·rw[hat v]
     by_cases q:v=b
     ·simp only[if_pos q,ybj];exact⟨_,rfl,fun k hk=>ybau _ (_,_) hk⟩
     ·by_cases q2:v=a
      ·simp only[if_neg q,if_pos q2,ybj];exact⟨_,rfl,fun k hk=>ybau _ (_,_) hk⟩
      ·simp only[if_neg q,if_neg q2];refine⟨fun k=>[.i .i64 ((g.ports.getD v []).getD k (0,0)).1,.i .i64 ((g.ports.getD v []).getD k (0,0)).2],?_,fun k hk=>rfl⟩;show(if v=b then none else if v=a then none else if v<g.ports.length then some _ else none)=some _
       rw[if_neg q,if_neg q2,if_pos hv]
    ·by_cases q:u=b<;>by_cases q2:u=a<;>by_cases q3:v=b<;>by_cases q4:v=a<;>simp[q,q2,q3,q4,hab]at e ⊢<;>omega
    ·by_cases q:v=b<;>by_cases q2:v=a<;>simp[q,q2,hab]at e
   | true =>
    by_cases hza:(g.ports.getD a []).length=0
    ·by_cases hzb:(g.ports.getD b []).length=0
     ·simp only[thenO,clash,ybli,ybln,ybno,ybvi,rowO,if_pos ha,if_pos hb,hba,yer,and_false,hza,hzb,go_sem,Nat.reduceEqDiff,Nat.reduceAdd,Nat.reduceLeDiff,Nat.reduceLT,Nat.reduceMul,↓reduceIte,reduceCtorEq]
      repeat' apply And.intro
      all_goals first | omega | decide | skip
      refine yha hlen (fun v=>if v=b then(45,0)else if v=a then(33,0)else(212,v)) rfl (fun v hv=>?_) (fun v hv=>?_) (fun u v _ _ e=>?_) (fun v _ e=>?_)
      ·rw[hat v]
       by_cases q:v=b
       ·simp only[if_pos q,ybj,hzb,Nat.zero_add]
       ·by_cases q2:v=a
        ·simp only[if_neg q,if_pos q2,ybj,hza,Nat.zero_add]
        ·simp only[if_neg q,if_neg q2]
      ·rw[hat v]
       by_cases q:v=b
       ·simp only[if_pos q,ybj,hzb,Nat.zero_add];exact⟨_,rfl,fun k hk=>cells_one _ hzb (_,_) hk⟩
       ·by_cases q2:v=a
        ·simp only[if_neg q,if_pos q2,ybj,hza,Nat.zero_add];exact⟨_,rfl,fun k hk=>cells_one _ hza (_,_) hk⟩
        ·simp only[if_neg q,if_neg q2];refine⟨fun k=>[.i .i64 ((g.ports.getD v []).getD k (0,0)).1,.i .i64 ((g.ports.getD v []).getD k (0,0)).2],?_,fun k hk=>rfl⟩;show(if v<g.ports.length then some _ else none)=some _
         rw[if_pos hv]
      ·by_cases q:u=b<;>by_cases q2:u=a<;>by_cases q3:v=b<;>by_cases q4:v=a<;>simp[q,q2,q3,q4,hab]at e ⊢<;>omega
      ·by_cases q:v=b<;>by_cases q2:v=a<;>simp[q,q2,hab]at e
     ·simp only[thenO,clash,ybli,ybln,ybno,ybvi,rowO,if_pos ha,if_pos hb,hba,yer,and_false,hza,hzb,go_sem,Nat.reduceEqDiff,Nat.reduceAdd,Nat.reduceLeDiff,Nat.reduceLT,Nat.reduceMul,↓reduceIte,reduceCtorEq]
      repeat' apply And.intro
      all_goals first | omega | decide | skip
      refine yha hlen (fun v=>if v=b then(51,0)else if v=a then(33,0)else(212,v)) rfl (fun v hv=>?_) (fun v hv=>?_) (fun u v _ _ e=>?_) (fun v _ e=>?_)
      ·rw[hat v]
       by_cases q:v=b
       ·simp only[if_pos q,ybj,Nat.add_comm]
       ·by_cases q2:v=a
        ·simp only[if_neg q,if_pos q2,ybj,hza,Nat.zero_add,Nat.add_comm]
        ·simp only[if_neg q,if_neg q2]
      ·rw[hat v]
       by_cases q:v=b
       ·simp only[if_pos q,ybj];exact⟨_,congrArg some (congrArg (fun n=>OB.mk _ _ _ n _) (Nat.add_comm _ _)),fun k hk=>yju _ (_,_) k⟩
       ·by_cases q2:v=a
        ·simp only[if_neg q,if_pos q2,ybj,hza,Nat.zero_add];exact⟨_,rfl,fun k hk=>cells_one _ hza (_,_) hk⟩
        ·simp only[if_neg q,if_neg q2];refine⟨fun k=>[.i .i64 ((g.ports.getD v []).getD k (0,0)).1,.i .i64 ((g.ports.getD v []).getD k (0,0)).2],?_,fun k hk=>rfl⟩;show(if v<g.ports.length then some _ else none)=some _
         rw[if_pos hv]
      ·by_cases q:u=b<;>by_cases q2:u=a<;>by_cases q3:v=b<;>by_cases q4:v=a<;>simp[q,q2,q3,q4,hab]at e ⊢<;>omega
      ·by_cases q:v=b<;>by_cases q2:v=a<;>simp[q,q2,hab]at e
    ·by_cases hzb:(g.ports.getD b []).length=0
     ·simp only[thenO,clash,ybli,ybln,ybno,ybvi,rowO,if_pos ha,if_pos hb,hba,yer,and_false,hza,hzb,go_sem,Nat.reduceEqDiff,Nat.reduceAdd,Nat.reduceLeDiff,Nat.reduceLT,Nat.reduceMul,↓reduceIte,reduceCtorEq]
      repeat' apply And.intro
      all_goals first | omega | decide | skip
      refine yha hlen (fun v=>if v=b then(45,0)else if v=a then(39,0)else(212,v)) rfl (fun v hv=>?_) (fun v hv=>?_) (fun u v _ _ e=>?_) (fun v _ e=>?_)
      ·rw[hat v]
       by_cases q:v=b
       ·simp only[if_pos q,ybj,hzb,Nat.zero_add,Nat.add_comm]
       ·by_cases q2:v=a
        ·simp only[if_neg q,if_pos q2,ybj,Nat.add_comm]
        ·simp only[if_neg q,if_neg q2]
      ·rw[hat v]
       by_cases q:v=b
       ·simp only[if_pos q,ybj,hzb,Nat.zero_add];exact⟨_,rfl,fun k hk=>cells_one _ hzb (_,_) hk⟩
       ·by_cases q2:v=a
        ·simp only[if_neg q,if_pos q2,ybj];exact⟨_,congrArg some (congrArg (fun n=>OB.mk _ _ _ n _) (Nat.add_comm _ _)),fun k hk=>yju _ (_,_) k⟩
        ·simp only[if_neg q,if_neg q2];refine⟨fun k=>[.i .i64 ((g.ports.getD v []).getD k (0,0)).1,.i .i64 ((g.ports.getD v []).getD k (0,0)).2],?_,fun k hk=>rfl⟩;show(if v<g.ports.length then some _ else none)=some _
         rw[if_pos hv]
      ·by_cases q:u=b<;>by_cases q2:u=a<;>by_cases q3:v=b<;>by_cases q4:v=a<;>simp[q,q2,q3,q4,hab]at e ⊢<;>omega
      ·by_cases q:v=b<;>by_cases q2:v=a<;>simp[q,q2,hab]at e
     ·simp only[thenO,clash,ybli,ybln,ybno,ybvi,rowO,if_pos ha,if_pos hb,hba,yer,and_false,hza,hzb,go_sem,Nat.reduceEqDiff,Nat.reduceAdd,Nat.reduceLeDiff,Nat.reduceLT,↓reduceIte,reduceCtorEq]
      repeat' apply And.intro
      all_goals first | omega | decide | skip
      refine yha hlen (fun v=>if v=b then(51,0)else if v=a then(39,0)else(212,v)) rfl (fun v hv=>?_) (fun v hv=>?_) (fun u v _ _ e=>?_) (fun v _ e=>?_)
      ·rw[hat v]
       by_cases q:v=b
       ·simp only[if_pos q,ybj,Nat.add_comm]
       ·by_cases q2:v=a
        ·simp only[if_neg q,if_pos q2,ybj,Nat.add_comm]
        ·simp only[if_neg q,if_neg q2]
      ·rw[hat v]
       by_cases q:v=b
       ·simp only[if_pos q,ybj];exact⟨_,congrArg some (congrArg (fun n=>OB.mk _ _ _ n _) (Nat.add_comm _ _)),fun k hk=>yju _ (_,_) k⟩
       ·by_cases q2:v=a
        ·simp only[if_neg q,if_pos q2,ybj];exact⟨_,congrArg some (congrArg (fun n=>OB.mk _ _ _ n _) (Nat.add_comm _ _)),fun k hk=>yju _ (_,_) k⟩
        ·simp only[if_neg q,if_neg q2];refine⟨fun k=>[.i .i64 ((g.ports.getD v []).getD k (0,0)).1,.i .i64 ((g.ports.getD v []).getD k (0,0)).2],?_,fun k hk=>rfl⟩;show(if v<g.ports.length then some _ else none)=some _
         rw[if_pos hv]
      ·by_cases q:u=b<;>by_cases q2:u=a<;>by_cases q3:v=b<;>by_cases q4:v=a<;>simp[q,q2,q3,q4,hab]at e ⊢<;>omega
      ·by_cases q:v=b<;>by_cases q2:v=a<;>simp[q,q2,hab]at e
end
end Sh
end Go.Proofs.YtiejahgklcjhkaaGreatDoor

namespace Go.Proofs.YtiejahgklcjhkaaGreatDoor
open Go
theorem yua{back:Bool}{g:Gr}{a b:Nat}{w:Int}(hg:GoodG g)(ha:a<g.ports.length)(hb:b<g.ports.length)(hw:1<=w/\w<=15):GoodG (yfx back g a b w)/\(yfx back g a b w).ids=g.ids/\(yfx back g a b w).ports.length=g.ports.length:=by
 unfold yfx
 by_cases h:a=b\/yjg (g.ports.getD a []) b=true
 ·rw[if_pos h];exact⟨hg,rfl,rfl⟩
 ·rw[if_neg h];refine⟨yxi hg ha hb (fun e=>h (.inl e)) hw fun l hl e=>h (.inr (List.any_eq_true.2 ⟨l,hl,decide_eq_true e⟩)),rfl,by simp[ybn]⟩
theorem yxx{back:Bool}{g:Gr}{a b:Nat}{w:Int}(ha:a<g.ports.length)(hb:b<g.ports.length){m:Nat}(h:Tre g m):Tre (yfx back g a b w) m:=by
 unfold yfx;split
 ·exact h
 ·exact h.add ha hb
theorem ybms{back:Bool}{g:Gr}{a b:Nat}{w:Int}(ha:a<g.ports.length)(hb:b<g.ports.length)(hab:a ≠ b):adj (yfx back g a b w) a b:=by
 unfold yfx;split
 ·rename_i h
  rcases h with h | h
  ·exact absurd h hab
  ·obtain⟨l,hl,e⟩:=List.any_eq_true.1 h;exact yec.2 ⟨l,hl,of_decide_eq_true e⟩
 ·exact ybdm ha hb hab
theorem ybbf:∀ (l:List Nat) (i x:Nat) (h:i<l.length),(l.set i x).sum+l[i]=l.sum+x
 | a :: l,0,x,_=>by simp;omega
 | a :: l,i+1,x,h=>by
  have:=ybbf l i x (by simpa using h)
  simp only[List.set_cons_succ,List.sum_cons,List.getElem_cons_succ];omega
theorem ybja{back:Bool}{g:Gr}{a b:Nat}{w:Int}(ha:a<g.ports.length)(hb:b<g.ports.length)(hab:a ≠ b):yea (ybn back g a b w)=yea g+2:=by
 unfold yea ybn;simp only[List.map_set,Sh.ybj];have h1:=ybbf (g.ports.map List.length) a ((g.ports.getD a []).length+1) (by simpa using ha)
 have h2:=ybbf ((g.ports.map List.length).set a ((g.ports.getD a []).length+1)) b ((g.ports.getD b []).length+1) (by simpa using hb)
 rw[List.getElem_set_ne hab,List.getElem_map,<- Sh.getD_at hb (d:=[])]at h2;rw[List.getElem_map,<- Sh.getD_at ha (d:=[])]at h1;omega
def WtF(x:NetR)(g:Gr):Prop:=∀ v l,l ∈ g.ports.getD v [] -> ∃ i,l.2=1+ycc (atP x.weights i) 15
theorem ybgn{x:NetR}{back:Bool}{g:Gr}{a b:Nat}{w:Int}(ha:a<g.ports.length)(hb:b<g.ports.length)(hw:∃ i,w=1+ycc (atP x.weights i) 15)(h:WtF x g):WtF x (yfx back g a b w):=by
 unfold yfx;split
 ·exact h
 ·intro v l hl;rw[ycx back g w ha hb]at hl;split at hl
  ·rcases ydl.1 hl with rfl | hl
   ·exact hw
   ·exact h _ _ hl
  ·split at hl
   ·rcases ydl.1 hl with rfl | hl
    ·exact hw
    ·exact h _ _ hl
   ·exact h _ _ hl
structure TreeTo(x:NetR)(v:Nat)(g:Gr):Prop where
 tre:Tre g v
 wt:WtF x g
 none_:∀ u,v<=u->g.ports.getD u [] = []
 count:yea g+2=2 * v
theorem bare_ports(ids:List Int)(v:Nat):(bare ids).ports.getD v [] = []:=by
 unfold bare;rw[List.getD_eq_getElem?_getD,List.getElem?_replicate];split<;>rfl
theorem TreeTo.zero(x:NetR)(ids:List Int):TreeTo x 1 (bare ids):=by
 refine⟨fun v h0 h1=>by omega,fun v l hl=>?_,fun u _=>bare_ports ids u,?_⟩
 ·rw[bare_ports]at hl;exact absurd hl List.not_mem_nil
 ·have:yea (bare ids)=0:=by
   unfold yea bare;simp
  omega
theorem TreeTo.succ{x:NetR}{v:Nat}{g:Gr}(hg:GoodG g)(h:TreeTo x v g)(hv:v<g.ports.length)(h1:1<=v){a:Nat}(ha:a<v){w:Int}(hw:∃ i,w=1+ycc (atP x.weights i) 15):TreeTo x (v+1) (yfx x.back g a v w):=by
 have hadj:=ybms (back:=x.back) (g:=g) (a:=a) (b:=v) (w:=w) (by omega) (by omega) (by omega)
 have hno:¬ (a=v\/yjg (g.ports.getD a []) v=true):=by
  rintro(e | e)
  ·omega
  ·obtain⟨l,hl,e⟩:=List.any_eq_true.1 e;have e:=of_decide_eq_true e;have:adj g v a:=hg.adj_symm (yec.2 ⟨l,hl,e⟩);obtain⟨l',hl',_⟩:=yec.1 this;rw[h.none_ v (Nat.le_refl _)]at hl';exact absurd hl' List.not_mem_nil
 have e:yfx x.back g a v w=ybn x.back g a v w:=by unfold yfx;rw[if_neg hno]
 refine⟨fun u h0 hu=>?_,ybgn (by omega) hv hw h.wt,fun u hu=>?_,?_⟩
 ·by_cases q:u=v
  ·subst q;exact⟨a,ha,hadj⟩
  ·exact yxx (by omega) hv h.tre u h0 (by omega)
 ·rw[e,ycx x.back g w (by omega) hv,if_neg (by omega),if_neg (by omega)]
  exact h.none_ u (by omega)
 ·rw[e,ybja (by omega) hv (by omega)]
  have:=h.count;omega
namespace Sh
open Ev Go.RowKit
set_option maxRecDepth 8000
theorem ypq{n:Nat}{P:List (List (Int × Int))}{f:SV->SV}(hf:∀ k z,f (.i k z) = .i k z){i:Nat}(hi:i<n):(match (if i<n then some (rowO (P.getD i []))else none)with | some b=>some (⟨b.e,b.bx,b.z,b.n,fun k=>(b.g k).map f⟩:OB) | none=>none)=some (rowO (P.getD i [])):=by
 rw[if_pos hi];simp[rowO,hf]
theorem ycty{x:NetR}(hx:x.ok){most:Nat}(hm:1<=most/\most<=24) :
  Cm Tryz.prog 21 [] [] [.ag (netC x),.i .i64 most] fun r o=>∃ g,GoodG g/\TreeTo x g.ports.length g/\g.ports.length<=most/\r=linkA g/\o=linkO g.ports:=by
 refine ycth [] [75,76] _ _ _ ?_;have hN:=nodes_ok hx hm;obtain⟨hx1,hx2,hx3,hx4⟩:=hx;simp only[netC]at hN;simp only[c21,ydbc,ydbu,netC,go_sem,Nat.reduceEqDiff,Nat.reduceAdd,Nat.reduceLT,↓reduceIte,reduceCtorEq];refine callM_of hN [(17,117)] 0 [2,4] [2,4] ?_ ?_
 ·simp only[okN,famCln,obCln,keepF,keepO,allQ,live,sim_self,go_sem,Nat.reduceEqDiff,Nat.reduceAdd,Nat.reduceBEq,↓reduceIte,reduceCtorEq]
 rintro r o' ⟨ids,h1,h2,h3,rfl,rfl⟩;obtain⟨n,hn⟩:∃ n,ids.length=n:=⟨_,rfl⟩;rw[hn]at h1;simp only[hn,thenM,yhf,nuF,nu,difN,keepF,keepO,Fam.ren,OB.ren,dim,ycwh,ylb,ygd,go_sem,Nat.reduceEqDiff,Nat.reduceAdd,Nat.reduceLT,Nat.reduceBEq,↓reduceIte];simp only[yddl,go_sem]
 refine loop_on (σ:=Nat × Gr) (fun q=>⟨[(6,.i .i64 q.1),(5,.pt (5,0) 0 0),(2,.pt (2,0) 0 0),(4,.pt (4,0) 0 0)],
   (5,.one (some ⟨27,true,2,1,fun _=>[intsV q.2.ids,.os (211,0) 0 n true]⟩)) :: (2,.one (some ⟨24,true,6,1,fun _=>netC x⟩)) :: (4,.one (some ⟨27,true,2,1,fun _=>[.a (.slice none 0 0),.a (.slice none 0 0)]⟩)) :: linkO q.2.ports⟩)
  (fun q=>GoodG q.2/\q.2.ports.length=n/\TreeTo x q.1 q.2/\1<=q.1/\q.1<=n) (fun q=>n - q.1) (1,bare ids) ⟨bare_good (by omega) (by omega) h2 h3,by simp[bare,hn],TreeTo.zero x ids,by omega,by omega⟩ ?_ ?_
 ·refine weak_all [(211,fun i=>(117,i))] [212] [] ?_;have b1:(bare ids).ids=ids:=rfl;have b2:(bare ids).ports.length=n:=by simp[bare,hn]
  have b3:∀ v,(bare ids).ports.getD v [] = []:=bare_ports ids;simp only[netC,linkO,rowO,b1,b2,b3,List.length_nil,allQ,live,sim_self,sim_i,go_sem,Nat.reduceEqDiff,Nat.reduceBEq,↓reduceIte,reduceCtorEq];refine⟨rfl,fun i hi=>⟨(212,i),rfl,rfl,by simp[hi]⟩,fun i b hb=>?_⟩
  obtain⟨_,rfl⟩:=some_row hb;exact⟨rfl,rfl⟩
 ·rintro⟨v,g⟩ ⟨hg,hgn,htr,hv1,hvn⟩;have hg:GoodG g:=hg;have hgn:g.ports.length=n:=hgn;have htr:TreeTo x v g:=htr;have hv1:1<=v:=hv1;have hvn:v<=n:=hvn
  by_cases hlt:v<n
  ·have ht:decide ((v:Int)<(n:Int))=true:=decide_eq_true (by omega)
   have hv2:(v:Int) - 1=((v - 1:Nat):Int):=by omega
   have hA1:=at_ret x.links (v - 1);have hA2:=at_ret x.weights (v - 1);have hi1:=yck (v:=atP x.links (v - 1)) (m:=(v:Int)) (by omega)
   have hi2:=yck (v:=atP x.weights (v - 1)) (m:=15) (by omega)
   have hW1:=ycj (atP x.links (v - 1)) v (by omega) (hx2 _)
   have hW2:=ycj (atP x.weights (v - 1)) 15 (by omega) (hx3 _)
   obtain⟨a,ha⟩:∃ a:Nat,ycc (atP x.links (v - 1)) v=a:=Int.eq_ofNat_of_zero_le hi1.1;obtain⟨w,hw⟩:∃ w:Int,ycc (atP x.weights (v - 1)) 15=w:=⟨_,rfl⟩;rw[ha]at hW1 hi1;rw[hw]at hW2 hi2;have hL:=ybvk (x:=x) (g:=g) (a:=a) (b:=v) (w:=1+w) (by omega) (by omega) (by omega) (fun u=>by have:=hg.deg_lt (v:=u);omega)
   simp only[yctp,ydcr,ydgr,netC,linkO,ht,hv2,clash,go_sem,Nat.reduceEqDiff,Nat.reduceAdd,Nat.reduceLeDiff,Nat.reduceBEq,↓reduceIte,reduceCtorEq];refine⟨ikw (by omega) (by omega),hA1.use ?_⟩
   simp only[thenO,clash,go_sem,Nat.reduceEqDiff,Nat.reduceAdd,Nat.reduceLeDiff,Nat.reduceBEq,↓reduceIte,reduceCtorEq];refine hW1.use ?_;simp only[hv2,go_sem];refine⟨ikw (by omega) (by omega),hA2.use ?_⟩
   simp only[go_sem,↓reduceIte];refine hW2.use ?_;simp only[go_sem,Nat.reduceEqDiff,Nat.reduceBEq,↓reduceIte];refine⟨ikw (by omega) (by omega),callM_of hL [(211,211),(212,212)] 0 [2,4,5,6] [2,4,5] ?_ ?_⟩
   ·simp only[netC,linkA,linkO,hgn,to1,okN,famCln,obCln,keepF,keepO,allQ,live,sim_self,go_sem,Nat.reduceEqDiff,Nat.reduceAdd,Nat.reduceBEq,↓reduceIte,reduceCtorEq];refine⟨⟨fun i _ j _ e=>e,fun i hi=>by rw[if_pos hi],fun i b hb=>?_⟩,by decide⟩
    obtain⟨hi,rfl⟩:=some_row hb;exact⟨_,if_pos hi,⟨rfl,rfl,rfl,rfl⟩,fun k hk=>by simp only[rowO,live,sim_self,go_sem,reduceCtorEq]⟩
   ·rintro r o' ⟨rfl,rfl⟩;simp only[linkO,thenM,yhf,nuF,nu,difN,keepF,keepO,Fam.ren,OB.ren,dim,yrv,ygd,go_sem,Nat.reduceEqDiff,Nat.reduceAdd,Nat.reduceBEq,↓reduceIte,reduceCtorEq];obtain⟨gg1,gg2,gg3⟩:=yua (back:=x.back) (a:=a) (b:=v) (w:=1+w) hg (by omega) (by omega) (by omega)
    have gg4:=htr.succ hg (by omega) hv1 (a:=a) (by omega) (w:=1+w) ⟨v - 1,by rw[hw]⟩
    obtain⟨G,hG⟩:∃ G,yfx x.back g a v (1+w)=G:=⟨_,rfl⟩;rw[hG]at gg1 gg2 gg3 gg4 ⊢;rw[hgn]at gg3;refine⟨ikw (by omega) (by omega),loop_again (v+1,G) ⟨gg1,gg3,gg4,by omega,by omega⟩ (by show n - (v+1)<n - v;omega) ?_⟩
    ·refine weak_all [] [] [] ?_;simp only[gg3,gg2,allQ,live,sim_self,sim_i,go_sem,Nat.reduceEqDiff,↓reduceIte,reduceCtorEq];refine⟨fun i _ j _ e=>e,by omega,fun i hi=>by rw[if_pos hi],fun i b hb=>?_⟩
     obtain⟨hi,rfl⟩:=some_row hb;refine⟨_,ypq (f:=ren (nu [(211,211),(212,212)] 0) 5) (fun _ _=>rfl) hi,⟨rfl,rfl,rfl,rfl⟩,fun k hk=>?_⟩;simp only[rowO,live,sim_self,go_sem,reduceCtorEq]
  ·obtain rfl:v=n:=by omega
   have ht:decide ((v:Int)<(v:Int))=false:=decide_eq_false (by omega)
   simp only[yctp,ydhe,netC,linkO,ht,clash,splice,yer,go_sem,Nat.reduceEqDiff,Nat.reduceAdd,↓reduceIte,reduceCtorEq];refine⟨linkA g,linkO g.ports,?_,?_,g,hg,by rw[hgn];exact htr,by omega,rfl,rfl⟩
   ·refine weak_all [] [] [] ?_;simp only[linkO,linkA,hgn,allQ,live,sim_self,go_sem,Nat.reduceEqDiff,↓reduceIte,reduceCtorEq];refine⟨fun i _ j _ e=>e,fun i hi=>by rw[if_pos hi],fun i b hb=>?_⟩
    obtain⟨hi,rfl⟩:=some_row hb;exact⟨_,if_pos hi,⟨rfl,rfl,rfl,rfl⟩,fun k hk=>by simp only[rowO,live,sim_self,go_sem,reduceCtorEq]⟩
   ·simp only[linkO,linkA,famCln,obCln,allQ,live,go_sem,Nat.reduceEqDiff,↓reduceIte];refine⟨fun i hi=>by rw[if_pos hi],fun i b hb k hk=>?_⟩
    obtain⟨hi,rfl⟩:=some_row hb;simp only[rowO,go_sem]
end Sh
end Go.Proofs.YtiejahgklcjhkaaGreatDoor

namespace Go.Proofs.YtiejahgklcjhkaaGreatDoor
open Go
namespace Sh
open Ev Go.RowKit
set_option maxRecDepth 8000
theorem ybnp{x:NetR}(hx:x.ok){g:Gr}(hg:GoodG g){Q:Gr->Prop}(ht:Q g)(hQ:∀ G a b w,GoodG G->G.ports.length=g.ports.length->a<G.ports.length->b<G.ports.length->(∃ i,w=1+ycc (atP x.weights i) 15)->Q G->Q (yfx x.back G a b w)) :
  Cm Tryz.prog 105 [] (linkO g.ports) [.ag (netC x),linkA g] fun r o=>∃ g',GoodG g'/\Q g'/\g'.ports.length=g.ports.length/\r=linkA g'/\o=linkO g'.ports:=by
 refine ybza [] [76] _ _ _ ?_;obtain⟨hx1,hx2,hx3,hx4⟩:=hx;have h1:=hg.1;have h24:=hg.2.1;obtain⟨n,hn⟩:∃ n,g.ports.length=n:=⟨_,rfl⟩;rw[hn]at h1 h24 hQ;obtain⟨L,hL⟩:∃ L,x.links.length=L:=⟨_,rfl⟩;simp only[c105,ycqj,ycgr,ycrd,netC,linkA,linkO,hn,clash,go_sem,Nat.reduceEqDiff,Nat.reduceAdd,Nat.reduceLT,↓reduceIte,reduceCtorEq]
 refine loop_on (σ:=Nat × Gr) (fun q=>⟨[(6,.i .i64 q.1),(5,.i .i64 n),(3,.pt (3,0) 0 0),(2,.pt (2,0) 0 0),(4,.pt (4,0) 0 0)],
   (3,.one (some ⟨27,true,2,1,fun _=>[intsV q.2.ids,.os (211,0) 0 n true]⟩)) :: (2,.one (some ⟨24,true,6,1,fun _=>netC x⟩)) :: (4,.one (some ⟨27,true,2,1,fun _=>[.a (.slice none 0 0),.a (.slice none 0 0)]⟩)) :: linkO q.2.ports⟩)
  (fun q=>GoodG q.2/\q.2.ports.length=n/\Q q.2/\q.1<=61) (fun q=>62 - q.1) (n,g) ⟨hg,hn,ht,by show n<=61;omega⟩ ?_ ?_
 ·refine weak_all [] [] [] ?_;simp only[netC,linkO,hn,allQ,live,sim_self,go_sem,Nat.reduceEqDiff,↓reduceIte,reduceCtorEq];refine⟨fun i _ j _ e=>e,fun i hi=>by rw[if_pos hi],fun i b hb=>?_⟩
  obtain⟨hi,rfl⟩:=some_row hb;exact⟨_,if_pos hi,⟨rfl,rfl,rfl,rfl⟩,fun k hk=>by simp only[rowO,live,sim_self,go_sem,reduceCtorEq]⟩
 ·rintro⟨i,G⟩ ⟨gg,ggn,gtr,hi61⟩;have gg:GoodG G:=gg;have ggn:G.ports.length=n:=ggn;have gtr:Q G:=gtr;have hi61:i<=61:=hi61;have hi1:(i:Int)+1=((i+1:Nat):Int):=by omega
  by_cases hlt:i+1<L
  ·by_cases h60:i<60
   ·have ht1:decide (((i+1:Nat):Int)<(L:Int))=true:=decide_eq_true (by omega)
    have ht2:decide ((i:Int)<60)=true:=decide_eq_true (by omega)
    have hA2:=at_ret x.weights i;have hi2:=yck (v:=atP x.weights i) (m:=15) (by omega)
    have hw1:=yck (v:=x.links.getD i 0) (m:=(n:Int)) (by omega)
    have hw2:=yck (v:=x.links.getD (i+1) 0) (m:=(n:Int)) (by omega)
    have hW1:=ycj (x.links.getD i 0) n (by omega) (hx2 i)
    have hW2:=ycj (x.links.getD (i+1) 0) n (by omega) (hx2 (i+1))
    have hW3:=ycj (atP x.weights i) 15 (by omega) (hx3 _)
    obtain⟨a,ha⟩:∃ a:Nat,ycc (x.links.getD i 0) n=a:=Int.eq_ofNat_of_zero_le hw1.1;obtain⟨b,hb⟩:∃ b:Nat,ycc (x.links.getD (i+1) 0) n=b:=Int.eq_ofNat_of_zero_le hw2.1;obtain⟨w,hw⟩:∃ w:Int,ycc (atP x.weights i) 15=w:=⟨_,rfl⟩;rw[ha]at hW1 hw1;rw[hb]at hW2 hw2;rw[hw]at hW3 hi2;have hK:=ybvk (x:=x) (g:=G) (a:=a) (b:=b) (w:=1+w) (by omega) (by omega) (by omega) (fun u=>by have:=gg.deg_lt (v:=u);omega)
    simp only[ybfv,yceu,ycjj,netC,linkO,intsV,hL,hi1,ht1,ht2,clash,go_sem,Nat.reduceEqDiff,Nat.reduceAdd,Nat.reduceLeDiff,Nat.reduceBEq,↓reduceIte,reduceCtorEq];refine⟨ikw (by omega) (by omega),⟨by omega,by omega⟩,hW1.use ?_⟩
    simp only[thenO,clash,hi1,go_sem,Nat.reduceEqDiff,Nat.reduceAdd,Nat.reduceLeDiff,Nat.reduceBEq,↓reduceIte,reduceCtorEq];refine⟨ikw (by omega) (by omega),⟨by omega,by omega⟩,hW2.use ?_⟩
    simp only[go_sem];simp only[intsV]at hA2;refine hA2.use ?_;simp only[go_sem,↓reduceIte];refine hW3.use ?_;simp only[go_sem,Nat.reduceEqDiff,↓reduceIte];refine⟨ikw (by omega) (by omega),callM_of hK [(211,211),(212,212)] 0 [2,3,4,5,6] [2,3,4] ?_ ?_⟩
    ·simp only[netC,linkA,linkO,ggn,intsV,hL,to1,okN,famCln,obCln,keepF,keepO,allQ,live,sim_self,go_sem,Nat.reduceEqDiff,Nat.reduceAdd,Nat.reduceBEq,↓reduceIte,reduceCtorEq];refine⟨⟨fun i _ j _ e=>e,fun i hi=>by rw[if_pos hi],fun i b hb=>?_⟩,by decide⟩
     obtain⟨hi,rfl⟩:=some_row hb;exact⟨_,if_pos hi,⟨rfl,rfl,rfl,rfl⟩,fun k hk=>by simp only[rowO,live,sim_self,go_sem,reduceCtorEq]⟩
    ·rintro r o' ⟨rfl,rfl⟩;simp only[linkO,thenM,yhf,nuF,nu,difN,keepF,keepO,Fam.ren,OB.ren,dim,yrv,ygd,go_sem,Nat.reduceEqDiff,Nat.reduceAdd,Nat.reduceBEq,↓reduceIte,reduceCtorEq];obtain⟨gg1,gg2,gg3⟩:=yua (back:=x.back) (a:=a) (b:=b) (w:=1+w) gg (by omega) (by omega) (by omega)
     have gg4:=hQ G a b (1+w) gg ggn (by omega) (by omega) ⟨i,by rw[hw]⟩ gtr
     obtain⟨H,hH⟩:∃ H,yfx x.back G a b (1+w)=H:=⟨_,rfl⟩;rw[hH]at gg1 gg2 gg3 gg4 ⊢;rw[ggn]at gg3;refine⟨ikw (by omega) (by omega),loop_again (i+2,H) ⟨gg1,gg3,gg4,by show i+2<=61;omega⟩ (by show 62 - (i+2)<62 - i;omega) ?_⟩
     refine weak_all [] [] [] ?_;simp only[gg3,gg2,allQ,live,sim_self,sim_i,go_sem,Nat.reduceEqDiff,↓reduceIte,reduceCtorEq];refine⟨fun i _ j _ e=>e,by omega,fun i hi=>by rw[if_pos hi],fun i b hb=>?_⟩
     obtain⟨hi,rfl⟩:=some_row hb;refine⟨_,ypq (f:=ren (nu [(211,211),(212,212)] 0) 5) (fun _ _=>rfl) hi,⟨rfl,rfl,rfl,rfl⟩,fun k hk=>?_⟩;simp only[rowO,live,sim_self,go_sem,reduceCtorEq]
   ·have ht1:decide (((i+1:Nat):Int)<(L:Int))=true:=decide_eq_true (by omega)
    have ht2:decide ((i:Int)<60)=false:=decide_eq_false (by omega)
    simp only[ybfv,ybri,netC,linkO,intsV,hL,hi1,ht1,ht2,clash,splice,yer,go_sem,Nat.reduceEqDiff,Nat.reduceAdd,Nat.reduceLeDiff,↓reduceIte,reduceCtorEq];refine⟨ikw (by omega) (by omega),?_⟩
    refine⟨linkA G,linkO G.ports,?_,?_,G,gg,gtr,ggn,rfl,rfl⟩
    ·refine weak_all [] [] [] ?_;simp only[linkO,linkA,ggn,intsV,allQ,live,sim_self,go_sem,Nat.reduceEqDiff,↓reduceIte,reduceCtorEq];refine⟨fun i _ j _ e=>e,fun i hi=>by rw[if_pos hi],fun i b hb=>?_⟩
     obtain⟨hi,rfl⟩:=some_row hb;exact⟨_,if_pos hi,⟨rfl,rfl,rfl,rfl⟩,fun k hk=>by simp only[rowO,live,sim_self,go_sem,reduceCtorEq]⟩
    ·simp only[linkO,linkA,famCln,obCln,allQ,live,go_sem,Nat.reduceEqDiff,↓reduceIte];refine⟨fun i hi=>by rw[if_pos hi],fun i b hb k hk=>?_⟩
     obtain⟨hi,rfl⟩:=some_row hb;simp only[rowO,go_sem]
  ·have ht1:decide (((i+1:Nat):Int)<(L:Int))=false:=decide_eq_false (by omega)
   simp only[ybfv,ybri,netC,linkO,intsV,hL,hi1,ht1,clash,splice,yer,go_sem,Nat.reduceEqDiff,Nat.reduceAdd,Nat.reduceLeDiff,↓reduceIte,reduceCtorEq];refine⟨ikw (by omega) (by omega),?_⟩
   refine⟨linkA G,linkO G.ports,?_,?_,G,gg,gtr,ggn,rfl,rfl⟩
   ·refine weak_all [] [] [] ?_;simp only[linkO,linkA,ggn,intsV,allQ,live,sim_self,go_sem,Nat.reduceEqDiff,↓reduceIte,reduceCtorEq];refine⟨fun i _ j _ e=>e,fun i hi=>by rw[if_pos hi],fun i b hb=>?_⟩
    obtain⟨hi,rfl⟩:=some_row hb;exact⟨_,if_pos hi,⟨rfl,rfl,rfl,rfl⟩,fun k hk=>by simp only[rowO,live,sim_self,go_sem,reduceCtorEq]⟩
   ·simp only[linkO,linkA,famCln,obCln,allQ,live,go_sem,Nat.reduceEqDiff,↓reduceIte];refine⟨fun i hi=>by rw[if_pos hi],fun i b hb k hk=>?_⟩
    obtain⟨hi,rfl⟩:=some_row hb;simp only[rowO,go_sem]
theorem ysl{x:NetR}(hx:x.ok){most:Nat}(hm:1<=most/\most<=24) :
  Ct Tryz.prog 70 [.ag (netC x),.i .i64 most] fun r=>∃ g,GoodG g/\yow g=true/\(g.ports.length<=most/\WtF x g)/\Sim r (grV g):=by
 refine ycwp [21,105] _ _ ?_;have hT:=ycty hx hm;simp only[netC]at hT;simp only[c70,ydaz,ydam,netC,clash,go_sem,Nat.reduceEqDiff,Nat.reduceAdd,Nat.reduceLT,↓reduceIte,reduceCtorEq];refine callM_of hT [(211,211),(212,212)] 0 [2,4,5] [2,4] ?_ ?_
 ·simp only[okN,famCln,obCln,keepF,keepO,allQ,live,sim_self,go_sem,Nat.reduceEqDiff,Nat.reduceAdd,Nat.reduceBEq,↓reduceIte,reduceCtorEq]
 rintro r o' ⟨g,hg,ht,hn,rfl,rfl⟩;have hM:=ybnp (Q:=fun G=>Tre G g.ports.length/\WtF x G) hx hg ⟨ht.tre,ht.wt⟩ (fun G a b w gG gl ga gb gw gQ=>⟨yxx ga gb gQ.1,ybgn ga gb gw gQ.2⟩);simp only[netC]at hM;simp only[linkO,linkA,thenM,yhf,nuF,nu,difN,keepF,keepO,Fam.ren,OB.ren,dim,ylb,ygd,go_sem,Nat.reduceEqDiff,Nat.reduceAdd,Nat.reduceBEq,↓reduceIte];refine callM_of hM [(211,211),(212,212)] 0 [4] [4] ?_ ?_
 ·simp only[linkA,linkO,to1,okN,famCln,obCln,keepF,keepO,allQ,live,sim_self,go_sem,Nat.reduceEqDiff,Nat.reduceAdd,Nat.reduceBEq,↓reduceIte,reduceCtorEq];refine⟨⟨fun i _ j _ e=>e,fun i hi=>by rw[if_pos hi],fun i b hb=>?_⟩,by decide⟩
  obtain⟨hi,rfl⟩:=some_row hb;refine⟨_,ypq (f:=ren (nu [(211,211),(212,212)] 0) 5) (fun _ _=>rfl) hi,⟨rfl,rfl,rfl,rfl⟩,fun k hk=>?_⟩;simp only[rowO,live,sim_self,go_sem,reduceCtorEq]
 rintro r o' ⟨G,gg,⟨gt,gw⟩,gn,rfl,rfl⟩;simp only[linkO,linkA,clash,splice,thenM,yhf,nuF,nu,difN,keepF,keepO,Fam.ren,OB.ren,dim,ylb,ygd,go_sem,Nat.reduceEqDiff,Nat.reduceAdd,Nat.reduceBEq,↓reduceIte];refine⟨by decide,fun q hq=>?_,G,gg,Tre.conn gg (by rw[gn];exact gt),⟨by omega,gw⟩,?_⟩
 ·simp only[if_pos hq];exact⟨Nat.le_refl _,fun k hk=>by simp only[rowO,go_sem]⟩
 ·refine ynt ⟨Sim.refl _,?_,trivial⟩;refine yfv fun q hq=>?_;simp only[if_pos hq];simp only[rowO,yg,yew,go_sem];exact⟨Sim.refl _,trivial⟩
theorem yvl{x:NetR}(hx:x.ok){most:Nat}(hm:1<=most/\most<=24) :
  Ct Tryz.prog 70 [.ag (netC x),.i .i64 most] fun r=>∃ g,GoodG g/\yow g=true/\g.ports.length<=most/\Sim r (grV g) :=
 (ysl hx hm).mono fun _ ⟨g,h1,h2,h3,h4⟩=>⟨g,h1,h2,h3.1,h4⟩
end Sh
end Go.Proofs.YtiejahgklcjhkaaGreatDoor

namespace Go.Proofs.YtiejahgklcjhkaaGreatDoor
open Go
namespace Sh
open Ev Go.RowKit
set_option maxRecDepth 8000
theorem ycag(l:List Nat):one1 (usV l)=true:=rfl
theorem ybum{n:Nat}(l:List Nat):owned (n+1) (usV l)=false:=rfl
theorem ybjb{n:Nat}(l:List Nat):scalar (n+1) (usV l)=false:=rfl
theorem ybyb{n:Nat}(o:Own)(l:List Nat):view o (n+1) (usV l)=usV l:=rfl
theorem yctz{n:Nat}(o:Own)(l:List Nat):vok o (n+1) (usV l)=True:=rfl
theorem ycsm{n:Nat}(h:Nm->Nm)(l:List Nat):ren h (n+1) (usV l)=usV l:=rfl
theorem yczf{n:Nat}(D:Nm->Bool)(l:List Nat):cln D (n+1) (usV l)=true:=rfl
theorem ybqd{n:Nat}(fr:List Nm)(o:Own)(l:List Nat):ycf fr o (n+1) (usV l)=usV l:=rfl
theorem ycvz{n:Nat}(fr:List Nm)(o:Own)(l:List Nat):pok fr o (n+1) (usV l)=True:=rfl
theorem ybog(l:List Nat):SV.cells (usV l) = [usV l]:=rfl
theorem ybdq(l:List Conf):one1 (ydd l)=true:=rfl
theorem yzs{n:Nat}(l:List Conf):owned (n+1) (ydd l)=false:=rfl
theorem yvv{n:Nat}(l:List Conf):scalar (n+1) (ydd l)=false:=rfl
theorem ybeq{n:Nat}(o:Own)(l:List Conf):view o (n+1) (ydd l)=ydd l:=rfl
theorem ybkn{n:Nat}(o:Own)(l:List Conf):vok o (n+1) (ydd l)=True:=rfl
theorem yblm{n:Nat}(h:Nm->Nm)(l:List Conf):ren h (n+1) (ydd l)=ydd l:=rfl
theorem ybjz{n:Nat}(D:Nm->Bool)(l:List Conf):cln D (n+1) (ydd l)=true:=rfl
theorem yzx{n:Nat}(fr:List Nm)(o:Own)(l:List Conf):ycf fr o (n+1) (ydd l)=ydd l:=rfl
theorem ybkq{n:Nat}(fr:List Nm)(o:Own)(l:List Conf):pok fr o (n+1) (ydd l)=True:=rfl
theorem ybaw(l:List Conf):SV.cells (ydd l) = [ydd l]:=rfl
theorem ybjj(l:List Cnt):one1 (ydn l)=true:=rfl
theorem ybcq{n:Nat}(l:List Cnt):owned (n+1) (ydn l)=false:=rfl
theorem ybaf{n:Nat}(l:List Cnt):scalar (n+1) (ydn l)=false:=rfl
theorem ybig{n:Nat}(o:Own)(l:List Cnt):view o (n+1) (ydn l)=ydn l:=rfl
theorem ybul{n:Nat}(o:Own)(l:List Cnt):vok o (n+1) (ydn l)=True:=rfl
theorem ybpz{n:Nat}(h:Nm->Nm)(l:List Cnt):ren h (n+1) (ydn l)=ydn l:=rfl
theorem ybmt{n:Nat}(D:Nm->Bool)(l:List Cnt):cln D (n+1) (ydn l)=true:=rfl
theorem ybbv{n:Nat}(fr:List Nm)(o:Own)(l:List Cnt):ycf fr o (n+1) (ydn l)=ydn l:=rfl
theorem ybvl{n:Nat}(fr:List Nm)(o:Own)(l:List Cnt):pok fr o (n+1) (ydn l)=True:=rfl
theorem ybbx(l:List Cnt):SV.cells (ydn l) = [ydn l]:=rfl
theorem ybxx(l:List Bool):one1 (blV l)=true:=rfl
theorem yblq{n:Nat}(l:List Bool):owned (n+1) (blV l)=false:=rfl
theorem ybje{n:Nat}(l:List Bool):scalar (n+1) (blV l)=false:=rfl
theorem ybyi{n:Nat}(o:Own)(l:List Bool):view o (n+1) (blV l)=blV l:=rfl
theorem ycwf{n:Nat}(o:Own)(l:List Bool):vok o (n+1) (blV l)=True:=rfl
theorem yczq{n:Nat}(h:Nm->Nm)(l:List Bool):ren h (n+1) (blV l)=blV l:=rfl
theorem ycvx{n:Nat}(D:Nm->Bool)(l:List Bool):cln D (n+1) (blV l)=true:=rfl
theorem ybsh{n:Nat}(fr:List Nm)(o:Own)(l:List Bool):ycf fr o (n+1) (blV l)=blV l:=rfl
theorem ycvj{n:Nat}(fr:List Nm)(o:Own)(l:List Bool):pok fr o (n+1) (blV l)=True:=rfl
theorem ybml(l:List Bool):SV.cells (blV l) = [blV l]:=rfl
attribute [go_sem] ycag ybum ybjb ybyb yctz ycsm yczf ybqd ycvz ybog ybdq yzs yvv ybeq ybkn yblm ybjz yzx ybkq ybaw ybjj ybcq ybaf ybig ybul ybpz ybmt ybbv ybvl ybbx ybxx yblq ybje ybyi ycwf yczq ycvx ybsh ycvj ybml
theorem Ct.found{P:Program}{g:FuncId}{args:List SV}{α:Type}{R:SV->α->Prop}{V:α->SV}{Q:SV->Prop}(h:Ct P g args fun r=>∃ x,R r x)(hs:∀ r x,R r x->Sim r (V x))(hq:∀ r x,R r x->Q (V x)):Ct P g args Q:=fun G m us h1 h2 h3=>by
 obtain⟨v,m',r,a,b,c,⟨x,hx⟩,e⟩:=h G m us h1 h2 h3;exact⟨v,m',V x,a,b,c,hq r x hx,hs r x hx _ _ _ e⟩
theorem Sys.run_len(S:Sys)(res:Nat->Nat->Nat):∀ (ws:List Nat) (c:Conf) (k:Cnt),(S.run res ws c k).length<=ws.length
 | [],_,_=>Nat.le_refl _
 | w :: ws,c,k=>by
  unfold Sys.run;split
  ·exact Nat.zero_le _
  ·simp only[List.length_cons];have:=Sys.run_len S res ws (S.mv c (res (S.en c) w)) (addP k (res (S.en c) w) (S.en (S.mv c (res (S.en c) w))));omega
structure RunD(S:Sys)(res:Nat->Nat->Nat)(ws:List Nat)(c:Conf)(n:Nat)(Cs:List Conf)(Ks:List Cnt):Prop where
 cs:(S.runs res ws c).map (·.1)=Cs
 ks:(S.runs res ws c).map (·.2)=Ks
 len:(S.runs res ws c).length=n
 pos:0<n
 le:n<=ws.length+1
theorem RunD.at_{S:Sys}{res:Nat->Nat->Nat}{ws:List Nat}{c:Conf}{n:Nat}{Cs:List Conf}{Ks:List Cnt}(h:RunD S res ws c n Cs Ks){k:Nat}(hk:k<n):(Cs.getD k [],Ks.getD k default) ∈ S.runs res ws c/\(S.runs res ws c)[k]? = some (Cs.getD k [],Ks.getD k default):=by
 have hk':k<(S.runs res ws c).length:=by rw[h.len];exact hk
 have e:(S.runs res ws c)[k]=(Cs.getD k [],Ks.getD k default):=by
  rw[<- h.cs,<- h.ks];simp[List.getD,hk']
 exact⟨by rw[<- e];exact List.getElem_mem hk',by rw[<- e];exact List.getElem?_eq_getElem hk'⟩
theorem RunD.lC{S:Sys}{res:Nat->Nat->Nat}{ws:List Nat}{c:Conf}{n:Nat}{Cs:List Conf}{Ks:List Cnt}(h:RunD S res ws c n Cs Ks):Cs.length=n:=by rw[<- h.cs,List.length_map,h.len]
theorem RunD.lK{S:Sys}{res:Nat->Nat->Nat}{ws:List Nat}{c:Conf}{n:Nat}{Cs:List Conf}{Ks:List Cnt}(h:RunD S res ws c n Cs Ks):Ks.length=n:=by rw[<- h.ks,List.length_map,h.len]
theorem runD(S:Sys)(res:Nat->Nat->Nat)(ws:List Nat)(c:Conf):∃ n Cs Ks,RunD S res ws c n Cs Ks :=
 ⟨_,_,_,rfl,rfl,rfl,by simp[Sys.runs],by have:=Sys.run_len S res ws c (ycs (S.en c));simp only[Sys.runs,List.length_cons];omega⟩
theorem RunD.last{S:Sys}{res:Nat->Nat->Nat}{ws:List Nat}{c:Conf}{n:Nat}{Cs:List Conf}{Ks:List Cnt}(h:RunD S res ws c n Cs Ks){k:Nat}(hk:k+1<n):S.en (Cs.getD k []) ≠ 0:=by
 have h1:=(h.at_ (show k<n by omega)).2
 exact Sys.runs_last (by rw[h.len];exact hk) h1
theorem ybxu {L:Conf->Bool} {S:Sys} {res:Nat->Nat->Nat} {ws:List Nat} {c:Conf} {n:Nat} {Cs:List Conf} {Ks:List Cnt} (h:RunD S res ws c n Cs Ks) {B:Nat->Bool} (hB:(fun k=>L (Cs.getD k []))=B) {kind rounds moves:Int} {fair silent ended:Bool}
  (hh:HeldOk ((S.runs res ws c).map fun p=>L p.1) ((S.runs res ws c).map (·.2)) rounds moves ended) (hl:n<=100000) {Q:SV->Prop} (hq:Q (.b true)) :
  Ct Tryz.prog 38 [.sl 1 n fun j=>[.b (B j)],.sl 5 n fun i=>cntV (Ks.getD i default),.ag [.i .i64 kind,.b fair,.b silent,.i .i64 rounds,.i .i64 moves],.b ended] Q:=by
 have lL:((S.runs res ws c).map fun p=>L p.1).length=n:=by rw[List.length_map,h.len]
 refine(ybya hh (by rw[lL];exact hl)).useS ⟨?_,?_,Sim.refl _,Sim.refl _,trivial⟩ hq
 ·unfold blV;rw[lL];refine sim_sl fun k hk=>?_
  have e:((S.runs res ws c).map fun p=>L p.1).getD k false=B k:=by
   rw[List.getD_eq_getElem?_getD,List.getElem?_map,(h.at_ hk).2,<- hB];rfl
  rw[e]
 ·unfold ydn;rw[h.ks,h.lK];exact Sim.refl _
theorem ybmb{S:Sys}{res:Nat->Nat->Nat}{ws:List Nat}{c:Conf}{n:Nat}{Cs:List Conf}{Ks:List Cnt}(h:RunD S res ws c n Cs Ks){ended:Bool}(he:decide (S.en (Cs.getD (n - 1) [])=0)=ended) :
  ended=true -> ∀ p,(S.runs res ws c)[(S.runs res ws c).length - 1]? = some p->S.en p.1=0:=fun hq p hp=>by
 rw[h.len]at hp;have h1:=(h.at_ (show n - 1<n by have:=h.pos;omega)).2
 rw[h1]at hp;cases hp
 rw[hq]at he;exact of_decide_eq_true he
end Sh
end Go.Proofs.YtiejahgklcjhkaaGreatDoor

namespace Go.Proofs.YtiejahgklcjhkaaGreatDoor
namespace Sh
theorem ybhb(S:Sys)(res:Nat->Nat->Nat):∀ (ws:List Nat) (c:Conf) (k:Cnt),(S.run res ws c k).length<ws.length->S.en (((c,k) :: S.run res ws c k).getD (S.run res ws c k).length default).1=0
 | [],c,k,h=>by simp at h
 | w :: ws,c,k,h=>by
  unfold Sys.run at h ⊢
  by_cases h0:S.en c=0
  ·simp only[if_pos h0];exact h0
  ·simp only[if_neg h0,List.length_cons]at h ⊢;exact ybhb S res ws _ _ (by omega)
theorem RunD.over{S:Sys}{res:Nat->Nat->Nat}{ws:List Nat}{c:Conf}{n:Nat}{Cs:List Conf}{Ks:List Cnt}(h:RunD S res ws c n Cs Ks):S.en (Cs.getD (n - 1) [])=0\/n=ws.length+1:=by
 by_cases q:n=ws.length+1
 ·exact .inr q
 ·left
  have hl:=h.len;have h1:=h.le
  have h2:=ybhb S res ws c (ycs (S.en c)) (by
   simp only[Sys.runs,List.length_cons]at hl;omega)
  have e:(S.run res ws c (ycs (S.en c))).length=n - 1:=by simp only[Sys.runs,List.length_cons]at hl;omega
  rw[e]at h2;have h3:=(h.at_ (show n - 1<n by have:=h.pos;omega)).2
  have e2:((c,ycs (S.en c)) :: S.run res ws c (ycs (S.en c))).getD (n - 1) default=(Cs.getD (n - 1) [],Ks.getD (n - 1) default):=by
   rw[List.getD_eq_getElem?_getD];have h3:((c,ycs (S.en c)) :: S.run res ws c (ycs (S.en c)))[n - 1]? = some (Cs.getD (n - 1) [],Ks.getD (n - 1) default):=h3;rw[h3];rfl
  rw[e2]at h2;exact h2
theorem yrh{f:Int × Int->Bool}{ls:List (Int × Int)}(h:∃ l ∈ ls,f l=true):∃ i:Nat,yxf f ls=i/\i<ls.length/\f (ls.getD i (0,0))=true:=by
 unfold yxf;cases hq:ls.findIdx? f with
 | none =>
  obtain⟨l,h1,h2⟩:=h;have:=List.findIdx?_eq_none_iff.1 hq l h1;rw[h2]at this;cases this
 | some i =>
  obtain⟨h1,h2,_⟩:=List.findIdx?_eq_some_iff_getElem.1 hq;exact⟨i,rfl,h1,by rw[getD_at h1];exact h2⟩
end Sh
end Go.Proofs.YtiejahgklcjhkaaGreatDoor

namespace Go.Proofs.YtiejahgklcjhkaaGreatDoor
def ydhg(na:ByteArray):RuleT:=⟨na,.bin 41 (.bin 35 (eVar 0) yzo) (.agg 21 yki),[(0,.agg 23 yki)]⟩
def ydco(nb:ByteArray):RuleT:=⟨nb,.bin 41 (.bin 35 (eVar 0) yzo) (.agg 21 ylc),[(0,.agg 23 ylc)]⟩
def ydbx(nw:ByteArray):RuleT:=⟨nw,.agg 21 yzl,[(0,yzo)]⟩
def gAcc(g:Gr)(c:Conf)(v:Nat):Prop:=toP g c v=none /\ ∃ u,adj g v u/\toP g c u=some v
def gPro(g:Gr)(c:Conf)(v:Nat):Prop:=toP g c v=none /\ ∃ u,adj g v u/\toP g c u=none
def gWit(g:Gr)(c:Conf)(v:Nat):Prop:=∃ u w,toP g c v=some u/\toP g c u=some w/\w ≠ v
section
variable {nm np na nb nw:ByteArray} {g:Gr} {c:Conf} {u v s:Nat}
theorem ypa(hg:GoodG g)(h:MtC g c)(hv:v<g.ids.length):toP g c v=none ↔ pAt c v = -1:=by
 have:=(h.row v hv).2;have hvp:v<g.ports.length:=by have:=hg.2.2.1;omega
 unfold toP;constructor
 ·intro q
  by_cases q0:0<=pAt c v
  ·rw[if_pos ⟨hvp,q0⟩]at q;cases q
  ·omega
 ·intro q;rw[if_neg (by omega)]
theorem ywl(hg:GoodG g)(h:MtC g c)(e:toP g c v=some u):adj g v u:=by
 have hpl:=hg.2.2.1;unfold toP at e
 by_cases q0:v<g.ports.length/\0<=pAt c v
 ·have hrow:=(h.row v (by omega)).2
  rw[if_pos q0]at e;have e:=Option.some.inj e;have hk:(pAt c v).toNat<(g.ports.getD v []).length:=by omega
  rw[Sh.getD_at hk]at e;have:=(mem_adj hg (by omega) (List.getElem_mem hk)).2.2.1
  rwa [e]at this
 ·rw[if_neg q0]at e;cases e
theorem ybts(f:Int × Int->Bool)(x:Ex)(hx:∀ q:Nat,q<(g.ports.getD v []).length->ycd g c v x q=ybf (f (yx g v q))):ycd g c v (.agg 21 x) (-1)=ybf ((g.ports.getD v []).any f):=by
 rw[<- ysv];show yfl 21 _=_;congr 1;exact ybay g v _ _ fun q hq=>hx q hq
theorem ybgz(f:Int × Int->Bool)(x:Ex)(hx:∀ q:Nat,q<(g.ports.getD v []).length->ycd g c v x q=ybf (f (yx g v q))):ycd g c v (.agg 23 x) (-1)=yxf f (g.ports.getD v []):=by
 rw[<- ywh];show yfl 23 _=_;unfold yfl;rw[if_neg (by decide),if_neg (by decide),if_neg (by decide),if_pos rfl]
 congr 1;exact ybay g v _ _ fun q hq=>hx q hq
theorem yxn{q:Nat}:ycd g c v ylc q=ybf (ynv c (yx g v q)):=rfl
theorem ybgm(hg:GoodG g)(h:MtC g c)(hv:v<g.ports.length):(g.ports.getD v []).any (ynx g c v)=true ↔ ∃ u,adj g v u/\toP g c u=some v:=by
 rw[List.any_eq_true];constructor
 ·rintro⟨l,hl,hb⟩;exact⟨_,(mem_adj hg hv hl).2.2.1,(ypt hg h hv hl).1 hb⟩
 ·rintro⟨u,hu,e⟩;obtain⟨l,hl,el⟩:=yhz hu;exact⟨l,hl,(ypt hg h hv hl).2 (by rw[el];exact e)⟩
theorem ybgs(hg:GoodG g)(h:MtC g c)(hv:v<g.ports.length):(g.ports.getD v []).any (ynv c)=true ↔ ∃ u,adj g v u/\toP g c u=none:=by
 rw[List.any_eq_true];constructor
 ·rintro⟨l,hl,hb⟩;exact⟨_,(mem_adj hg hv hl).2.2.1,(ypm hg h hv hl).1 hb⟩
 ·rintro⟨u,hu,e⟩;obtain⟨l,hl,el⟩:=yhz hu;exact⟨l,hl,(ypm hg h hv hl).2 (by rw[el];exact e)⟩
def yzn(g:Gr)(c:Conf)(v q:Nat):Bool:=(((q:Int) == pAt c v) && (endP c 0 (yx g v q) != -1)) && (endP c 0 (yx g v q) != yeb (g.ports.getD (yx g v q).1.toNat []) v)
theorem ycxl(hv:v<g.ports.length){q:Nat}(hq:q<(g.ports.getD v []).length):ycd g c v yzl q=ybf (yzn g c v q):=by
 have b41:∀ a b:Bool,binP 41 (ybf a) (ybf b)=ybf (a && b):=fun a b=>by cases a<;>cases b<;>rfl
 have b36:∀ a b:Int,binP 36 a b=ybf (a != b):=fun a b=>rfl;have b35:∀ a b:Int,binP 35 a b=ybf (a == b):=fun a b=>rfl;show binP 41 (binP 41 (binP 35 (q:Int) (pAt c v)) (binP 36 (endP c 0 (yx g v q)) (-1))) (binP 36 (endP c 0 (yx g v q)) (ycd g c v (.leaf 17 0) q))=_;rw[ybma hv hq,b35,b36,b36,b41,b41];rfl
theorem ycvb(hg:GoodG g)(h:MtC g c)(hv:v<g.ids.length):ycd g c v (.agg 21 yzl) (-1)=ybf ((List.range (g.ports.getD v []).length).any (yzn g c v)):=by
 have hpl:=hg.2.2.1;rw[<- ysv];show yfl 21 _=_;congr 1;refine List.map_congr_left fun q hq=>?_;exact ycxl (by omega) (List.mem_range.1 hq)
theorem ybzq(hg:GoodG g)(h:MtC g c)(hv:v<g.ids.length):(List.range (g.ports.getD v []).length).any (yzn g c v)=true ↔ gWit g c v:=by
 have hpl:=hg.2.2.1;have hrow:=(h.row v hv).2
 have key:∀ q:Nat,q<(g.ports.getD v []).length->(yzn g c v q=true ↔ (q:Int)=pAt c v/\toP g c (yx g v q).1.toNat ≠ none/\toP g c (yx g v q).1.toNat ≠ some v):=fun q hq=>by
  have hm:yx g v q ∈ g.ports.getD v []:=by
   unfold yx;rw[Sh.getD_at hq];exact List.getElem_mem hq
  have i1:=ypt hg h (by omega) hm
  have i2:=ypm hg h (by omega) hm
  unfold yzn;rw[Bool.and_eq_true,Bool.and_eq_true,beq_iff_eq,bne_iff_ne,bne_iff_ne];unfold ynx at i1;unfold ynv at i2;rw[beq_iff_eq]at i1 i2;constructor
  ·rintro⟨⟨a,b⟩,d⟩;exact⟨a,fun e=>b (i2.2 e),fun e=>d (i1.2 e)⟩
  ·rintro⟨a,b,d⟩;exact⟨⟨a,fun e=>b (i2.1 e)⟩,fun e=>d (i1.1 e)⟩
 have at_:∀ q:Nat,(q:Int)=pAt c v->toP g c v=some (yx g v q).1.toNat:=fun q e=>by
  unfold toP yx;rw[if_pos ⟨by omega,by omega⟩,<- e,Int.toNat_natCast]
 rw[List.any_eq_true];constructor
 ·rintro⟨q,hq,hl⟩;obtain⟨a,b,d⟩:=(key q (List.mem_range.1 hq)).1 hl;cases e:toP g c (yx g v q).1.toNat with
  | none=>exact absurd e b
  | some w=>exact⟨(yx g v q).1.toNat,w,at_ q a,e,fun r=>d (by rw[e,r])⟩
 ·rintro⟨u,w,h1,h2,h3⟩
  have q0:0<=pAt c v:=by
   refine Classical.byContradiction fun r=>?_;unfold toP at h1;rw[if_neg (fun t=>r t.2)]at h1;cases h1
  obtain⟨q,hq⟩:=Int.eq_ofNat_of_zero_le q0;have hl:q<(g.ports.getD v []).length:=by omega
  have e:=at_ q hq.symm;rw[h1]at e;have e:=Option.some.inj e;exact⟨q,List.mem_range.2 hl,(key q hl).2 ⟨hq.symm,(fun r=>by rw[<- e,h2]at r;cases r),fun r=>by rw[<- e,h2]at r;exact h3 (Option.some.inj r)⟩⟩
theorem ybmd(hg:GoodG g)(h:MtC g c)(hv:v<g.ids.length):(yhg g c v (ydhg na)=true ↔ gAcc g c v)/\(yhg g c v (ydco nb)=true ↔ gPro g c v)/\(yhg g c v (ydbx nw)=true ↔ gWit g c v):=by
 have hvp:v<g.ports.length:=by have:=hg.2.2.1;omega
 have b35:∀ a b:Int,binP 35 a b=ybf (a == b):=fun a b=>rfl;have b41:∀ a b:Bool,binP 41 (ybf a) (ybf b)=ybf (a && b):=fun a b=>by cases a<;>cases b<;>rfl
 refine⟨?_,?_,?_⟩
 ·show(binP 41 (binP 35 (pAt c v) (-1)) (ycd g c v (.agg 21 yki) (-1)) != 0)=true ↔ _;rw[ybts (ynx g c v) yki (fun q hq=>yyq hvp hq),b35,b41,yqe,Bool.and_eq_true,beq_iff_eq,ybgm hg h hvp,<- ypa hg h hv];exact Iff.rfl
 ·show(binP 41 (binP 35 (pAt c v) (-1)) (ycd g c v (.agg 21 ylc) (-1)) != 0)=true ↔ _;rw[ybts (ynv c) ylc (fun q hq=>yxn),b35,b41,yqe,Bool.and_eq_true,beq_iff_eq,ybgs hg h hvp,<- ypa hg h hv];exact Iff.rfl
 ·show(ycd g c v (.agg 21 yzl) (-1) != 0)=true ↔ _;rw[ycvb hg h hv,yqe];exact ybzq hg h hv
def ybty(g:Gr)(c:Conf)(v:Nat):Prop:=gAcc g c v\/gPro g c v\/gWit g c v
theorem ybnf(hg:GoodG g)(h:MtC g c)(hv:v<g.ids.length) :
  (gAcc g c v->yeu (ybd nm np na nb nw) g c v=0)/\(¬ gAcc g c v->gPro g c v->yeu (ybd nm np na nb nw) g c v=1) /\
  (¬ gAcc g c v -> ¬ gPro g c v->gWit g c v->yeu (ybd nm np na nb nw) g c v=2)/\(¬ ybty g c v->yeu (ybd nm np na nb nw) g c v = -1):=by
 obtain⟨h1,h2,h3⟩:=ybmd (na:=na) (nb:=nb) (nw:=nw) hg h hv;have e:yeu (ybd nm np na nb nw) g c v=(match [ydhg na,ydco nb,ydbx nw].findIdx? (yhg g c v)with | some k=>(k:Int) | none=>-1):=rfl
 rw[e];simp only[List.findIdx?_cons,List.findIdx?_nil];refine⟨fun q=>?_,fun q r=>?_,fun q r t=>?_,fun q=>?_⟩
 ·rw[h1.2 q];rfl
 ·rw[Bool.eq_false_iff.2 fun e=>q (h1.1 e),h2.2 r];rfl
 ·rw[Bool.eq_false_iff.2 fun e=>q (h1.1 e),Bool.eq_false_iff.2 fun e=>r (h2.1 e),h3.2 t];rfl
 ·rw[Bool.eq_false_iff.2 fun e=>q (.inl (h1.1 e)),Bool.eq_false_iff.2 fun e=>q (.inr (.inl (h2.1 e))),Bool.eq_false_iff.2 fun e=>q (.inr (.inr (h3.1 e)))];rfl
theorem ycyh(hg:GoodG g)(h:MtC g c)(hv:v<g.ids.length):(yw (ybd nm np na nb nw) g c).testBit v=true ↔ ybty g c v:=by
 obtain⟨r1,r2,r3,r4⟩:=ybnf (nm:=nm) (np:=np) (na:=na) (nb:=nb) (nw:=nw) hg h hv;unfold yw;rw[yjz,decide_eq_true hv,Bool.true_and,decide_eq_true_iff]
 by_cases q1:gAcc g c v
 ·rw[r1 q1];exact⟨fun _=>.inl q1,fun _=>by omega⟩
 ·by_cases q2:gPro g c v
  ·rw[r2 q1 q2];exact⟨fun _=>.inr (.inl q2),fun _=>by omega⟩
  ·by_cases q3:gWit g c v
   ·rw[r3 q1 q2 q3];exact⟨fun _=>.inr (.inr q3),fun _=>by omega⟩
   ·have:¬ ybty g c v:=fun h=>by rcases h with h | h | h<;>contradiction
    rw[r4 this];exact⟨fun h=>by omega,fun h=>absurd h this⟩
theorem yczm(h:MtC g c)(hv:v<g.ids.length)(hb:s.testBit v=false):toP g (yem (ybd nm np na nb nw) g c s) v=toP g c v:=by
 unfold toP pAt;rw[Sh.yky _ g c s (by rw[h.len];exact hv),hb]
 rfl
theorem ydlb(hg:GoodG g)(h:MtC g c)(hv:v<g.ids.length)(hb:s.testBit v=true)(ha:ybty g c v):Mv g (toP g c) v (toP g (yem (ybd nm np na nb nw) g c s) v):=by
 have hpl:=hg.2.2.1;have hvp:v<g.ports.length:=by omega
 obtain⟨r1,r2,r3,_⟩:=ybnf (nm:=nm) (np:=np) (na:=na) (nb:=nb) (nw:=nw) hg h hv
 obtain⟨x,hx⟩:∃ x,c.getD v [] = [x]:=by
  have:=(h.row v hv).1
  match hq:c.getD v [],this with
  | [x],_=>exact⟨x,rfl⟩
 have st:=Sh.yky (ybd nm np na nb nw) g c s (v:=v) (by rw[h.len];exact hv)
 rw[hb,if_pos rfl]at st
 have at_:∀ k:Nat,(yem (ybd nm np na nb nw) g c s).getD v [] = [(k:Int)]->toP g (yem (ybd nm np na nb nw) g c s) v=some (yx g v k).1.toNat:=fun k e=>by
  unfold toP pAt;rw[e];show(if v<g.ports.length/\0<=(k:Int)then some ((g.ports.getD v []).getD (k:Int).toNat (0,0)).1.toNat else none)=_
  rw[if_pos ⟨hvp,by omega⟩,Int.toNat_natCast]
  rfl
 have bring:∀ k:Int,-1<=k->k<(g.ports.getD v []).length->ygf 3 (yu g v ⟨np,3,0,0,0,0⟩) k=k:=fun k h1 h2=>by
  unfold ygf;rw[bT3];simp only
  first
   | rw[if_pos (by omega)]
   | (split<;>first | rfl | omega)
 by_cases q1:gAcc g c v
 ·obtain⟨k,e1,e2,e3⟩:=Sh.yrh (f:=ynx g c v) (ls:=g.ports.getD v []) (by
   have:=(ybgm hg h hvp).2 q1.2
   rwa [List.any_eq_true]at this)
  have hm:yx g v k ∈ g.ports.getD v []:=by
   unfold yx;rw[Sh.getD_at e2];exact List.getElem_mem e2
  rw[r1 q1]at st
  have:(yem (ybd nm np na nb nw) g c s).getD v [] = [(k:Int)]:=by
   rw[st];unfold ywm yji;rw[hx];show[ygf 3 (yu g v ⟨np,3,0,0,0,0⟩) (ycd g c v (.agg 23 yki) (-1))]=_;rw[ybgz (ynx g c v) yki (fun q hq=>yyq hvp hq),e1,bring _ (by omega) (by omega)]
  rw[at_ k this];exact .accept _ q1.1 (mem_adj hg hvp hm).2.2.1 ((ypt hg h hvp hm).1 e3)
 ·by_cases q2:gPro g c v
  ·obtain⟨k,e1,e2,e3⟩:=Sh.yrh (f:=ynv c) (ls:=g.ports.getD v []) (by
    have:=(ybgs hg h hvp).2 q2.2
    rwa [List.any_eq_true]at this)
   have hm:yx g v k ∈ g.ports.getD v []:=by
    unfold yx;rw[Sh.getD_at e2];exact List.getElem_mem e2
   rw[r2 q1 q2]at st
   have:(yem (ybd nm np na nb nw) g c s).getD v [] = [(k:Int)]:=by
    rw[st];unfold ywm yji;rw[hx];show[ygf 3 (yu g v ⟨np,3,0,0,0,0⟩) (ycd g c v (.agg 23 ylc) (-1))]=_;rw[ybgz (ynv c) ylc (fun q hq=>yxn),e1,bring _ (by omega) (by omega)]
   rw[at_ k this];exact .propose _ q2.1 (mem_adj hg hvp hm).2.2.1 ((ypm hg h hvp hm).1 e3) fun x hx e=>q1 ⟨q2.1,x,hx,e⟩
  ·have q3:gWit g c v:=by rcases ha with q | q | q<;>first | exact q | contradiction
   rw[r3 q1 q2 q3]at st
   have:(yem (ybd nm np na nb nw) g c s).getD v [] = [-1]:=by
    rw[st];unfold ywm yji;rw[hx];show[ygf 3 (yu g v ⟨np,3,0,0,0,0⟩) (-1)]=_;rw[bring _ (by omega) (by omega)]
   have e:toP g (yem (ybd nm np na nb nw) g c s) v=none:=by
    unfold toP pAt;rw[this];exact if_neg fun r=>absurd r.2 (by decide)
   rw[e];obtain⟨u,w,h1,h2,h3⟩:=q3;exact .withdraw u w h1 h2 h3
end
end Go.Proofs.YtiejahgklcjhkaaGreatDoor

namespace Go.Proofs.YtiejahgklcjhkaaGreatDoor
section
variable {nm np na nb nw:ByteArray} {g:Gr} {c:Conf} {u v s:Nat}
theorem ybea(hg:GoodG g):Sh.yvq (ybd nm np na nb nw) g=true:=by
 have h1:=hg.1;have h2:=hg.2.1;have h3:=hg.2.2.1;simp[Sh.yvq,ybd,yu]
 try omega
theorem ydkj:(ybd nm np na nb nw).ok=true:=by kernel_rfl
theorem ybyq(hg:GoodG g):∀ u,¬ adj g u u:=fun u h=>by
 obtain⟨hu,_⟩:=hg.adj_lt h;obtain⟨l,hl,e⟩:=yec.1 h;have e3:g.ports[u]? = some (g.ports.getD u []):=by simp[List.getD,hu]
 exact(hg.link e3 hl).2.2.1 e
def yti(g:Gr)(s:Nat):List Nat:=(List.range g.ids.length).filter s.testBit
theorem ybdt{α:Type}(f:α->Bool)(l:List α)(x:α):((l ++ [x]).filter f).length=(l.filter f).length+(f x).toNat:=by
 rw[List.filter_append,List.length_append];cases h:f x<;>simp[h]
theorem ynk(s:Nat):∀ n,ydz s n=((List.range n).filter s.testBit).length
 | 0=>rfl
 | n+1=>by
  rw[List.range_succ,ybdt,<- ynk s n];rfl
theorem ytv{s n:Nat}(h:s<2 ^ n):∀ d,ydz s (n+d)=ydz s n
 | 0=>rfl
 | d+1=>by
  show ydz s (n+d)+(s.testBit (n+d)).toNat=_;rw[ytv h d,Nat.testBit_lt_two_pow (Nat.lt_of_lt_of_le h (Nat.pow_le_pow_right (by omega) (by omega)))]
  rfl
theorem yboi(hg:GoodG g)(hv:¬ v<g.ids.length):toP g c v=none:=by
 have:=hg.2.2.1;unfold toP;rw[if_neg (fun r=>hv (by omega))]
theorem ycpl(hg:GoodG g)(h:MtC g c):toP g (yem (ybd nm np na nb nw) g c s)=fun x=>if x ∈ yti g s then toP g (yem (ybd nm np na nb nw) g c s) x else toP g c x:=by
 funext x
 by_cases q:x ∈ yti g s
 ·rw[if_pos q]
 ·rw[if_neg q]
  by_cases hx:x<g.ids.length
  ·refine yczm h hx ?_;cases hb:s.testBit x with
   | false=>rfl
   | true=>exact absurd (List.mem_filter.2 ⟨List.mem_range.2 hx,hb⟩) q
  ·rw[yboi hg hx,yboi hg hx]
theorem ybif(hg:GoodG g)(hs:s<2 ^ g.ids.length):popP s=(yti g s).length:=by
 have h2:=hg.2.1;have h3:=hg.2.2.1;unfold yti;rw[<- ynk];show ydz s 32=_;have:32=g.ids.length+(32 - g.ids.length):=by omega
 rw[this,ytv hs]
structure MtJ(nm np na nb nw:ByteArray)(g:Gr)(c:Conf)(k:Cnt):Prop where
 valid:ydw (ybd nm np na nb nw) g c=true
 moves:∃ I,PtI g (toP g c) I/\2 * k.moves+potN g (toP g c) I<=2 * g.ports.length+2 * yea g
theorem ybmh{a b n:Nat}(h:subB a b)(hb:b<2 ^ n):a<2 ^ n:=by
 refine Nat.lt_pow_two_of_testBit _ fun i hi=>?_;cases q:a.testBit i with
 | false=>rfl
 | true =>
  have:=h i q;rw[Nat.testBit_lt_two_pow (Nat.lt_of_lt_of_le hb (Nat.pow_le_pow_right (by omega) hi))]at this
  cases this
theorem ycvr(hg:GoodG g){I:Nat->Prop}(hV:ydw (ybd nm np na nb nw) g c=true)(hi:PtI g (toP g c) I)(hs:subB s (yw (ybd nm np na nb nw) g c))(hD:yoo g s) :
  ∃ I',PtI g (toP g (yem (ybd nm np na nb nw) g c s)) I'/\potN g (toP g (yem (ybd nm np na nb nw) g c s)) I'+2 * popP s<=potN g (toP g c) I:=by
 have hpl:=hg.2.2.1;have h:=ylv hV;have bit:∀ v ∈ yti g s,v<g.ids.length/\s.testBit v=true:=fun v hv=>⟨List.mem_range.1 (List.mem_filter.1 hv).1,(List.mem_filter.1 hv).2⟩
 obtain⟨I',h1,h2⟩:=yxh hg (toP g (yem (ybd nm np na nb nw) g c s)) (yti g s) (toP g c) I hi (List.nodup_range.filter _) (fun v hv=>by have:=(bit v hv).1;omega)
  (fun v hv w hw ha=>by have:=hD v w ha (bit v hv).2;rw[(bit w hw).2]at this;cases this)
  (fun v hv=>ydlb hg h (bit v hv).1 (bit v hv).2 ((ycyh hg h (bit v hv).1).1 (hs v (bit v hv).2)))
 refine⟨I',?_,?_⟩
 ·rw[ycpl hg h];exact h1
 ·rw[ybif hg (ybmh hs (Sh.ybkb _ g c)),ycpl hg h];exact h2
theorem ybec(hg:GoodG g){res:Nat->Nat->Nat}(hr:ResD (yoo g) res){ws:List Nat}{c:Conf}(hv:ydw (ybd nm np na nb nw) g c=true):∀ p ∈ (ybc (ybd nm np na nb nw) g).runs res ws c,MtJ nm np na nb nw g p.1 p.2:=by
 refine Sys.runs_allD (S:=ybc (ybd nm np na nb nw) g) hr (J:=MtJ nm np na nb nw g) (fun c k s hJ h0 hs hD=>?_) ?_
 ·refine⟨Sh.ytb hg ydkj (ybea hg) hJ.valid s,?_⟩;obtain⟨I,h1,h2⟩:=hJ.moves;obtain⟨I',h3,h4⟩:=ycvr hg hJ.valid h1 hs hD;refine⟨I',h3,?_⟩;show 2 * (k.moves+popP s)+potN g (toP g (yem _ g c s)) I'<=_;omega
 ·have h:=ylv hv;refine⟨hv,fun _=>True,⟨fun v u e=>ywl hg h e,fun v u _ hn=>absurd trivial hn⟩,?_⟩;have:=ybsr g (toP g c) fun _=>True;show 2 * 0+_<=_;omega
theorem ybht{k:Cnt}(hJ:MtJ nm np na nb nw g c k):k.moves<=g.ports.length+yea g:=by
 obtain⟨I,_,h⟩:=hJ.moves;omega
def ywb(g:Gr)(c:Conf):Prop:=(∀ v u,toP g c v=some u->toP g c u=some v) /\ ∀ v u,adj g v u->toP g c v=none->toP g c u ≠ none
theorem yyw(hg:GoodG g)(h:MtC g c):(∀ v,v<g.ids.length -> ¬ ybty g c v) ↔ ywb g c:=by
 have hpl:=hg.2.2.1;constructor
 ·intro ha;refine⟨fun v u e=>?_,fun v u hu e1 e2=>?_⟩
  ·have had:=ywl hg h e;obtain⟨hv,hu⟩:=hg.adj_lt had;cases q:toP g c u with
   | none=>exact absurd (.inl ⟨q,v,hg.adj_symm had,e⟩) (ha u (by omega))
   | some w =>
    by_cases r:w=v
    ·rw[r]
    ·exact absurd (.inr (.inr ⟨u,w,e,q,r⟩)) (ha v (by omega))
  ·obtain⟨hv,_⟩:=hg.adj_lt hu;exact ha v (by omega) (.inr (.inl ⟨e1,u,hu,e2⟩))
 ·rintro⟨h1,h2⟩ v hv (⟨q,u,hu,e⟩ | ⟨q,u,hu,e⟩ | ⟨u,w,e1,e2,e3⟩)
  ·have:=h1 u v e;rw[q]at this;cases this
  ·exact h2 v u hu q e
  ·have:=h1 v u e1;rw[e2]at this;exact e3 (Option.some.inj this)
theorem ycah(hg:GoodG g)(h:MtC g c):yw (ybd nm np na nb nw) g c=0 ↔ ywb g c:=by
 rw[<- yyw hg h];constructor
 ·intro he v hv hq;have:=(ycyh (nm:=nm) (np:=np) (na:=na) (nb:=nb) (nw:=nw) hg h hv).2 hq;rw[he]at this;simp at this
 ·intro ha;rw[ybp];intro i
  by_cases hi:i<g.ids.length
  ·cases q:(yw (ybd nm np na nb nw) g c).testBit i with
   | false=>rfl
   | true=>exact absurd ((ycyh hg h hi).1 q) (ha i hi)
  ·exact Nat.testBit_lt_two_pow (Nat.lt_of_lt_of_le (Sh.ybkb _ g c) (Nat.pow_le_pow_right (by omega) (by omega)))
end
end Go.Proofs.YtiejahgklcjhkaaGreatDoor

namespace Go.Proofs.YtiejahgklcjhkaaGreatDoor
def mtT(g:Gr)(c:Conf)(v:Nat):Int:=(yvu g c 0).getD v (-1)
section
variable {g:Gr} {c:Conf} {u v:Nat}
theorem ybmq(hg:GoodG g)(h:MtC g c)(hv:v<g.ids.length):(∀ u,toP g c v=some u->mtT g c v=(u:Int))/\(toP g c v=none->mtT g c v = -1):=by
 have hpl:=hg.2.2.1;have hlt:v<c.length:=by rw[h.len];exact hv
 have hs:c[v]? = some (c.getD v []):=by simp[List.getD,hlt]
 have hrow:=(h.row v hv).2
 have e:mtT g c v=portOf g v (pAt c v):=by
  unfold mtT;rw[List.getD_eq_getElem?_getD,yyy g c 0 v _ hs];rfl
 rw[e];constructor
 ·intro u hu;unfold toP at hu
  by_cases q:v<g.ports.length/\0<=pAt c v
  ·rw[if_pos q]at hu;have hu:=Option.some.inj hu;have hk:(pAt c v).toNat<(g.ports.getD v []).length:=by omega
   have hm:=mem_adj hg q.1 (List.getElem_mem hk);rw[Sh.getD_at hk]at hu;unfold portOf
   first
    | (rw[if_pos (by omega),Sh.getD_at hk];omega)
    | (rw[if_neg (by omega),Sh.getD_at hk];omega)
    | (simp only[Sh.getD_at hk];split<;>omega)
  ·rw[if_neg q]at hu;cases hu
 ·intro hn;rw[(ypa hg h hv).1 hn];rfl
theorem yqi(hg:GoodG g)(h:MtC g c)(hv:v<g.ids.length):mtT g c v<0 ↔ toP g c v=none:=by
 obtain⟨h1,h2⟩:=ybmq hg h hv;cases e:toP g c v with
 | none=>rw[h2 e];exact⟨fun _=>rfl,fun _=>by decide⟩
 | some u=>rw[h1 u e];exact⟨fun q=>by omega,fun q=>nomatch q⟩
theorem yqf(hg:GoodG g)(h:MtC g c)(hv:v<g.ids.length):mtT g c v=(u:Int) ↔ toP g c v=some u:=by
 obtain⟨h1,h2⟩:=ybmq hg h hv;cases e:toP g c v with
 | none=>rw[h2 e];exact⟨fun q=>by omega,fun q=>nomatch q⟩
 | some w=>rw[h1 w e];exact⟨fun q=>by rw[show w=u by omega],fun q=>by rw[Option.some.inj q]⟩
theorem ybyx(hg:GoodG g)(h:MtC g c):((∀ v,v<g.ids.length->0<=mtT g c v->mtT g c (mtT g c v).toNat=(v:Int)) /\ ∀ v l,v<g.ids.length->l ∈ g.ports.getD v [] -> ¬ (mtT g c v<0/\mtT g c l.1.toNat<0)) ↔ ywb g c:=by
 have hpl:=hg.2.2.1
 have inside:∀ {v u},toP g c v=some u->v<g.ids.length/\u<g.ids.length:=fun {v u} e=>by
  obtain⟨a,b⟩:=hg.adj_lt (ywl hg h e);omega
 constructor
 ·rintro⟨h1,h2⟩;refine⟨fun v u e=>?_,fun v u hu e1 e2=>?_⟩
  ·obtain⟨hv,hu⟩:=inside e;have ev:=(yqf hg h hv).2 e;have:=h1 v hv (by omega)
   rw[ev,Int.toNat_natCast]at this;exact(yqf hg h hu).1 this
  ·obtain⟨hv,hul⟩:=hg.adj_lt hu;obtain⟨l,hl,el⟩:=yhz hu;refine h2 v l (by omega) hl ⟨(yqi hg h (by omega)).2 e1,?_⟩
   rw[el];exact(yqi hg h (by omega)).2 e2
 ·rintro⟨h1,h2⟩;refine⟨fun v hv h0=>?_,fun v l hv hl ⟨q1,q2⟩=>?_⟩
  ·cases e:toP g c v with
   | none=>have:=(yqi hg h hv).2 e;omega
   | some u =>
    rw[(yqf hg h hv).2 e,Int.toNat_natCast];exact(yqf hg h (inside e).2).2 (h1 v u e)
  ·obtain⟨_,a2,a3,_⟩:=mem_adj hg (by omega) hl
   exact h2 v _ a3 ((yqi hg h hv).1 q1) ((yqi hg h (by omega)).1 q2)
end
end Go.Proofs.YtiejahgklcjhkaaGreatDoor

namespace Go.Proofs.YtiejahgklcjhkaaGreatDoor
section
variable {g:Gr} {t u v:Nat}
end
end Go.Proofs.YtiejahgklcjhkaaGreatDoor

namespace Go.Proofs.YtiejahgklcjhkaaGreatDoor
section
variable {g:Gr} {a b u v w x:Nat}
def ybwb(g:Gr)(v:Nat)(e:Int):Prop:=(∀ w,w<g.ports.length->dP g w v<=e) /\ ∃ w,w<g.ports.length/\dP g w v=e
theorem Tr.side(h:Tr g)(hu:adj g v u)(hw:w<g.ports.length):(dP g w u<dP g w v/\dP g w v=dP g w u+1)\/(dP g w v<dP g w u/\dP g w u=dP g w v+1):=by
 rcases h.up hw hu with q | q<;>omega
theorem Tr.link(h:Tr g)(hu:adj g v u){ev eu:Int}(he:ybwb g v ev)(he':ybwb g u eu) :
  ev=max (rchP g u v - 1) (rchP g v u)/\eu=max (rchP g v u - 1) (rchP g u v):=by
 have key:∀ {v u:Nat} {ev:Int},adj g v u->ybwb g v ev->ev=max (rchP g u v - 1) (rchP g v u):=fun {v u ev} hu he=>by
  obtain⟨hv,hu'⟩:=h.good.adj_lt hu;obtain⟨e1,w,hw,e2⟩:=he
  have hle:ev<=max (rchP g u v - 1) (rchP g v u):=by
   rcases h.side hu hw with⟨q,q2⟩ | ⟨q,q2⟩
   ·have:=ybaj hw q;omega
   ·have:=ybaj (u:=v) (v:=u) hw q;omega
  obtain⟨x,hx,x1,x2⟩:=h.rch_ex hu;obtain⟨y,hy,y1,y2⟩:=h.rch_ex (h.good.adj_symm hu);have a1:=e1 x hx;have a2:=e1 y hy;rcases h.side hu hy with⟨q,q2⟩ | ⟨q,q2⟩<;>omega
 exact⟨key hu he,key (h.good.adj_symm hu) he'⟩
theorem Tr.ht_link(h:Tr g)(hu:adj g v u):(rchP g u v - 1<=rchP g v u->htP g v=rchP g u v - 1)/\(rchP g v u<=rchP g u v - 1->rchP g v u<=htP g v):=by
 obtain⟨hv,hu'⟩:=h.good.adj_lt hu;have p1:=h.rch_pos hu;have p2:=h.rch_pos (h.good.adj_symm hu);have from_:2<=rchP g u v -> ∃ x,adj g v x/\x ≠ u/\rchP g u v=1+rchP g v x:=fun q=>h.rch_from (h.good.adj_symm hu) q;constructor
 ·intro hq;refine Int.le_antisymm ?_ ?_
  ·rcases Int.lt_or_le (htP g v) 1 with q | q
   ·omega
   ·obtain⟨a,b,ha,hb,hne,r1,r2⟩:=(ybto h.good hv q).1 (Int.le_refl _)
    by_cases e:a=u
    ·have:=h.rch_step (h.good.adj_symm hu) hb (fun e2=>hne (by rw[e,e2]))
     omega
    ·have:=h.rch_step (h.good.adj_symm hu) ha e;omega
  ·rcases Int.lt_or_le (rchP g u v) 2 with q | q
   ·have:=ybtx g v;omega
   ·obtain⟨x,hx,hne,e⟩:=from_ q;exact(ybto h.good hv (by omega)).2 ⟨x,u,hx,hu,hne,by omega,by omega⟩
 ·intro hq;obtain⟨x,hx,hne,e⟩:=from_ (by omega)
  exact(ybto h.good hv p1).2 ⟨x,u,hx,hu,hne,by omega,by omega⟩
theorem Tr.higher(h:Tr g)(hu:adj g v u){ev eu:Int}(he:ybwb g v ev)(he':ybwb g u eu):(htP g v<htP g u ↔ eu<ev)/\(htP g v=htP g u ↔ eu=ev):=by
 obtain⟨l1,l2⟩:=h.link hu he he';obtain⟨a1,a2⟩:=h.ht_link hu;obtain⟨b1,b2⟩:=h.ht_link (h.good.adj_symm hu);rcases Int.lt_trichotomy (rchP g v u) (rchP g u v)with q | q | q
 ·have:=b1 (by omega)
  have:=a2 (by omega)
  omega
 ·have:=a1 (by omega)
  have:=b1 (by omega)
  omega
 ·have:=a1 (by omega)
  have:=b2 (by omega)
  omega
def Peak(g:Gr)(v:Nat):Prop:=∀ u,adj g v u->htP g u<=htP g v
end
end Go.Proofs.YtiejahgklcjhkaaGreatDoor

namespace Go.Proofs.YtiejahgklcjhkaaGreatDoor
section
variable {g:Gr} {t u v a:Nat}
end
end Go.Proofs.YtiejahgklcjhkaaGreatDoor

namespace Go.Proofs.YtiejahgklcjhkaaGreatDoor
section
variable {g:Gr} {t:Nat}
theorem ybdg(g:Gr):yea g=((List.range g.ports.length).map fun v=>(g.ports.getD v []).length).sum:=by
 unfold yea;congr 1;refine List.ext_getElem (by simp) fun i h1 h2=>?_
 simp at h1;simp[List.getD,h1]
end
end Go.Proofs.YtiejahgklcjhkaaGreatDoor

namespace Go.Proofs.YtiejahgklcjhkaaGreatDoor
def sumTo(f:Nat->Nat):Nat->Nat
 | 0=>0
 | n+1=>sumTo f n+f n
theorem yxl(f h:Nat->Nat):∀ n,sumTo (fun v=>f v+h v) n=sumTo f n+sumTo h n
 | 0=>rfl
 | n+1=>by
  have:=yxl f h n;show sumTo (fun v=>f v+h v) n+(f n+h n)=(sumTo f n+f n)+(sumTo h n+h n);omega
theorem sumTo_congr{f h:Nat->Nat}:∀ n,(∀ v,v<n->f v=h v)->sumTo f n=sumTo h n
 | 0,_=>rfl
 | n+1,e=>by
  show sumTo f n+f n=sumTo h n+h n;rw[sumTo_congr n fun v hv=>e v (by omega),e n (by omega)]
theorem ybhk(a:Nat->Nat->Nat):∀ n,(∀ u v,u<n->v<n->a u v=a v u)->(∀ v,v<n->a v v=0)->sumTo (fun v=>sumTo (a v) n) n % 2=0
 | 0,_,_=>rfl
 | n+1,hs,h0=>by
  have ih:=ybhk a n (fun u v hu hv=>hs u v (by omega) (by omega)) fun v hv=>h0 v (by omega)
  have e1:sumTo (fun v=>sumTo (a v) (n+1)) n=sumTo (fun v=>sumTo (a v) n) n+sumTo (fun v=>a v n) n:=yxl (fun v=>sumTo (a v) n) (fun v=>a v n) n;have e2:sumTo (fun v=>a v n) n=sumTo (a n) n:=sumTo_congr n fun v hv=>hs v n (by omega) (by omega)
  have e3:=h0 n (by omega)
  show(sumTo (fun v=>sumTo (a v) (n+1)) n+(sumTo (a n) n+a n n)) % 2=0;omega
theorem ynw(p:Nat->Bool):∀ n,sumTo (fun v=>(p v).toNat) n=((List.range n).filter p).length
 | 0=>rfl
 | n+1=>by
  rw[List.range_succ,List.filter_append,List.length_append,<- ynw p n];show _+(p n).toNat=_;cases h:p n<;>simp[List.filter,h]
theorem yqs(f:Nat->Nat):∀ n,((List.range n).map f).sum=sumTo f n
 | 0=>rfl
 | n+1=>by rw[List.range_succ,List.map_append,List.sum_append,yqs f n];simp[sumTo]
def adjB(g:Gr)(v u:Nat):Bool:=(g.ports.getD v []).any fun l=>l.1 == (u:Int)
theorem ykh{g:Gr}{u v:Nat}:adjB g v u=true ↔ adj g v u:=by
 unfold adjB;rw[List.any_eq_true,yec];exact⟨fun⟨l,h,e⟩=>⟨l,h,beq_iff_eq.1 e⟩,fun⟨l,h,e⟩=>⟨l,h,beq_iff_eq.2 e⟩⟩
theorem ybol{g:Gr}(hg:GoodG g){v:Nat}(hv:v<g.ports.length):(g.ports.getD v []).length=sumTo (fun u=>(adjB g v u).toNat) g.ports.length:=by
 rw[ynw]
 have hn:((g.ports.getD v []).map (·.1)).Nodup:=by
  have h:=(hg.2.2.2.2.2.1 ⟨v,hv⟩).2;have e0:g.ports[v]=g.ports.getD v []:=by rw[Sh.getD_at hv]
  have h:((g.ports[v]).map (·.1)).Nodup:=h
  rwa [e0]at h
 refine Nat.le_antisymm ?_ ?_
 ·have:=yqn hn (l2:=((List.range g.ports.length).filter (adjB g v)).map fun j:Nat=>(j:Int)) fun x hx=>by
   obtain⟨l,hl,rfl⟩:=List.mem_map.1 hx;obtain⟨h1,h2,h3,_⟩:=mem_adj hg hv hl;exact List.mem_map.2 ⟨l.1.toNat,List.mem_filter.2 ⟨List.mem_range.2 h2,ykh.2 h3⟩,by omega⟩
  simpa using this
 ·have:=yqn (l1:=(List.range g.ports.length).filter (adjB g v)) (l2:=(g.ports.getD v []).map fun l=>l.1.toNat) (List.nodup_range.filter _) fun u hu=>by
   obtain⟨l,hl,e⟩:=yhz (ykh.1 (List.mem_filter.1 hu).2);exact List.mem_map.2 ⟨l,hl,e⟩
  simpa using this
theorem ybiv{g:Gr}(hg:GoodG g):yea g % 2=0:=by
 have e:yea g=sumTo (fun v=>sumTo (fun u=>(adjB g v u).toNat) g.ports.length) g.ports.length:=by
  rw[ybdg,yqs];exact sumTo_congr _ fun v hv=>ybol hg hv
 rw[e];refine ybhk _ _ (fun u v _ _=>?_) fun v _=>?_
 ·have:adjB g u v=adjB g v u:=by
   rw[Bool.eq_iff_iff,ykh,ykh];exact⟨hg.adj_symm,hg.adj_symm⟩
  rw[this]
 ·have:adjB g v v=false:=by
   rw[Bool.eq_false_iff];intro h;exact ybyq hg v (ykh.1 h)
  rw[this];rfl
end Go.Proofs.YtiejahgklcjhkaaGreatDoor

namespace Go.Proofs.YtiejahgklcjhkaaGreatDoor
namespace Sh
open Go Ev
def ycpk:LO:=[o3 (.box 27 (.tmp 0)) 3 0,o3 (.mv (.const (.slice none 0 0))) 6 0]
def ycmd:LO:=[mv' 1 10 0,ln' 10 11 1,o3 (.mk 3 1 8 [.i .i64 0] (.tmp 11) (.tmp 11)) 12 3,mv' 12 7 7]
def ycdx:LO:=[mv' 1 13 0,ln' 13 14 1,o3 (.mv (ci' 0)) 15 0]
def ybfd:LO:=[bn' .lss 15 14 16 0]
def yblw:LO:=[mv' 15 17 0,ix' 1 13 15 18 0,ld' false 1 18 19 2,mv' 17 8 7,mv' 19 9 15]
def ybpe:LO:=[mv' 7 20 0,mv' 8 21 0,ix' 1 20 21 22 3,o0 (.store 1 (.tmp 22) (.const (.int .i64 (-1)))) 7]
def ybtf:LO:=[mv' 9 23 0,mv' 2 24 0,ix' 1 23 24 25 3,ld' false 1 25 26 7,o3 (.bin .geq (.tmp 26) (ci' 0)) 27 15]
def ycht:LO:=[mv' 7 28 0,mv' 8 29 0,fa' 1 1 3 30 0,ld' false 1 30 31 4,mv' 8 32 0,ix' 1 31 32 33 28,ld' false 1 33 34 60,mv' 9 35 0,mv' 2 36 0,ix' 1 35 36 37 384,ld' false 1 37 38 896,ix' 2 34 38 39 2044,fa' 0 1 39 40 4092,ld' false 1 40 41 8188,ix' 1 28 29 42 16383,o0 (.store 1 (.tmp 42) (.tmp 41)) 32767]
def ybly:LO:=[o3 (.bin .add (.tmp 15) (ci' 1)) 43 0,mv' 43 15 1]
def ycrg:LO:=[mv' 7 44 0,mv' 44 6 1]
def c118:SC:=(.seq (.reg false ycpk) (.seq (.reg false ycmd) (.seq (.seq (.reg false ycdx) (.block 0 (.loop (.seq (.reg false ybfd) (.seq (.cond (.tmp 16) .skip (.exit 0)) (.seq (.block 1 (.seq (.reg false yblw) (.seq (.reg false ybpe) (.seq (.reg false ybtf) (.cond (.tmp 27) (.reg true ycht) .skip))))) (.reg false ybly))))))) (.seq (.reg false ycrg) .ret))))
theorem yctj:Fn 118 c118 [.t 6]:=fn_0 Tryz.func118 (by kernel_rfl) (by kernel_rfl)
end Sh
end Go.Proofs.YtiejahgklcjhkaaGreatDoor

namespace Go.Proofs.YtiejahgklcjhkaaGreatDoor
open Go
namespace Sh
open Ev Go.RowKit
set_option maxRecDepth 8000
def towP(g:Gr)(c:Conf)(x:Nat):List Int:=mapR c.length fun v=>if (c.getD v []).getD x 0 >= 0 then((g.ports.getD v []).getD ((c.getD v []).getD x 0).toNat (0,0)).1 else -1
theorem towP_len(g:Gr)(c:Conf)(x:Nat):(towP g c x).length=c.length:=yuw _ _
theorem ybcv{g:Gr}{c:Conf}{x v:Nat}(hv:v<c.length):(towP g c x).getD v 0=if (c.getD v []).getD x 0 >= 0 then((g.ports.getD v []).getD ((c.getD v []).getD x 0).toNat (0,0)).1 else -1:=gmR _ _ _ _ hv
set_option maxHeartbeats 1000000 in
theorem Towards_ret{g:Gr}{c:Conf}{x:Nat}(hl:c.length<=g.ports.length)(h1:g.ports.length<=1000)(hx:x<=1000)(hc:∀ v,v<c.length->x<(c.getD v []).length/\(c.getD v []).getD x 0<(g.ports.getD v []).length) :
  Returns Tryz.prog 118 [grV g,rowsV c,.i .i64 x] (intsV (towP g c x)):=by
 refine Returns.of (yctj _ _ ?_);obtain⟨n,hn⟩:∃ n,c.length=n:=⟨_,rfl⟩;obtain⟨T,hT⟩:∃ T,towP g c x=T:=⟨_,rfl⟩;have hTl:T.length=n:=by rw[<- hT,towP_len,hn]
 rw[hn]at hl hc;simp only[c118,ycpk,ycmd,ycdx,grV,rowsV,hn,clash,go_sem,Nat.reduceEqDiff,Nat.reduceAdd,Nat.reduceLT,↓reduceIte,reduceCtorEq];refine⟨⟨by omega,by omega⟩,?_⟩
 refine loop_on (σ:=Nat) (fun k=>⟨[(15,.i .i64 k),(14,.i .i64 n),(13,.sl 1 n fun v=>[intsV (c.getD v [])]),(2,.i .i64 x),(3,.pt (3,0) 0 0),(7,.os (12,0) 0 n true)],[(12,.one (some ⟨3,false,1,n,fun i=>[.i .i64 (if i<k then T.getD i 0 else 0)]⟩)),(3,.one (some ⟨27,true,2,1,fun _=>[intsV g.ids,portsV g.ports]⟩))]⟩) (fun k=>k<=n) (fun k=>n - k) 0 (Nat.zero_le _) ?_ ?_
 ·refine weak_all [] [] [] ?_;simp only[Nat.not_lt_zero,allQ,live,sim_self,Int.natCast_zero,go_sem,Nat.reduceEqDiff,↓reduceIte,reduceCtorEq]
 intro k hk
 by_cases hlt:k<n
 ·have t1:decide ((k:Int)<(n:Int))=true:=decide_eq_true (by omega)
  obtain⟨hcx,hcp⟩:=hc k hlt;have hat:=ybcv (g:=g) (x:=x) (show k<c.length by omega)
  rw[hT]at hat
  by_cases hp:(c.getD k []).getD x 0 >= 0
  ·have t2:decide ((c.getD k []).getD x 0 >= 0)=true:=decide_eq_true hp;rw[if_pos hp]at hat;simp only[ybfd,yblw,ybpe,ybtf,ycht,ybly,t1,t2,intsV,portsV,yg,splice,clash,go_sem,Nat.reduceEqDiff,Nat.reduceAdd,Nat.reduceLeDiff,↓reduceIte,reduceCtorEq]
   repeat (refine⟨by omega,?_⟩)
   refine⟨ikw (by omega) (by omega),?_⟩
   refine loop_again (k+1) (by omega) (by omega) ?_
   refine weak_all [] [] [] ?_;simp only[go_sem,allQ,live,sim_self,sim_i,go_sem,Nat.reduceEqDiff,↓reduceIte,reduceCtorEq];refine⟨by omega,fun i hi=>?_⟩
   by_cases q:i=k
   ·subst q;simp only[if_pos (Nat.lt_succ_self i),hat];simp only[go_sem,live,sim_self,go_sem,↓reduceIte,reduceCtorEq]
   ·have e:(if i<k+1 then T.getD i 0 else 0)=if i<k then T.getD i 0 else 0:=by
     by_cases q1:i<k
     ·rw[if_pos q1,if_pos (by omega)]
     ·rw[if_neg q1,if_neg (by omega)]
    simp only[if_neg q,e];simp only[go_sem,live,sim_self,go_sem,reduceCtorEq]
  ·have t2:decide ((c.getD k []).getD x 0 >= 0)=false:=decide_eq_false hp;rw[if_neg hp]at hat;simp only[ybfd,yblw,ybpe,ybtf,ybly,t1,t2,intsV,splice,clash,go_sem,Nat.reduceEqDiff,Nat.reduceAdd,↓reduceIte,reduceCtorEq]
   repeat (refine⟨by omega,?_⟩)
   refine⟨ikw (by omega) (by omega),?_⟩
   refine loop_again (k+1) (by omega) (by omega) ?_
   refine weak_all [] [] [] ?_;simp only[go_sem,allQ,live,sim_self,sim_i,go_sem,Nat.reduceEqDiff,↓reduceIte,reduceCtorEq];refine⟨by omega,fun i hi=>?_⟩
   by_cases q:i=k
   ·subst q;simp only[if_pos (Nat.lt_succ_self i),hat];simp only[go_sem,live,sim_self,go_sem,↓reduceIte,reduceCtorEq]
   ·have e:(if i<k+1 then T.getD i 0 else 0)=if i<k then T.getD i 0 else 0:=by
     by_cases q1:i<k
     ·rw[if_pos q1,if_pos (by omega)]
     ·rw[if_neg q1,if_neg (by omega)]
    simp only[if_neg q,e];simp only[go_sem,live,sim_self,go_sem,reduceCtorEq]
 ·obtain rfl:k=n:=by omega
  have t1:decide ((k:Int)<(k:Int))=false:=decide_eq_false (by omega)
  simp only[ybfd,ycrg,t1,clash,go_sem,Nat.reduceEqDiff,Nat.reduceAdd,↓reduceIte,reduceCtorEq];rw[hT];unfold intsV;rw[hTl];exact sim_sl fun i hi=>by rw[if_pos hi]
end Sh
end Go.Proofs.YtiejahgklcjhkaaGreatDoor

namespace Go.Proofs.YtiejahgklcjhkaaGreatDoor
namespace Sh
open Go Ev
def ychi:LO:=[o3 (.alloc 87 1 [.a (.string (ByteArray.mk #[])),.i .i64 0,.i .i64 0,.i .i64 0,.i .i64 0,.i .i64 0]) 2 0]
def ycmt:LO:=[mv' 0 3 0,o3 (.build [.a (.string (ByteArray.mk #[])),.i .i64 0,.i .i64 0,.i .i64 0,.i .i64 0,.i .i64 0] [(0,1,(.tmp 3)),(1,1,(ci' 3))]) 4 1,o0 (.store 6 (.tmp 2) (.tmp 4)) 3]
def c116:SC:=(.seq (.reg false ychi) (.seq (.reg false ycmt) .ret))
theorem ycvl:Fn 116 c116 [.c 2 true 6]:=fn_0 Tryz.func116 (by kernel_rfl) (by kernel_rfl)
end Sh
end Go.Proofs.YtiejahgklcjhkaaGreatDoor

namespace Go.Proofs.YtiejahgklcjhkaaGreatDoor
open Go
namespace Sh
open Ev Go.RowKit
set_option maxRecDepth 8000
end Sh
end Go.Proofs.YtiejahgklcjhkaaGreatDoor

namespace Go.Proofs.YtiejahgklcjhkaaGreatDoor
open Go
namespace Sh
open Ev Go.RowKit
set_option maxRecDepth 8000
def clmV(kind:Int)(fair silent:Bool)(rounds moves:Int):List SV:=[.i .i64 kind,.b fair,.b silent,.i .i64 rounds,.i .i64 moves]
theorem ybxr{g:Gr}(hg:GoodG g){c:Conf}(hR:RowsI c){G:List Int}(hG:∀ x ∈ G,I64 x):Returns Tryz.prog 102 [grV g,rowsV c,intsV G] (.b (yos g.ports.length (yco g G) c)):=by
 refine ybfg ⟨_,_,Tryz.func102,rfl⟩ (fun _=>.b) (fun _=>.simple rfl) fun H m us hH hr φ M w us' hRl hs hv=>?_
 obtain⟨u,us2,rfl,h1,h2⟩:∃ u us2,us=u :: us2/\RV H om0 (grV g) u/\RVL H om0 [rowsV c,intsV G] us2:=by
  cases hr with | cons x y=>exact⟨_,_,rfl,x,y⟩
 obtain⟨u2,u3,rfl,h3,h4⟩:=rvl2 h2
 obtain⟨u',us3,rfl,h5,h6⟩:∃ u' us3,us'=u' :: us3/\VR φ u u'/\VRL φ [u2,u3] us3:=by
  cases hv with | cons x y=>exact⟨_,_,rfl,x,y⟩
 obtain⟨u2',u3',rfl,h7,h8⟩:=yvs h6;exact yln u' u2' u3' g c G w (ycxs hH h1 h5 hRl hs (ycaq hg)) (ycuk hH h3 h7 hRl hs hR) (ints_at hH h4 h8 hRl hs hG) hg
end Sh
end Go.Proofs.YtiejahgklcjhkaaGreatDoor

namespace Go.Proofs.YtiejahgklcjhkaaGreatDoor
open Go
namespace Sh
open Ev Go.RowKit
set_option maxRecDepth 8000
theorem ybcs(nm:ByteArray):Returns Tryz.prog 116 [.a (.string nm)] (.ag (varC ⟨nm,3,0,0,0,0⟩)):=by
 refine Returns.of (ycvl _ _ ?_);simp only[c116,ychi,ycmt,varC,go_sem,Nat.reduceEqDiff,Nat.reduceAdd,Nat.reduceLeDiff,Nat.reduceLT,↓reduceIte,reduceCtorEq];exact Sim.refl _
end Sh
end Go.Proofs.YtiejahgklcjhkaaGreatDoor

namespace Go.Proofs.YtiejahgklcjhkaaGreatDoor
open Go
namespace Sh
open Ev Go.RowKit
set_option maxRecDepth 8000
theorem ytg{g:Gr}(hI:GrI g):Returns Tryz.prog 85 [grV g] (.b (ybt g)):=by
 refine ybfg ⟨_,_,Tryz.func85,rfl⟩ (fun _=>.b) (fun _=>.simple rfl) fun G m us hG hr φ M w us' hRl hs hv=>?_;obtain⟨u,rfl,h1⟩:=rvl1 hr;obtain⟨u',rfl,h2⟩:=yen hv;exact yxd u' g w (ycxs hG h1 h2 hRl hs hI)
end Sh
end Go.Proofs.YtiejahgklcjhkaaGreatDoor

