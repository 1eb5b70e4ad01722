/- Lemmas, joined: Lks CeC SiC SiD SiE SiF SiG Run Syn WlA WlB WlC Syl WcB CeD CmC ScDl NtT Cwn RvG. -/
import Derived.Test.YtiejahgklcjhkaaGreatDoorPkD16
import Derived.Test.YtiejahgklcjhkaaGreatDoorPkD15
import Derived.Test.YtiejahgklcjhkaaGreatDoorPkD11
import Derived.Test.YtiejahgklcjhkaaGreatDoorPkD12
import Derived.Test.YtiejahgklcjhkaaGreatDoorPkD5
import Derived.Test.YtiejahgklcjhkaaGreatDoorPkD6
import Derived.Test.YtiejahgklcjhkaaGreatDoorPkD10
import Derived.Test.YtiejahgklcjhkaaGreatDoorPkD9
set_option linter.unusedSimpArgs false
set_option linter.unusedVariables false
namespace Go.Proofs.YtiejahgklcjhkaaGreatDoor
open Go
namespace Sh
open Ev Go.RowKit
set_option maxRecDepth 8000
theorem ybtk{g:Gr}:Returns Tryz.prog 120 [grV g] (.fn 158 [] [.rf [yj g.ids,yu g.ports]]):=by
 refine Returns.of (yctg _ _ ?_);simp only[c120,ycem,ycik,grV,clash,go_sem,Nat.reduceEqDiff,Nat.reduceAdd,Nat.reduceLeDiff,Nat.reduceLT,↓reduceIte,reduceCtorEq];exact Sim.refl _
end Sh
end Go.Proofs.YtiejahgklcjhkaaGreatDoor

namespace Go.Proofs.YtiejahgklcjhkaaGreatDoor
open Go
def pkEl(f:Nat->Int)(s:Nat)(e:Ev.El):Nat:=if f e.v<f e.a.toNat then difB s (2 ^ e.v)else s
theorem ybig(f:Nat->Int)(g:Gr):(Ev.flatAt 0 g.ports).foldl (pkEl f) (2 ^ g.ports.length - 1)=yhx f g:=by
 rw[ybyx];rfl
theorem ybcr{g:Gr}(h:isTreeB g=true):yee g=true:=by
 unfold isTreeB at h;rw[Bool.and_eq_true]at h;exact h.1
theorem ybby{g:Gr}(h:isTreeB g=true):ybb g:=(ycm g).1 (yka (ybcr h))
theorem ybof{g:Gr}{c:Conf}(h:yii g c=true):isTreeB g=true/\c.length=g.ports.length /\ ∀ v,v<c.length->(c.getD v []).length=1:=by
 unfold yii at h;rw[Bool.and_eq_true]at h;have hck:=(ydy _ _ _).1 h.2;refine⟨h.1,hck.1,fun v hv=>?_⟩;rw[Sh.getD_at hv];have:=(hck.2 v _ (List.getElem?_eq_getElem hv)).1
 simpa [ydb]using this
namespace Sh
open Ev Go.RowKit
set_option maxRecDepth 8000
theorem ybtr:Returns Tryz.prog 25 [] (ycp [⟨⟨#[104]⟩,1,0,0,1,0⟩]):=by
 refine Returns.of (ydap _ _ ?_);have h1:=ybkg ⟨#[104]⟩ 0 1 0;simp only[varC]at h1;simp only[c25,ydem,ycxn,go_sem,↓reduceIte];refine h1.use ?_;simp only[thenO,splice,clash,go_sem,Nat.reduceEqDiff,Nat.reduceAdd,Nat.reduceLT,↓reduceIte,reduceCtorEq];have one:∀ {q:Nat},q<1->q=0:=fun {q} h=>by omega
 refine⟨fun q hq=>by obtain rfl:=one hq;simp only[go_sem],?_⟩
 refine yhe fun q hq=>?_;obtain rfl:=one hq;simp only[varC,List.getD_cons_zero,go_sem];exact⟨Sim.refl _,Sim.refl _,Sim.refl _,Sim.refl _,Sim.refl _,Sim.refl _,trivial⟩
theorem yov(o:Own)(n:Nat):∀ l:List SV,allP (pok [] o n) l
 | []=>trivial
 | v :: l=>⟨by rw[ybfj];trivial,yov o n l⟩
theorem ygg(o:Own)(n:Nat):∀ l:List SV,l.map (ycj [] o n)=l
 | []=>rfl
 | v :: l=>by rw[List.map_cons,ypt,ygg o n l]
set_option maxHeartbeats 1000000 in
theorem yblu{g:Gr}(hg:ybb g){f:Nat->Int}{h:FuncId}{cp:List SV}(hcp4:cp.any (owned 4)=false)(hf:∀ v,v<g.ports.length->Returns Tryz.prog h (.i .i64 v :: cp) (.i .i64 (f v))) :
  Returns Tryz.prog 81 [grV g,.fn h [] cp] (.i .u32 (yhx f g)):=by
 refine Returns.of (ycyp _ _ ?_);have hcp:=yjd hcp4;have hA:=ybln hg;have hLk:=ybtk (g:=g);have h24:=hg.2.1;have hpl:=hg.2.2.1;have hpk:=ybig f g;rw[hpl]at hA;obtain⟨n,hn⟩:∃ n,g.ports.length=n:=⟨_,rfl⟩;rw[hn]at hA h24 hpl hf hpk;obtain⟨A,hAe⟩:∃ A,2 ^ n - 1=A:=⟨_,rfl⟩;have hAl:A<2 ^ 24:=by rw[<- hAe];have:2 ^ n<=2 ^ 24:=Nat.pow_le_pow_right (by omega) h24;have:=Nat.two_pow_pos n;omega
 rw[hAe]at hA hpk;obtain⟨S,hS⟩:∃ S:Nat->Nat,(fun k=>((flatAt 0 g.ports).take k).foldl (pkEl f) A)=S:=⟨_,rfl⟩;have hS0:S 0=A:=by rw[<- hS];rfl
 have hSn:S (flatAt 0 g.ports).length=yhx f g:=by rw[<- hS,<- hpk];simp
 have hSs:∀ k,k<(flatAt 0 g.ports).length->S (k+1)=pkEl f (S k) (ydt g.ports k):=fun k hk=>by rw[<- hS];exact ybsl (pkEl f) A hk
 have hSl:∀ k,k<=(flatAt 0 g.ports).length->S k<2 ^ 24:=fun k=>by
  induction k with
  | zero=>intro _;rw[hS0];exact hAl
  | succ k ih =>
   intro hk;rw[hSs k hk];unfold pkEl;split
   ·exact ywz (ih (by omega))
   ·exact ih (by omega)
 rw[<- hSn];simp only[grV]at hA hLk;simp only[c81,ydcw,ycyj,ydci,grV,clash,go_sem,Nat.reduceEqDiff,Nat.reduceAdd,Nat.reduceLT,↓reduceIte,reduceCtorEq];refine hA.use ?_;simp only[thenO,splice,clash,go_sem,Nat.reduceEqDiff,Nat.reduceAdd,Nat.reduceLT,↓reduceIte];refine hLk.use ?_
 refine ybyt (ybwu (ybmt hg)) [(2,0),(3,0),(5,0)] (fun i (_:Unit)=>⟨[(11,.fn 158 [] [.rf [yj g.ids,yu g.ports]]),(2,.pt (2,0) 0 0),(3,.pt (3,0) 0 0),(5,.pt (5,0) 0 0)],
  [(2,.one (some ⟨27,true,2,1,fun _=>[yj g.ids,yu g.ports]⟩)),(3,.one (some ⟨90,true,1,1,fun _=>[.fn h [] cp]⟩)),(5,.one (some ⟨40,true,1,1,fun _=>[.i .u32 (S i)]⟩))]⟩) (fun i _=>i<=(flatAt 0 g.ports).length) () (Nat.zero_le _) ⟨fun _ h=>absurd h List.not_mem_nil,fun _ h=>absurd h List.not_mem_nil⟩ ?_ (fun _=>rfl) ?_ ?_ ?_
 ·refine yg [] [] [] ?_;simp only[hS0,ycz _ hcp4,ycy _ hcp4,allQ,live,yc,go_sem,Nat.reduceEqDiff,↓reduceIte,reduceCtorEq];intro _ _;refine⟨yov _ _ cp,?_⟩;rw[ygg];exact Sim.refl _
 ·intro i _ hi _;refine⟨trivial,?_⟩;simp only[go_sem,allQ,go_sem,Nat.reduceEqDiff]
 ·intro i _ hi hlti;have hlti:i<(flatAt 0 g.ports).length:=hlti;obtain⟨e1,e2⟩:=ybtz hg hlti;have hs:=hSs i hlti;have hb:=hSl i hi;obtain⟨E,hE⟩:∃ E,ydt g.ports i=E:=⟨_,rfl⟩;rw[hE]at hs e1 e2;obtain⟨a1,a2,_⟩:=yco hg e1 e2;have a1:0<=E.a:=a1;have a2:E.a.toNat<g.ports.length:=a2;have f1:=hf E.v (by omega)
  have f2:=hf E.a.toNat (by omega)
  rw[Int.toNat_of_nonneg a1]at f2;obtain⟨a,ha⟩:∃ a,S i=a:=⟨_,rfl⟩;rw[ha]at hs hb;refine⟨_,rfl,?_⟩;simp only[ybso];obtain⟨x,hx⟩:∃ x,f E.v=x:=⟨_,rfl⟩;obtain⟨y,hy⟩:∃ y,f E.a.toNat=y:=⟨_,rfl⟩;rw[hx]at f1;rw[hy]at f2;simp only[yddh,ycxl,yddp,ha,hE,splice,hcp,clash,go_sem,Nat.reduceEqDiff,Nat.reduceAdd,Nat.reduceLT,↓reduceIte,reduceCtorEq];refine f1.use ?_;simp only[thenO,hcp,clash,go_sem,Nat.reduceEqDiff,Nat.reduceAdd,Nat.reduceLeDiff,↓reduceIte,reduceCtorEq]
  refine f2.use ?_
  by_cases q:x<y
  ·have z1:decide (x<y)=true:=decide_eq_true q;have e:S (i+1)=difB a (2 ^ E.v):=by rw[hs];unfold pkEl;rw[hx,hy,if_pos q]
   have sh:=yke (v:=E.v) (by omega)
   have an:=u32_andNot (a:=a) (b:=2 ^ E.v) (by omega) (Nat.pow_lt_pow_right (by omega) (by omega))
   simp only[IntKind.bits,Int.toNat_natCast]at sh an;simp only[ydax,splice,z1,sh,an,clash,go_sem,Nat.reduceEqDiff,Nat.reduceAdd,↓reduceIte,reduceCtorEq]
   repeat (first | refine⟨by omega,?_⟩ | refine⟨by decide,?_⟩)
   refine ydg [] [] [] ?_;simp only[e,ycz _ hcp4,ycy _ hcp4,allQ,live,yc,go_sem,Nat.reduceEqDiff,↓reduceIte,reduceCtorEq];intro _ _;refine⟨yov _ _ cp,?_⟩;rw[ygg];exact Sim.refl _
  ·have z1:decide (x<y)=false:=decide_eq_false q;have e:S (i+1)=a:=by rw[hs];unfold pkEl;rw[hx,hy,if_neg q]
   simp only[z1,go_sem,↓reduceIte]
   repeat (first | refine⟨by omega,?_⟩ | refine⟨by decide,?_⟩)
   refine ydg [] [] [] ?_;simp only[e,ycz _ hcp4,ycy _ hcp4,allQ,live,yc,go_sem,Nat.reduceEqDiff,↓reduceIte,reduceCtorEq];intro _ _;refine⟨yov _ _ cp,?_⟩;rw[ygg];exact Sim.refl _
 ·intro _ _;simp only[ycza,ybso,clash,go_sem,Nat.reduceEqDiff,Nat.reduceAdd,↓reduceIte,reduceCtorEq];exact Sim.refl _
end Sh
end Go.Proofs.YtiejahgklcjhkaaGreatDoor

namespace Go.Proofs.YtiejahgklcjhkaaGreatDoor
open Go
def yjq(ls:List (Int × Int))(b:Int):Bool:=ls.any fun l=>decide (l.1=b)
namespace Sh
open Ev Go.RowKit
set_option maxRecDepth 8000
theorem yblg{ids:List Int}{ports:List (List (Int × Int))}{a b:Nat}(ha:a<ports.length)(hl:(ports.getD a []).length<=100000) :
  Returns Tryz.prog 128 [.ag [yj ids,yu ports],.i .i64 a,.i .i64 b] (.b (yjq (ports.getD a []) b)):=by
 refine Returns.of (ycuz _ _ ?_);obtain⟨n,hn⟩:∃ n,ports.length=n:=⟨_,rfl⟩;obtain⟨L,hL⟩:∃ L,ports.getD a []=L:=⟨_,rfl⟩;rw[hL]at hl ⊢;obtain⟨m,hm⟩:∃ m,L.length=m:=⟨_,rfl⟩;simp only[c128,ycjs,ycpp,go_sem,Nat.reduceAdd,Nat.reduceLT,↓reduceIte];refine ybe (σ:=Nat) (fun k=>⟨[(7,.i .i64 k),(3,.pt (3,0) 0 0),(1,.i .i64 a),(2,.i .i64 b)],[(3,.one (some ⟨27,true,2,1,fun _=>[yj ids,yu ports]⟩))]⟩) (fun k=>k<=m /\ ∀ j,j<k->(L.getD j (0,0)).1 ≠ b) (fun k=>m - k) 0 ⟨Nat.zero_le _,fun j hj=>absurd hj (Nat.not_lt_zero j)⟩ ?_ ?_
 ·refine yg [] [] [] ?_;simp only[go_sem,allQ,live,yc,Int.natCast_zero,go_sem,Nat.reduceEqDiff,↓reduceIte,reduceCtorEq]
 ·rintro k ⟨hk,hno⟩;simp only[yckg,yclp,yccu,yccz,ycjy,yu,yba,hn,hL,hm,go_sem,Nat.reduceEqDiff,Nat.reduceAdd,Nat.reduceLeDiff,↓reduceIte,reduceCtorEq];refine⟨⟨by omega,by omega⟩,fun hlt=>⟨⟨by omega,by omega⟩,⟨by omega,by omega⟩,fun he=>?_,fun hne=>⟨ikw (by omega) (by omega),?_⟩⟩,fun hge=>?_⟩
  ·have hk':k<L.length:=by omega
   have:yjq L b=true:=List.any_eq_true.2 ⟨L[k],List.getElem_mem _,by rw[getD_at hk']at he;exact decide_eq_true he⟩
   rw[this];exact Sim.refl _
  ·refine yh (k+1) ⟨by omega,fun j hj=>?_⟩ (by omega) ?_
   ·by_cases q:j=k
    ·rw[q];exact hne
    ·exact hno j (by omega)
   refine yg [] [] [] ?_;simp only[allQ,live,yc,yw,go_sem,Nat.reduceEqDiff,↓reduceIte,reduceCtorEq];omega
  ·have:yjq L b=false:=List.any_eq_false.2 fun l hl he=>by
    obtain⟨j,hj,rfl⟩:=List.getElem_of_mem hl;have:=hno j (by omega)
    rw[getD_at hj]at this;exact this (of_decide_eq_true he)
   rw[this];exact Sim.refl _
end Sh
end Go.Proofs.YtiejahgklcjhkaaGreatDoor

namespace Go.Proofs.YtiejahgklcjhkaaGreatDoor
open Go
structure NetR where
 n:Int
 links:List Int
 weights:List Int
 ids:List Int
 apart:Bool
 back:Bool
def NetR.ok(x:NetR):Prop:=Sh.inK .i64 x.n/\(∀ k,Sh.inK .i64 (x.links.getD k 0))/\(∀ k,Sh.inK .i64 (x.weights.getD k 0))/\(∀ k,Sh.inK .i64 (x.ids.getD k 0))
theorem ybfa(a r:Nat)(hr:r<=256):((List.range r).map fun i=>(((a+i) % 256:Nat):Int)).Nodup:=by
 unfold List.Nodup;rw[List.pairwise_map];refine List.Pairwise.imp_of_mem (R:=(· < ·)) (fun {i j} hi hj h=>?_) List.pairwise_lt_range;have hi:=List.mem_range.1 hi;have hj:=List.mem_range.1 hj;intro e;omega
theorem ybgl{a r:Nat}{l:List Int}(hr:r<=256)(h:∀ i,i<r->(((a+i) % 256:Nat):Int) ∈ l):r<=l.length:=by
 have:=List.Nodup.length_le_of_subset (ybfa a r hr) (l₂:=l) fun x hx=>by
  obtain⟨i,hi,rfl⟩:=List.mem_map.1 hx;exact h i (List.mem_range.1 hi)
 simpa using this
namespace Sh
open Ev Go.RowKit
set_option maxRecDepth 8000
def netC(x:NetR):List SV:=[.i .i64 x.n,yj x.links,yj x.weights,yj x.ids,.b x.apart,.b x.back]
theorem wrap64_in(z:Int):inK .i64 (IntKind.wrap .i64 z):=by
 unfold inK;have e1:IntKind.i64.min = -9223372036854775808:=rfl;have e2:IntKind.i64.max=9223372036854775807:=rfl;have h1:=Int.emod_nonneg z (show(18446744073709551616:Int) ≠ 0 by decide)
 have h2:=Int.emod_lt_of_pos z (show(0:Int)<18446744073709551616 by decide)
 rw[e1,e2]
 have e:IntKind.wrap .i64 z=if z % 18446744073709551616 >= 9223372036854775808 then z % 18446744073709551616 - 18446744073709551616 else z % 18446744073709551616:=by
  show(if (true && decide (z % 18446744073709551616 >= 9223372036854775808))=true then z % 18446744073709551616 - 18446744073709551616 else z % 18446744073709551616)=_
  simp only[Bool.true_and,decide_eq_true_eq]
 rw[e];split<;>omega
theorem ybxn{x:NetR}(hx:x.ok){most:Nat}(hm:1<=most/\most<=24) :
  Cm Tryz.prog 75 [] [] [.ag (netC x),.i .i64 most] fun r o=>∃ ids:List Int,(1<=ids.length/\ids.length<=most)/\(∀ y ∈ ids,0<=y/\y<=255)/\ids.Nodup/\r = .ag [yj ids,.os (17,0) 0 ids.length true] /\
   o = [(17,.one (some ⟨71,false,1,ids.length,fun _=>[.a (.slice none 0 0)]⟩))]:=by
 refine ycrm [] [] _ _ _ ?_;obtain⟨hx1,hx2,hx3,hx4⟩:=hx;have hin:=yef (v:=IntKind.wrap .i64 (x.n - 1)) (m:=(most:Int)) (by omega)
 obtain⟨k,hk⟩:∃ k:Nat,ydo (IntKind.wrap .i64 (x.n - 1)) most=k:=Int.eq_ofNat_of_zero_le hin.1;have hW:=yeg (IntKind.wrap .i64 (x.n - 1)) most (by omega) (wrap64_in _)
 rw[hk]at hW hin;obtain⟨n,hn⟩:∃ n:Nat,(1:Int)+(k:Int)=(n:Int):=⟨1+k,by omega⟩
 have hn1:1<=n/\n<=most:=by omega
 simp only[c75,ydbb,ydde,netC,go_sem,Nat.reduceEqDiff,Nat.reduceAdd,Nat.reduceLeDiff,Nat.reduceLT,↓reduceIte,reduceCtorEq];refine hW.use ?_;simp only[thenO,ydcy,yddm,hn,clash,go_sem,Nat.reduceEqDiff,Nat.reduceAdd,Nat.reduceLT,↓reduceIte,reduceCtorEq];refine⟨ikw (by omega) (by omega),⟨by omega,by omega,by omega⟩,?_⟩
 refine ybe (σ:=List Int) (fun l=>⟨[(7,.i .i64 l.length),(5,.i .i64 n),(2,.pt (2,0) 0 0),(6,.pt (6,0) 0 0),(4,.pt (4,0) 0 0)],
   [(2,.one (some ⟨24,true,6,1,fun _=>netC x⟩)),(4,.one (some ⟨27,true,2,1,fun _=>[.a (.slice none 0 0),.a (.slice none 0 0)]⟩)),
    (6,.one (some ⟨27,true,2,1,fun _=>[.os (148,0) 0 l.length true,.os (17,0) 0 n true]⟩)),(17,.one (some ⟨71,false,1,n,fun _=>[.a (.slice none 0 0)]⟩)),
    (148,.one (some ⟨3,false,1,l.length,fun k=>[.i .i64 (l.getD k 0)]⟩))]⟩)
  (fun l=>l.length<=n/\(∀ y ∈ l,0<=y/\y<=255)/\l.Nodup) (fun l=>n - l.length) [] ⟨Nat.zero_le _,fun y hy=>(List.not_mem_nil hy).elim,List.nodup_nil⟩ ?_ ?_
 ·refine yg [] [148] [] ?_;simp only[netC,allQ,live,yc,Int.natCast_zero,go_sem,Nat.reduceEqDiff,Nat.reduceBEq,↓reduceIte,reduceCtorEq];exact fun i _=>⟨(148,0),rfl,rfl,rfl⟩
 ·rintro l ⟨hl,hl2,hl3⟩;obtain⟨v,hv⟩:∃ v,l.length=v:=⟨_,rfl⟩;rw[hv]at hl;have hA:=at_ret x.ids v;have hi2:=yef (v:=atP x.ids v) (m:=256) (by omega)
  obtain⟨a,ha⟩:∃ a:Nat,ydo (atP x.ids v) 256=a:=Int.eq_ofNat_of_zero_le hi2.1;have hW2:=yeg (atP x.ids v) 256 (by omega) (hx4 v)
  rw[ha]at hW2 hi2;simp only[ydbt,ycxt,ydez,ycfi,netC,hv,splice,clash,go_sem,Nat.reduceEqDiff,Nat.reduceAdd,Nat.reduceLeDiff,↓reduceIte,reduceCtorEq];refine⟨fun hlt=>?_,fun hge=>?_⟩
  ·refine hA.use ?_;simp only[thenO,clash,go_sem,Nat.reduceEqDiff,Nat.reduceAdd,↓reduceIte,reduceCtorEq];refine hW2.use ?_
   refine ybe (σ:=Nat × Nat) (fun q=>⟨[(9,.i .i64 q.2),(8,.i .i64 ((a+q.1) % 256:Nat)),(7,.i .i64 v),(5,.i .i64 n),(2,.pt (2,0) 0 0),(6,.pt (6,0) 0 0),(4,.pt (4,0) 0 0)],
    [(2,.one (some ⟨24,true,6,1,fun _=>netC x⟩)),(4,.one (some ⟨27,true,2,1,fun _=>[.a (.slice none 0 0),.a (.slice none 0 0)]⟩)),
     (6,.one (some ⟨27,true,2,1,fun _=>[.os (148,0) 0 v true,.os (17,0) 0 n true]⟩)),(17,.one (some ⟨71,false,1,n,fun _=>[.a (.slice none 0 0)]⟩)),
     (148,.one (some ⟨3,false,1,v,fun k=>[.i .i64 (l.getD k 0)]⟩))]⟩)
    (fun q=>q.2<=v/\(∀ i,i<q.1->(((a+i) % 256:Nat):Int) ∈ l)/\q.1<=256 /\ ∀ j,j<q.2->l.getD j 0 ≠ (((a+q.1) % 256:Nat):Int)) (fun q=>(v - q.1) * (v+2)+(v - q.2)) (0,0) ⟨Nat.zero_le _,fun i hi=>absurd hi (Nat.not_lt_zero i),by omega,fun j hj=>absurd hj (Nat.not_lt_zero j)⟩ ?_ ?_
   ·refine yg [] [] [] ?_;simp only[netC,allQ,live,yc,yw,Int.natCast_zero,go_sem,Nat.reduceEqDiff,↓reduceIte,reduceCtorEq];rw[Nat.mod_eq_of_lt (by omega)]
   ·rintro⟨r,u⟩ ⟨hu,hr,hr256,hno⟩;obtain⟨b,hb⟩:∃ b,(a+r) % 256=b:=⟨_,rfl⟩;have hb256:b<256:=by omega
    simp only[ydaq,ydep,yclh,ycme,ycmx,ycxi,netC,hb,splice,clash,go_sem,Nat.reduceEqDiff,Nat.reduceAdd,Nat.reduceLeDiff,Nat.reduceLT,↓reduceIte,reduceCtorEq];have hu:u<=v:=hu;have hr:∀ i,i<r->(((a+i) % 256:Nat):Int) ∈ l:=hr;have hr256:r<=256:=hr256;have hno:∀ j,j<u->l.getD j 0 ≠ (b:Int):=fun j hj=>by rw[<- hb];exact hno j hj
    have hrv:r<=v:=by rw[<- hv];exact ybgl hr256 hr
    refine⟨fun hlt2=>⟨⟨by omega,by omega⟩,by omega,fun he=>⟨ikw (by omega) (by omega),by decide,ikw (by omega) (by omega),?_⟩,fun hne=>⟨ikw (by omega) (by omega),?_⟩⟩,fun hge2=>?_⟩
    ·have hmem:(b:Int) ∈ l:=by
      rw[<- he,getD_at (show u<l.length by omega)]
      exact List.getElem_mem _
     have hr':∀ i,i<r+1->(((a+i) % 256:Nat):Int) ∈ l:=fun i hi=>by
      by_cases q:i=r
      ·rw[q,hb];exact hmem
      ·exact hr i (by omega)
     have hrv':r+1<=v:=by rw[<- hv];exact ybgl (by omega) hr'
     refine yh (r+1,0) ⟨Nat.zero_le _,hr',by show r+1<=256;omega,fun j hj=>absurd hj (Nat.not_lt_zero j)⟩ ?_ ?_
     ·show(v - (r+1)) * (v+2)+(v - 0)<(v - r) * (v+2)+(v - u);obtain⟨m,hm⟩:∃ m,v - r=m+1:=⟨v - r - 1,by omega⟩
      rw[show v - (r+1)=m by omega,hm,Nat.succ_mul]
      generalize m * (v+2)=z
      omega
     ·refine yg [] [] [] ?_;simp only[allQ,live,yc,yw,Int.natCast_zero,go_sem,Nat.reduceEqDiff,↓reduceIte,reduceCtorEq];refine⟨by omega,?_⟩
      rw[Int.tmod_eq_emod_of_nonneg (by omega)]
      omega
    ·refine yh (r,u+1) ⟨by show u+1<=v;omega,hr,hr256,fun j hj=>?_⟩ ?_ ?_
     ·show l.getD j 0 ≠ (((a+r) % 256:Nat):Int);rw[hb]
      by_cases q:j=u
      ·rw[q];exact hne
      ·exact hno j (by have:j<u+1:=hj;omega)
     ·show(v - r) * (v+2)+(v - (u+1))<(v - r) * (v+2)+(v - u)
      generalize (v - r) * (v+2)=z
      omega
     ·refine yg [] [] [] ?_;simp only[hb,allQ,live,yc,yw,go_sem,Nat.reduceEqDiff,↓reduceIte,reduceCtorEq];omega
    ·obtain rfl:u=v:=by omega
     refine⟨⟨by omega,by omega⟩,ikw (by omega) (by omega),?_⟩
     have hno':(b:Int) ∉ l:=fun hm=>by
      obtain⟨j,hj,e⟩:=List.getElem_of_mem hm;exact hno j (by omega) (by rw[getD_at hj,e])
     refine yh (l ++ [(b:Int)]) ⟨by rw[List.length_append,List.length_singleton];omega,fun y hy=>?_,?_⟩ (by rw[List.length_append,List.length_singleton];omega) ?_
     ·rcases List.mem_append.1 hy with hy | hy
      ·exact hl2 y hy
      ·rw[List.mem_singleton.1 hy];omega
     ·rw[List.nodup_append];exact⟨hl3,by simp,fun y hy z hz=>by rw[List.mem_singleton.1 hz];exact fun e=>hno' (e ▸ hy)⟩
     refine yg [(148,fun i=>(48,i))] [] [] ?_;simp only[List.length_append,hv,allQ,live,yc,yw,go_sem,Nat.reduceEqDiff,↓reduceIte,reduceCtorEq];refine⟨by omega,fun i hi=>?_⟩
     rw[yro,hv]
     by_cases q:i<u
     ·simp only[if_pos q];simp only[live,yc,go_sem,reduceCtorEq]
     ·obtain rfl:i=u:=by omega
      simp only[if_neg q,Nat.sub_self];simp only[live,yc,go_sem,↓reduceIte,reduceCtorEq]
  ·obtain rfl:v=n:=by omega
   simp only[ygm,go_sem];refine⟨.ag [yj l,.os (17,0) 0 v true],[(17,.one (some ⟨71,false,1,v,fun _=>[.a (.slice none 0 0)]⟩))],?_,?_,l,by rw[hv];exact hn1,hl2,hl3,by rw[hv],by rw[hv]⟩
   ·refine yg [] [] [(148,0)] ?_;simp only[yj,hv,allQ,live,yc,go_sem,Nat.reduceEqDiff,↓reduceIte,reduceCtorEq]
   ·simp only[famCln,ygr,allQ,live,go_sem,↓reduceIte]
end Sh
end Go.Proofs.YtiejahgklcjhkaaGreatDoor

namespace Go.Proofs.YtiejahgklcjhkaaGreatDoor
open Go
def yhu(back:Bool)(g:Gr)(a b:Nat)(w:Int):Gr:=if a=b\/yjq (g.ports.getD a []) b=true then g else ybt back g a b w
namespace Sh
open Ev Go.RowKit
set_option maxRecDepth 8000
def rowO(l:List (Int × Int)):OB:=⟨95,false,2,l.length,fun k=>[.i .i64 (l.getD k (0,0)).1,.i .i64 (l.getD k (0,0)).2]⟩
def yfc(ports:List (List (Int × Int))):Own:=[(211,.one (some ⟨71,false,1,ports.length,fun v=>[.os (212,v) 0 (ports.getD v []).length true]⟩)),
 (212,.many fun v=>if v<ports.length then some (rowO (ports.getD v []))else none)]
def yrx(g:Gr):SV:=.ag [yj g.ids,.os (211,0) 0 g.ports.length true]
theorem yhk{i n:Nat}{x b:OB}(h:(if i<n then some x else none)=some b):i<n/\b=x:=by
 split at h
 ·cases h;exact⟨by assumption,rfl⟩
 ·cases h
theorem ybm(back:Bool)(L:List (Int × Int))(x:Int × Int):(addL back L x).length=L.length+1:=by
 unfold addL;cases back<;>simp
theorem yyn(L:List (Int × Int))(x:Int × Int){k:Nat}(hk:k<L.length+1):(if k<L.length then[SV.i .i64 (L.getD k (0,0)).1,SV.i .i64 (L.getD k (0,0)).2]else List.take 2 (List.drop ((k - L.length) * 2) [SV.i .i64 x.1,SV.i .i64 x.2])) = [SV.i .i64 ((addL false L x).getD k (0,0)).1,SV.i .i64 ((addL false L x).getD k (0,0)).2]:=by
 show _ = [SV.i .i64 ((L ++ [x]).getD k (0,0)).1,SV.i .i64 ((L ++ [x]).getD k (0,0)).2];rw[yro]
 by_cases h:k<L.length
 ·rw[if_pos h,if_pos h]
 ·obtain rfl:k=L.length:=by omega
  rw[if_neg h,if_neg h,if_pos rfl,Nat.sub_self];rfl
theorem ylf(L:List (Int × Int))(x:Int × Int)(k:Nat):(if k<1 then List.take 2 (List.drop (k * 2) [SV.i .i64 x.1,SV.i .i64 x.2])else[SV.i .i64 (L.getD (k - 1) (0,0)).1,SV.i .i64 (L.getD (k - 1) (0,0)).2]) = [SV.i .i64 ((addL true L x).getD k (0,0)).1,SV.i .i64 ((addL true L x).getD k (0,0)).2]:=by
 show _ = [SV.i .i64 ((x :: L).getD k (0,0)).1,SV.i .i64 ((x :: L).getD k (0,0)).2];cases k with
 | zero=>rfl
 | succ k=>rw[if_neg (by omega)];rfl
theorem cells_one(L:List (Int × Int))(h:L.length=0)(x:Int × Int){k:Nat}(hk:k<1):List.take 2 (List.drop (k * 2) [SV.i .i64 x.1,SV.i .i64 x.2]) = [SV.i .i64 ((addL true L x).getD k (0,0)).1,SV.i .i64 ((addL true L x).getD k (0,0)).2]:=by
 obtain rfl:k=0:=by omega
 rfl
theorem yhf {n:Nat} {o:Own} {P':List (List (Int × Int))} (hl:P'.length=n) (A:Nat->Nm) {R:Nat->List SV} (h11:lookO o (211,0)=some ⟨71,false,1,n,R⟩) (hR:∀ v,v<n->R v = [.os (A v) 0 (P'.getD v []).length true])
  (hA:∀ v,v<n -> ∃ q,lookO o (A v)=some ⟨95,false,2,(P'.getD v []).length,q⟩ /\ ∀ k,k<(P'.getD v []).length->q k = [.i .i64 ((P'.getD v []).getD k (0,0)).1,.i .i64 ((P'.getD v []).getD k (0,0)).2])
  (hi:∀ u v,u<n->v<n->A u=A v->u=v) (h0:∀ v,v<n->A v ≠ (211,0)) :
  ∃ r o',Weak [(211,0)] ⟨[(0,.tp [])],o⟩ ⟨[(0,r)],o'⟩/\(cln (live o') 5 r=true/\allQ (fun p=>famCln (live o') p.2) o'/\allQ (fun β=>live o' β=true) [(211,0)])/\r = .tp []/\o'=yfc P':=by
 subst hl
 have hsome:∀ i,(if i<P'.length then some (rowO (P'.getD i []))else none).isSome=true->i<P'.length:=fun i h=>by
  by_cases q:i<P'.length
  ·exact q
  ·rw[if_neg q]at h;cases h
 have hlive:∀ i,i<P'.length->live (yfc P') (212,i)=true:=fun i hi=>by
  show(if i<P'.length then some (rowO (P'.getD i []))else none).isSome=true
  rw[if_pos hi];rfl
 refine⟨.tp [],yfc P',ybev [(212,A)] [] [] trivial ⟨.inr ⟨.inr fun e=>⟨rfl,rfl⟩,.inr fun j hj e=>?_,trivial⟩,.inr ⟨.inr fun i hi' e=>?_,.inr fun i hi' j hj e=>⟨rfl,?_⟩,trivial⟩,trivial⟩ ⟨?_,trivial⟩ ⟨?_,fun i b hb=>?_,trivial⟩ ⟨⟨rfl,rfl,rfl⟩,trivial⟩,⟨rfl,⟨?_,?_,trivial⟩,rfl,trivial⟩,rfl,rfl⟩
 ·exact absurd e.symm (h0 j (hsome j hj))
 ·exact absurd e (h0 i (hsome i hi'))
 ·exact hi i j (hsome i hi') (hsome j hj) e
 ·exact⟨_,rfl,.inl ⟨trivial,Sim.refl _,rfl⟩⟩
 ·refine⟨_,h11,⟨rfl,rfl,rfl,rfl,rfl⟩,fun i hi'=>?_⟩;have hi':i<P'.length:=hi';show telL _ _ _ _ _ (R i) _;rw[hR i hi'];refine⟨.inl ⟨by simp only[go_sem],Sim.refl _,?_⟩,rfl,trivial⟩
  show(live (yfc P') (212,i) && !(List.elem 212 []))=true;rw[hlive i hi'];rfl
 ·obtain⟨hi',rfl⟩:=yhk hb;obtain⟨q,q1,q2⟩:=hA i hi';refine⟨_,q1,⟨rfl,rfl,rfl,rfl,rfl⟩,fun k hk=>?_⟩;show telL _ _ _ _ _ (q k) _;rw[q2 k hk];exact⟨.inl ⟨trivial,Sim.refl _,rfl⟩,rfl,.inl ⟨trivial,Sim.refl _,rfl⟩,rfl,trivial⟩
 ·intro k hk;have:live (yfc P') (212,k)=true:=hlive k hk;simp only[yfc,List.all_cons,List.all_nil,Bool.and_true]at this ⊢;exact this
 ·intro i b hb k hk;obtain⟨hi',rfl⟩:=yhk hb;rfl
section
variable {x:NetR} {g:Gr} {a b:Nat} {w:Int}
theorem ycuo(ha:a<g.ports.length)(hb:b<g.ports.length)(hn:g.ports.length<=24)(hd:∀ v,(g.ports.getD v []).length<=1000) :
  Cm Tryz.prog 76 [(211,0)] (yfc g.ports) [.ag (netC x),yrx g,.i .i64 a,.i .i64 b,.i .i64 w] fun r o=>r = .tp []/\o=yfc (yhu x.back g a b w).ports:=by
 refine ycqy [(211,0)] [] _ _ _ ?_;obtain⟨O2,hO2⟩:∃ O,yfc (yhu x.back g a b w).ports=O:=⟨_,rfl⟩;rw[hO2]
 by_cases hab:a=b
 ·subst hab;have hP:yhu x.back g a a w=g:=if_pos (.inl rfl);rw[hP]at hO2;simp only[c76,ycvz,ycre,netC,yrx,yfc,ygm,go_sem,Nat.reduceEqDiff,Nat.reduceAdd,Nat.reduceLT,↓reduceIte,reduceCtorEq];subst hO2;exact yhf rfl (fun v=>(212,v)) rfl (fun v hv=>rfl) (fun v hv=>⟨_,if_pos hv,fun k hk=>rfl⟩) (fun u v _ _ e=>congrArg Prod.snd e) (fun v _ e=>by cases e)
 ·have hne:((a:Int) == (b:Int))=false:=by rw[beq_eq_false_iff_ne];omega
  have hL:=yblg (ids:=g.ids) (ports:=g.ports) (b:=b) ha (by have:=hd a;omega)
  simp only[c76,ycvz,ycre,netC,yrx,yfc,hne,clash,go_sem,Nat.reduceEqDiff,Nat.reduceAdd,Nat.reduceLT,↓reduceIte,reduceCtorEq];refine .inl ⟨fun q hq=>by rw[if_pos hq];exact⟨Nat.le_refl _,fun k hk=>by simp only[rowO,go_sem]⟩,hL.useS ?_ ?_⟩
  ·refine⟨ytp ⟨Sim.refl _,?_,trivial⟩,Sim.refl _,Sim.refl _,trivial⟩;refine yhe fun q hq=>?_;rw[if_pos hq];simp only[rowO,yba,go_sem];exact⟨Sim.refl _,trivial⟩
  cases hlk:yjq (g.ports.getD a []) b with
  | true =>
   have hP:yhu x.back g a b w=g:=if_pos (.inr hlk);rw[hP]at hO2;simp only[thenO,clash,ygm,go_sem,Nat.reduceEqDiff,Nat.reduceAdd,↓reduceIte];subst hO2;exact yhf rfl (fun v=>(212,v)) rfl (fun v hv=>rfl) (fun v hv=>⟨_,if_pos hv,fun k hk=>rfl⟩) (fun u v _ _ e=>congrArg Prod.snd e) (fun v _ e=>by cases e)
  | false =>
   have hP:yhu x.back g a b w=ybt x.back g a b w:=if_neg (fun q=>by rcases q with q | q;exact hab q;rw[hlk]at q;cases q)
   rw[hP]at hO2;subst hO2;have hba:¬ b=a:=fun e=>hab e.symm;have hlen:(ybt x.back g a b w).ports.length=g.ports.length:=by simp[ybt]
   have hat:=ycx x.back g w ha hb;obtain⟨G',hG'⟩:∃ G,(ybt x.back g a b w).ports=G:=⟨_,rfl⟩;rw[hG']at hlen ⊢;have hat:∀ v,G'.getD v []=if v=b then addL x.back (g.ports.getD b []) (a,w)else if v=a then addL x.back (g.ports.getD a []) (b,w)else g.ports.getD v []:=fun v=>by rw[<- hG'];exact hat v
   clear hG' hP
   obtain⟨x1,x2,x3,x4,x5,back⟩:=x;have hda:=hd a;have hdb:=hd b;cases back with
   | false =>
    simp only[thenO,clash,ybkc,ybjh,yczb,rowO,if_pos ha,if_pos hb,hab,hba,ygm,and_false,go_sem,Nat.reduceEqDiff,Nat.reduceAdd,Nat.reduceLeDiff,Nat.reduceLT,↓reduceIte,reduceCtorEq];refine⟨⟨by omega,by omega⟩,by omega,⟨by omega,by omega⟩,by decide,⟨by omega,by omega⟩,by omega,⟨by omega,by omega⟩,by decide,⟨by omega,by omega⟩,by omega,by decide,⟨by omega,by omega⟩,by omega,by decide,?_⟩
    refine yhf hlen (fun v=>if v=b then(74,0)else if v=a then(66,0)else(212,v)) rfl (fun v hv=>?_) (fun v hv=>?_) (fun u v _ _ e=>?_) (fun v _ e=>?_)
    ·rw[hat v]
     by_cases q:v=b
     ·simp only[if_pos q,ybm]
     ·by_cases q2:v=a
      ·simp only[if_neg q,if_pos q2,ybm]
      ·simp only[if_neg q,if_neg q2]
    ·rw[hat v]
     by_cases q:v=b
     ·simp only[if_pos q,ybm];exact⟨_,rfl,fun k hk=>yyn _ (_,_) hk⟩
     ·by_cases q2:v=a
      ·simp only[if_neg q,if_pos q2,ybm];exact⟨_,rfl,fun k hk=>yyn _ (_,_) hk⟩
      ·simp only[if_neg q,if_neg q2];refine⟨fun k=>[.i .i64 ((g.ports.getD v []).getD k (0,0)).1,.i .i64 ((g.ports.getD v []).getD k (0,0)).2],?_,fun k hk=>rfl⟩;show(if v=b then none else if v=a then none else if v<g.ports.length then some _ else none)=some _
       rw[if_neg q,if_neg q2,if_pos hv]
    ·by_cases q:u=b<;>by_cases q2:u=a<;>by_cases q3:v=b<;>by_cases q4:v=a<;>simp[q,q2,q3,q4,hab]at e ⊢<;>omega
    ·by_cases q:v=b<;>by_cases q2:v=a<;>simp[q,q2,hab]at e
   | true =>
    by_cases hza:(g.ports.getD a []).length=0
    ·by_cases hzb:(g.ports.getD b []).length=0
     ·simp only[thenO,clash,ybkc,ybjh,ybmn,ybti,rowO,if_pos ha,if_pos hb,hba,ygm,and_false,hza,hzb,go_sem,Nat.reduceEqDiff,Nat.reduceAdd,Nat.reduceLeDiff,Nat.reduceLT,Nat.reduceMul,↓reduceIte,reduceCtorEq]
      repeat' apply And.intro
      all_goals first | omega | decide | skip
      refine yhf hlen (fun v=>if v=b then(45,0)else if v=a then(33,0)else(212,v)) rfl (fun v hv=>?_) (fun v hv=>?_) (fun u v _ _ e=>?_) (fun v _ e=>?_)
      ·rw[hat v]
       by_cases q:v=b
       ·simp only[if_pos q,ybm,hzb,Nat.zero_add]
       ·by_cases q2:v=a
        ·simp only[if_neg q,if_pos q2,ybm,hza,Nat.zero_add]
        ·simp only[if_neg q,if_neg q2]
      ·rw[hat v]
       by_cases q:v=b
       ·simp only[if_pos q,ybm,hzb,Nat.zero_add];exact⟨_,rfl,fun k hk=>cells_one _ hzb (_,_) hk⟩
       ·by_cases q2:v=a
        ·simp only[if_neg q,if_pos q2,ybm,hza,Nat.zero_add];exact⟨_,rfl,fun k hk=>cells_one _ hza (_,_) hk⟩
        ·simp only[if_neg q,if_neg q2];refine⟨fun k=>[.i .i64 ((g.ports.getD v []).getD k (0,0)).1,.i .i64 ((g.ports.getD v []).getD k (0,0)).2],?_,fun k hk=>rfl⟩;show(if v<g.ports.length then some _ else none)=some _
         rw[if_pos hv]
      ·by_cases q:u=b<;>by_cases q2:u=a<;>by_cases q3:v=b<;>by_cases q4:v=a<;>simp[q,q2,q3,q4,hab]at e ⊢<;>omega
      ·by_cases q:v=b<;>by_cases q2:v=a<;>simp[q,q2,hab]at e
     ·simp only[thenO,clash,ybkc,ybjh,ybmn,ybti,rowO,if_pos ha,if_pos hb,hba,ygm,and_false,hza,hzb,go_sem,Nat.reduceEqDiff,Nat.reduceAdd,Nat.reduceLeDiff,Nat.reduceLT,Nat.reduceMul,↓reduceIte,reduceCtorEq]
      repeat' apply And.intro
      all_goals first | omega | decide | skip
      refine yhf hlen (fun v=>if v=b then(51,0)else if v=a then(33,0)else(212,v)) rfl (fun v hv=>?_) (fun v hv=>?_) (fun u v _ _ e=>?_) (fun v _ e=>?_)
      ·rw[hat v]
       by_cases q:v=b
       ·simp only[if_pos q,ybm,Nat.add_comm]
       ·by_cases q2:v=a
        ·simp only[if_neg q,if_pos q2,ybm,hza,Nat.zero_add,Nat.add_comm]
        ·simp only[if_neg q,if_neg q2]
      ·rw[hat v]
       by_cases q:v=b
       ·simp only[if_pos q,ybm];exact⟨_,congrArg some (congrArg (fun n=>OB.mk _ _ _ n _) (Nat.add_comm _ _)),fun k hk=>ylf _ (_,_) k⟩
       ·by_cases q2:v=a
        ·simp only[if_neg q,if_pos q2,ybm,hza,Nat.zero_add];exact⟨_,rfl,fun k hk=>cells_one _ hza (_,_) hk⟩
        ·simp only[if_neg q,if_neg q2];refine⟨fun k=>[.i .i64 ((g.ports.getD v []).getD k (0,0)).1,.i .i64 ((g.ports.getD v []).getD k (0,0)).2],?_,fun k hk=>rfl⟩;show(if v<g.ports.length then some _ else none)=some _
         rw[if_pos hv]
      ·by_cases q:u=b<;>by_cases q2:u=a<;>by_cases q3:v=b<;>by_cases q4:v=a<;>simp[q,q2,q3,q4,hab]at e ⊢<;>omega
      ·by_cases q:v=b<;>by_cases q2:v=a<;>simp[q,q2,hab]at e
    ·by_cases hzb:(g.ports.getD b []).length=0
     ·simp only[thenO,clash,ybkc,ybjh,ybmn,ybti,rowO,if_pos ha,if_pos hb,hba,ygm,and_false,hza,hzb,go_sem,Nat.reduceEqDiff,Nat.reduceAdd,Nat.reduceLeDiff,Nat.reduceLT,Nat.reduceMul,↓reduceIte,reduceCtorEq]
      repeat' apply And.intro
      all_goals first | omega | decide | skip
      refine yhf hlen (fun v=>if v=b then(45,0)else if v=a then(39,0)else(212,v)) rfl (fun v hv=>?_) (fun v hv=>?_) (fun u v _ _ e=>?_) (fun v _ e=>?_)
      ·rw[hat v]
       by_cases q:v=b
       ·simp only[if_pos q,ybm,hzb,Nat.zero_add,Nat.add_comm]
       ·by_cases q2:v=a
        ·simp only[if_neg q,if_pos q2,ybm,Nat.add_comm]
        ·simp only[if_neg q,if_neg q2]
      ·rw[hat v]
       by_cases q:v=b
       ·simp only[if_pos q,ybm,hzb,Nat.zero_add];exact⟨_,rfl,fun k hk=>cells_one _ hzb (_,_) hk⟩
       ·by_cases q2:v=a
        ·simp only[if_neg q,if_pos q2,ybm];exact⟨_,congrArg some (congrArg (fun n=>OB.mk _ _ _ n _) (Nat.add_comm _ _)),fun k hk=>ylf _ (_,_) k⟩
        ·simp only[if_neg q,if_neg q2];refine⟨fun k=>[.i .i64 ((g.ports.getD v []).getD k (0,0)).1,.i .i64 ((g.ports.getD v []).getD k (0,0)).2],?_,fun k hk=>rfl⟩;show(if v<g.ports.length then some _ else none)=some _
         rw[if_pos hv]
      ·by_cases q:u=b<;>by_cases q2:u=a<;>by_cases q3:v=b<;>by_cases q4:v=a<;>simp[q,q2,q3,q4,hab]at e ⊢<;>omega
      ·by_cases q:v=b<;>by_cases q2:v=a<;>simp[q,q2,hab]at e
     ·simp only[thenO,clash,ybkc,ybjh,ybmn,ybti,rowO,if_pos ha,if_pos hb,hba,ygm,and_false,hza,hzb,go_sem,Nat.reduceEqDiff,Nat.reduceAdd,Nat.reduceLeDiff,Nat.reduceLT,↓reduceIte,reduceCtorEq]
      repeat' apply And.intro
      all_goals first | omega | decide | skip
      refine yhf hlen (fun v=>if v=b then(51,0)else if v=a then(39,0)else(212,v)) rfl (fun v hv=>?_) (fun v hv=>?_) (fun u v _ _ e=>?_) (fun v _ e=>?_)
      ·rw[hat v]
       by_cases q:v=b
       ·simp only[if_pos q,ybm,Nat.add_comm]
       ·by_cases q2:v=a
        ·simp only[if_neg q,if_pos q2,ybm,Nat.add_comm]
        ·simp only[if_neg q,if_neg q2]
      ·rw[hat v]
       by_cases q:v=b
       ·simp only[if_pos q,ybm];exact⟨_,congrArg some (congrArg (fun n=>OB.mk _ _ _ n _) (Nat.add_comm _ _)),fun k hk=>ylf _ (_,_) k⟩
       ·by_cases q2:v=a
        ·simp only[if_neg q,if_pos q2,ybm];exact⟨_,congrArg some (congrArg (fun n=>OB.mk _ _ _ n _) (Nat.add_comm _ _)),fun k hk=>ylf _ (_,_) k⟩
        ·simp only[if_neg q,if_neg q2];refine⟨fun k=>[.i .i64 ((g.ports.getD v []).getD k (0,0)).1,.i .i64 ((g.ports.getD v []).getD k (0,0)).2],?_,fun k hk=>rfl⟩;show(if v<g.ports.length then some _ else none)=some _
         rw[if_pos hv]
      ·by_cases q:u=b<;>by_cases q2:u=a<;>by_cases q3:v=b<;>by_cases q4:v=a<;>simp[q,q2,q3,q4,hab]at e ⊢<;>omega
      ·by_cases q:v=b<;>by_cases q2:v=a<;>simp[q,q2,hab]at e
end
end Sh
end Go.Proofs.YtiejahgklcjhkaaGreatDoor

namespace Go.Proofs.YtiejahgklcjhkaaGreatDoor
open Go
theorem ybkn{back:Bool}{g:Gr}{a b:Nat}{w:Int}(hg:ybb g)(ha:a<g.ports.length)(hb:b<g.ports.length)(hw:1<=w/\w<=15):ybb (yhu back g a b w)/\(yhu back g a b w).ids=g.ids/\(yhu back g a b w).ports.length=g.ports.length:=by
 unfold yhu
 by_cases h:a=b\/yjq (g.ports.getD a []) b=true
 ·rw[if_pos h];exact⟨hg,rfl,rfl⟩
 ·rw[if_neg h];refine⟨yxz hg ha hb (fun e=>h (.inl e)) hw fun l hl e=>h (.inr (List.any_eq_true.2 ⟨l,hl,decide_eq_true e⟩)),rfl,by simp[ybt]⟩
theorem ybwe{back:Bool}{g:Gr}{a b:Nat}{w:Int}(ha:a<g.ports.length)(hb:b<g.ports.length){m:Nat}(h:Tre g m):Tre (yhu back g a b w) m:=by
 unfold yhu;split
 ·exact h
 ·exact h.add ha hb
theorem ybsk{back:Bool}{g:Gr}{a b:Nat}{w:Int}(ha:a<g.ports.length)(hb:b<g.ports.length)(hab:a ≠ b):adj (yhu back g a b w) a b:=by
 unfold yhu;split
 ·rename_i h
  rcases h with h | h
  ·exact absurd h hab
  ·obtain⟨l,hl,e⟩:=List.any_eq_true.1 h;exact yjv.2 ⟨l,hl,of_decide_eq_true e⟩
 ·exact ybcl ha hb hab
theorem ybdc:∀ (l:List Nat) (i x:Nat) (h:i<l.length),(l.set i x).sum+l[i]=l.sum+x
 | a :: l,0,x,_=>by simp;omega
 | a :: l,i+1,x,h=>by
  have:=ybdc l i x (by simpa using h)
  simp only[List.set_cons_succ,List.sum_cons,List.getElem_cons_succ];omega
theorem ybli{back:Bool}{g:Gr}{a b:Nat}{w:Int}(ha:a<g.ports.length)(hb:b<g.ports.length)(hab:a ≠ b):ygd (ybt back g a b w)=ygd g+2:=by
 unfold ygd ybt;simp only[List.map_set,Sh.ybm];have h1:=ybdc (g.ports.map List.length) a ((g.ports.getD a []).length+1) (by simpa using ha)
 have h2:=ybdc ((g.ports.map List.length).set a ((g.ports.getD a []).length+1)) b ((g.ports.getD b []).length+1) (by simpa using hb)
 rw[List.getElem_set_ne hab,List.getElem_map,<- Sh.getD_at hb (d:=[])]at h2;rw[List.getElem_map,<- Sh.getD_at ha (d:=[])]at h1;omega
def WtF(x:NetR)(g:Gr):Prop:=∀ v l,l ∈ g.ports.getD v [] -> ∃ i,l.2=1+ydo (atP x.weights i) 15
theorem ybzm{x:NetR}{back:Bool}{g:Gr}{a b:Nat}{w:Int}(ha:a<g.ports.length)(hb:b<g.ports.length)(hw:∃ i,w=1+ydo (atP x.weights i) 15)(h:WtF x g):WtF x (yhu back g a b w):=by
 unfold yhu;split
 ·exact h
 ·intro v l hl;rw[ycx back g w ha hb]at hl;split at hl
  ·rcases ydl.1 hl with rfl | hl
   ·exact hw
   ·exact h _ _ hl
  ·split at hl
   ·rcases ydl.1 hl with rfl | hl
    ·exact hw
    ·exact h _ _ hl
   ·exact h _ _ hl
structure TreeTo(x:NetR)(v:Nat)(g:Gr):Prop where
 tre:Tre g v
 wt:WtF x g
 none_:∀ u,v<=u->g.ports.getD u [] = []
 count:ygd g+2=2 * v
theorem ymn(ids:List Int)(v:Nat):(bare ids).ports.getD v [] = []:=by
 unfold bare;rw[List.getD_eq_getElem?_getD,List.getElem?_replicate];split<;>rfl
theorem TreeTo.zero(x:NetR)(ids:List Int):TreeTo x 1 (bare ids):=by
 refine⟨fun v h0 h1=>by omega,fun v l hl=>?_,fun u _=>ymn ids u,?_⟩
 ·rw[ymn]at hl;exact absurd hl List.not_mem_nil
 ·have:ygd (bare ids)=0:=by
   unfold ygd bare;simp
  omega
theorem TreeTo.succ{x:NetR}{v:Nat}{g:Gr}(hg:ybb g)(h:TreeTo x v g)(hv:v<g.ports.length)(h1:1<=v){a:Nat}(ha:a<v){w:Int}(hw:∃ i,w=1+ydo (atP x.weights i) 15):TreeTo x (v+1) (yhu x.back g a v w):=by
 have hadj:=ybsk (back:=x.back) (g:=g) (a:=a) (b:=v) (w:=w) (by omega) (by omega) (by omega)
 have hno:¬ (a=v\/yjq (g.ports.getD a []) v=true):=by
  rintro(e | e)
  ·omega
  ·obtain⟨l,hl,e⟩:=List.any_eq_true.1 e;have e:=of_decide_eq_true e;have:adj g v a:=hg.adj_symm (yjv.2 ⟨l,hl,e⟩);obtain⟨l',hl',_⟩:=yjv.1 this;rw[h.none_ v (Nat.le_refl _)]at hl';exact absurd hl' List.not_mem_nil
 have e:yhu x.back g a v w=ybt x.back g a v w:=by unfold yhu;rw[if_neg hno]
 refine⟨fun u h0 hu=>?_,ybzm (by omega) hv hw h.wt,fun u hu=>?_,?_⟩
 ·by_cases q:u=v
  ·subst q;exact⟨a,ha,hadj⟩
  ·exact ybwe (by omega) hv h.tre u h0 (by omega)
 ·rw[e,ycx x.back g w (by omega) hv,if_neg (by omega),if_neg (by omega)]
  exact h.none_ u (by omega)
 ·rw[e,ybli (by omega) hv (by omega)]
  have:=h.count;omega
namespace Sh
open Ev Go.RowKit
set_option maxRecDepth 8000
theorem ybwk{n:Nat}{P:List (List (Int × Int))}{f:SV->SV}(hf:∀ k z,f (.i k z) = .i k z){i:Nat}(hi:i<n):(match (if i<n then some (rowO (P.getD i []))else none)with | some b=>some (⟨b.e,b.bx,b.z,b.n,fun k=>(b.g k).map f⟩:OB) | none=>none)=some (rowO (P.getD i [])):=by
 rw[if_pos hi];simp[rowO,hf]
theorem Tree_ok{x:NetR}(hx:x.ok){most:Nat}(hm:1<=most/\most<=24) :
  Cm Tryz.prog 21 [] [] [.ag (netC x),.i .i64 most] fun r o=>∃ g,ybb g/\TreeTo x g.ports.length g/\g.ports.length<=most/\r=yrx g/\o=yfc g.ports:=by
 refine ycsw [] [75,76] _ _ _ ?_;have hN:=ybxn hx hm;obtain⟨hx1,hx2,hx3,hx4⟩:=hx;simp only[netC]at hN;simp only[c21,yddd,ydeu,netC,go_sem,Nat.reduceEqDiff,Nat.reduceAdd,Nat.reduceLT,↓reduceIte,reduceCtorEq];refine callM_of hN [(17,117)] 0 [2,4] [2,4] ?_ ?_
 ·simp only[okN,famCln,ygr,keepF,keepO,allQ,live,yc,go_sem,Nat.reduceEqDiff,Nat.reduceAdd,Nat.reduceBEq,↓reduceIte,reduceCtorEq]
 rintro r o' ⟨ids,h1,h2,h3,rfl,rfl⟩;obtain⟨n,hn⟩:∃ n,ids.length=n:=⟨_,rfl⟩;rw[hn]at h1;simp only[hn,thenM,yoj,nuF,nu,difN,keepF,keepO,Fam.ren,OB.ren,dim,ycqt,ybbk,yoc,go_sem,Nat.reduceEqDiff,Nat.reduceAdd,Nat.reduceLT,Nat.reduceBEq,↓reduceIte];simp only[yczk,go_sem]
 refine ybe (σ:=Nat × Gr) (fun q=>⟨[(6,.i .i64 q.1),(5,.pt (5,0) 0 0),(2,.pt (2,0) 0 0),(4,.pt (4,0) 0 0)],
   (5,.one (some ⟨27,true,2,1,fun _=>[yj q.2.ids,.os (211,0) 0 n true]⟩)) :: (2,.one (some ⟨24,true,6,1,fun _=>netC x⟩)) :: (4,.one (some ⟨27,true,2,1,fun _=>[.a (.slice none 0 0),.a (.slice none 0 0)]⟩)) :: yfc q.2.ports⟩)
  (fun q=>ybb q.2/\q.2.ports.length=n/\TreeTo x q.1 q.2/\1<=q.1/\q.1<=n) (fun q=>n - q.1) (1,bare ids) ⟨ybnw (by omega) (by omega) h2 h3,by simp[bare,hn],TreeTo.zero x ids,by omega,by omega⟩ ?_ ?_
 ·refine yg [(211,fun i=>(117,i))] [212] [] ?_;have b1:(bare ids).ids=ids:=rfl;have b2:(bare ids).ports.length=n:=by simp[bare,hn]
  have b3:∀ v,(bare ids).ports.getD v [] = []:=ymn ids;simp only[netC,yfc,rowO,b1,b2,b3,List.length_nil,allQ,live,yc,yw,go_sem,Nat.reduceEqDiff,Nat.reduceBEq,↓reduceIte,reduceCtorEq];refine⟨rfl,fun i hi=>⟨(212,i),rfl,rfl,by simp[hi]⟩,fun i b hb=>?_⟩
  obtain⟨_,rfl⟩:=yhk hb;exact⟨rfl,rfl⟩
 ·rintro⟨v,g⟩ ⟨hg,hgn,htr,hv1,hvn⟩;have hg:ybb g:=hg;have hgn:g.ports.length=n:=hgn;have htr:TreeTo x v g:=htr;have hv1:1<=v:=hv1;have hvn:v<=n:=hvn
  by_cases hlt:v<n
  ·have ht:decide ((v:Int)<(n:Int))=true:=decide_eq_true (by omega)
   have hv2:(v:Int) - 1=((v - 1:Nat):Int):=by omega
   have hA1:=at_ret x.links (v - 1);have hA2:=at_ret x.weights (v - 1);have hi1:=yef (v:=atP x.links (v - 1)) (m:=(v:Int)) (by omega)
   have hi2:=yef (v:=atP x.weights (v - 1)) (m:=15) (by omega)
   have hW1:=yeg (atP x.links (v - 1)) v (by omega) (hx2 _)
   have hW2:=yeg (atP x.weights (v - 1)) 15 (by omega) (hx3 _)
   obtain⟨a,ha⟩:∃ a:Nat,ydo (atP x.links (v - 1)) v=a:=Int.eq_ofNat_of_zero_le hi1.1;obtain⟨w,hw⟩:∃ w:Int,ydo (atP x.weights (v - 1)) 15=w:=⟨_,rfl⟩;rw[ha]at hW1 hi1;rw[hw]at hW2 hi2;have hL:=ycuo (x:=x) (g:=g) (a:=a) (b:=v) (w:=1+w) (by omega) (by omega) (by omega) (fun u=>by have:=hg.deg_lt (v:=u);omega)
   simp only[ycwd,yddx,ycyn,netC,yfc,ht,hv2,clash,go_sem,Nat.reduceEqDiff,Nat.reduceAdd,Nat.reduceLeDiff,Nat.reduceBEq,↓reduceIte,reduceCtorEq];refine⟨ikw (by omega) (by omega),hA1.use ?_⟩
   simp only[thenO,clash,go_sem,Nat.reduceEqDiff,Nat.reduceAdd,Nat.reduceLeDiff,Nat.reduceBEq,↓reduceIte,reduceCtorEq];refine hW1.use ?_;simp only[hv2,go_sem];refine⟨ikw (by omega) (by omega),hA2.use ?_⟩
   simp only[go_sem,↓reduceIte];refine hW2.use ?_;simp only[go_sem,Nat.reduceEqDiff,Nat.reduceBEq,↓reduceIte];refine⟨ikw (by omega) (by omega),callM_of hL [(211,211),(212,212)] 0 [2,4,5,6] [2,4,5] ?_ ?_⟩
   ·simp only[netC,yrx,yfc,hgn,to1,okN,famCln,ygr,keepF,keepO,allQ,live,yc,go_sem,Nat.reduceEqDiff,Nat.reduceAdd,Nat.reduceBEq,↓reduceIte,reduceCtorEq];refine⟨⟨fun i _ j _ e=>e,fun i hi=>by rw[if_pos hi],fun i b hb=>?_⟩,by decide⟩
    obtain⟨hi,rfl⟩:=yhk hb;exact⟨_,if_pos hi,⟨rfl,rfl,rfl,rfl⟩,fun k hk=>by simp only[rowO,live,yc,go_sem,reduceCtorEq]⟩
   ·rintro r o' ⟨rfl,rfl⟩;simp only[yfc,thenM,yoj,nuF,nu,difN,keepF,keepO,Fam.ren,OB.ren,dim,yti,yoc,go_sem,Nat.reduceEqDiff,Nat.reduceAdd,Nat.reduceBEq,↓reduceIte,reduceCtorEq];obtain⟨gg1,gg2,gg3⟩:=ybkn (back:=x.back) (a:=a) (b:=v) (w:=1+w) hg (by omega) (by omega) (by omega)
    have gg4:=htr.succ hg (by omega) hv1 (a:=a) (by omega) (w:=1+w) ⟨v - 1,by rw[hw]⟩
    obtain⟨G,hG⟩:∃ G,yhu x.back g a v (1+w)=G:=⟨_,rfl⟩;rw[hG]at gg1 gg2 gg3 gg4 ⊢;rw[hgn]at gg3;refine⟨ikw (by omega) (by omega),yh (v+1,G) ⟨gg1,gg3,gg4,by omega,by omega⟩ (by show n - (v+1)<n - v;omega) ?_⟩
    ·refine yg [] [] [] ?_;simp only[gg3,gg2,allQ,live,yc,yw,go_sem,Nat.reduceEqDiff,↓reduceIte,reduceCtorEq];refine⟨fun i _ j _ e=>e,by omega,fun i hi=>by rw[if_pos hi],fun i b hb=>?_⟩
     obtain⟨hi,rfl⟩:=yhk hb;refine⟨_,ybwk (f:=ren (nu [(211,211),(212,212)] 0) 5) (fun _ _=>rfl) hi,⟨rfl,rfl,rfl,rfl⟩,fun k hk=>?_⟩;simp only[rowO,live,yc,go_sem,reduceCtorEq]
  ·obtain rfl:v=n:=by omega
   have ht:decide ((v:Int)<(v:Int))=false:=decide_eq_false (by omega)
   simp only[ycwd,yczq,netC,yfc,ht,clash,splice,ygm,go_sem,Nat.reduceEqDiff,Nat.reduceAdd,↓reduceIte,reduceCtorEq];refine⟨yrx g,yfc g.ports,?_,?_,g,hg,by rw[hgn];exact htr,by omega,rfl,rfl⟩
   ·refine yg [] [] [] ?_;simp only[yfc,yrx,hgn,allQ,live,yc,go_sem,Nat.reduceEqDiff,↓reduceIte,reduceCtorEq];refine⟨fun i _ j _ e=>e,fun i hi=>by rw[if_pos hi],fun i b hb=>?_⟩
    obtain⟨hi,rfl⟩:=yhk hb;exact⟨_,if_pos hi,⟨rfl,rfl,rfl,rfl⟩,fun k hk=>by simp only[rowO,live,yc,go_sem,reduceCtorEq]⟩
   ·simp only[yfc,yrx,famCln,ygr,allQ,live,go_sem,Nat.reduceEqDiff,↓reduceIte];refine⟨fun i hi=>by rw[if_pos hi],fun i b hb k hk=>?_⟩
    obtain⟨hi,rfl⟩:=yhk hb;simp only[rowO,go_sem]
end Sh
end Go.Proofs.YtiejahgklcjhkaaGreatDoor

namespace Go.Proofs.YtiejahgklcjhkaaGreatDoor
open Go
namespace Sh
open Ev Go.RowKit
set_option maxRecDepth 8000
end Sh
end Go.Proofs.YtiejahgklcjhkaaGreatDoor

namespace Go.Proofs.YtiejahgklcjhkaaGreatDoor
open Go
namespace Sh
open Ev Go.RowKit
set_option maxRecDepth 8000
theorem ycbd(l:List Nat):one1 (usV l)=true:=rfl
theorem ybra{n:Nat}(l:List Nat):owned (n+1) (usV l)=false:=rfl
theorem ybjl{n:Nat}(l:List Nat):scalar (n+1) (usV l)=false:=rfl
theorem ybzz{n:Nat}(o:Own)(l:List Nat):view o (n+1) (usV l)=usV l:=rfl
theorem ycrg{n:Nat}(o:Own)(l:List Nat):vok o (n+1) (usV l)=True:=rfl
theorem ycrq{n:Nat}(h:Nm->Nm)(l:List Nat):ren h (n+1) (usV l)=usV l:=rfl
theorem ycts{n:Nat}(D:Nm->Bool)(l:List Nat):cln D (n+1) (usV l)=true:=rfl
theorem ybos{n:Nat}(fr:List Nm)(o:Own)(l:List Nat):ycj fr o (n+1) (usV l)=usV l:=rfl
theorem ycvw{n:Nat}(fr:List Nm)(o:Own)(l:List Nat):pok fr o (n+1) (usV l)=True:=rfl
theorem ybuk(l:List Nat):SV.cells (usV l) = [usV l]:=rfl
theorem ybeq(l:List Conf):one1 (ydf l)=true:=rfl
theorem yyy{n:Nat}(l:List Conf):owned (n+1) (ydf l)=false:=rfl
theorem yvy{n:Nat}(l:List Conf):scalar (n+1) (ydf l)=false:=rfl
theorem ybfo{n:Nat}(o:Own)(l:List Conf):view o (n+1) (ydf l)=ydf l:=rfl
theorem ybkb{n:Nat}(o:Own)(l:List Conf):vok o (n+1) (ydf l)=True:=rfl
theorem ybil{n:Nat}(h:Nm->Nm)(l:List Conf):ren h (n+1) (ydf l)=ydf l:=rfl
theorem ybks{n:Nat}(D:Nm->Bool)(l:List Conf):cln D (n+1) (ydf l)=true:=rfl
theorem yzp{n:Nat}(fr:List Nm)(o:Own)(l:List Conf):ycj fr o (n+1) (ydf l)=ydf l:=rfl
theorem ybik{n:Nat}(fr:List Nm)(o:Own)(l:List Conf):pok fr o (n+1) (ydf l)=True:=rfl
theorem yyq(l:List Conf):SV.cells (ydf l) = [ydf l]:=rfl
theorem yblf(l:List Cnt):one1 (ygl l)=true:=rfl
theorem ybco{n:Nat}(l:List Cnt):owned (n+1) (ygl l)=false:=rfl
theorem yzu{n:Nat}(l:List Cnt):scalar (n+1) (ygl l)=false:=rfl
theorem yblb{n:Nat}(o:Own)(l:List Cnt):view o (n+1) (ygl l)=ygl l:=rfl
theorem ybsa{n:Nat}(o:Own)(l:List Cnt):vok o (n+1) (ygl l)=True:=rfl
theorem ybrj{n:Nat}(h:Nm->Nm)(l:List Cnt):ren h (n+1) (ygl l)=ygl l:=rfl
theorem ybsy{n:Nat}(D:Nm->Bool)(l:List Cnt):cln D (n+1) (ygl l)=true:=rfl
theorem ybdk{n:Nat}(fr:List Nm)(o:Own)(l:List Cnt):ycj fr o (n+1) (ygl l)=ygl l:=rfl
theorem ybmy{n:Nat}(fr:List Nm)(o:Own)(l:List Cnt):pok fr o (n+1) (ygl l)=True:=rfl
theorem ybfn(l:List Cnt):SV.cells (ygl l) = [ygl l]:=rfl
theorem ybww(l:List Bool):one1 (blV l)=true:=rfl
theorem ybpb{n:Nat}(l:List Bool):owned (n+1) (blV l)=false:=rfl
theorem ybiz{n:Nat}(l:List Bool):scalar (n+1) (blV l)=false:=rfl
theorem ybyf{n:Nat}(o:Own)(l:List Bool):view o (n+1) (blV l)=blV l:=rfl
theorem ycro{n:Nat}(o:Own)(l:List Bool):vok o (n+1) (blV l)=True:=rfl
theorem ycuu{n:Nat}(h:Nm->Nm)(l:List Bool):ren h (n+1) (blV l)=blV l:=rfl
theorem ycrk{n:Nat}(D:Nm->Bool)(l:List Bool):cln D (n+1) (blV l)=true:=rfl
theorem ybsp{n:Nat}(fr:List Nm)(o:Own)(l:List Bool):ycj fr o (n+1) (blV l)=blV l:=rfl
theorem ycwt{n:Nat}(fr:List Nm)(o:Own)(l:List Bool):pok fr o (n+1) (blV l)=True:=rfl
theorem ybvo(l:List Bool):SV.cells (blV l) = [blV l]:=rfl
attribute [go_sem] ycbd ybra ybjl ybzz ycrg ycrq ycts ybos ycvw ybuk ybeq yyy yvy ybfo ybkb ybil ybks yzp ybik yyq yblf ybco yzu yblb ybsa ybrj ybsy ybdk ybmy ybfn ybww ybpb ybiz ybyf ycro ycuu ycrk ybsp ycwt ybvo
theorem Ct.found{P:Program}{g:FuncId}{args:List SV}{α:Type}{R:SV->α->Prop}{V:α->SV}{Q:SV->Prop}(h:Ct P g args fun r=>∃ x,R r x)(hs:∀ r x,R r x->Sim r (V x))(hq:∀ r x,R r x->Q (V x)):Ct P g args Q:=fun G m us h1 h2 h3=>by
 obtain⟨v,m',r,a,b,c,⟨x,hx⟩,e⟩:=h G m us h1 h2 h3;exact⟨v,m',V x,a,b,c,hq r x hx,hs r x hx _ _ _ e⟩
def ytn(e w:Nat):Nat:=if e<2 ^ 24 then resD e w else e
theorem yzh:ybck ytn:=fun e w h0=>by
 unfold ytn;split
 ·exact ybcq e w h0 ‹_›
 ·exact⟨h0,fun _ h=>h⟩
theorem ybmz(net:List Nat):DaemonOk 3 net ytn where
 resolve:=fun e w he hn h0 hw=>by unfold ytn;rw[if_pos he];exact(ybfb net).resolve e w he hn h0 hw
 permits:=fun e w he hn h0 hw=>by unfold ytn;rw[if_pos he];exact(ybfb net).permits e w he hn h0 hw
 zero:=(ybfb net).zero
 sub:=fun e w h0 he=>yzh e w h0
theorem ybqa:ybck resS:=fun e w h0=>⟨h0,fun _ h=>h⟩
theorem Sys.run_len(S:Sys)(res:Nat->Nat->Nat):∀ (ws:List Nat) (c:Conf) (k:Cnt),(S.run res ws c k).length<=ws.length
 | [],_,_=>Nat.le_refl _
 | w :: ws,c,k=>by
  unfold Sys.run;split
  ·exact Nat.zero_le _
  ·simp only[List.length_cons];have:=Sys.run_len S res ws (S.mv c (res (S.en c) w)) (addP k (res (S.en c) w) (S.en (S.mv c (res (S.en c) w))));omega
structure RunD(S:Sys)(res:Nat->Nat->Nat)(ws:List Nat)(c:Conf)(n:Nat)(Cs:List Conf)(Ks:List Cnt):Prop where
 cs:(S.runs res ws c).map (·.1)=Cs
 ks:(S.runs res ws c).map (·.2)=Ks
 len:(S.runs res ws c).length=n
 pos:0<n
 le:n<=ws.length+1
theorem RunD.at_{S:Sys}{res:Nat->Nat->Nat}{ws:List Nat}{c:Conf}{n:Nat}{Cs:List Conf}{Ks:List Cnt}(h:RunD S res ws c n Cs Ks){k:Nat}(hk:k<n):(Cs.getD k [],Ks.getD k default) ∈ S.runs res ws c/\(S.runs res ws c)[k]? = some (Cs.getD k [],Ks.getD k default):=by
 have hk':k<(S.runs res ws c).length:=by rw[h.len];exact hk
 have e:(S.runs res ws c)[k]=(Cs.getD k [],Ks.getD k default):=by
  rw[<- h.cs,<- h.ks];simp[List.getD,hk']
 exact⟨by rw[<- e];exact List.getElem_mem hk',by rw[<- e];exact List.getElem?_eq_getElem hk'⟩
theorem RunD.lC{S:Sys}{res:Nat->Nat->Nat}{ws:List Nat}{c:Conf}{n:Nat}{Cs:List Conf}{Ks:List Cnt}(h:RunD S res ws c n Cs Ks):Cs.length=n:=by rw[<- h.cs,List.length_map,h.len]
theorem RunD.lK{S:Sys}{res:Nat->Nat->Nat}{ws:List Nat}{c:Conf}{n:Nat}{Cs:List Conf}{Ks:List Cnt}(h:RunD S res ws c n Cs Ks):Ks.length=n:=by rw[<- h.ks,List.length_map,h.len]
theorem runD(S:Sys)(res:Nat->Nat->Nat)(ws:List Nat)(c:Conf):∃ n Cs Ks,RunD S res ws c n Cs Ks :=
 ⟨_,_,_,rfl,rfl,rfl,by simp[Sys.runs],by have:=Sys.run_len S res ws c (yci (S.en c));simp only[Sys.runs,List.length_cons];omega⟩
theorem RunD.last{S:Sys}{res:Nat->Nat->Nat}{ws:List Nat}{c:Conf}{n:Nat}{Cs:List Conf}{Ks:List Cnt}(h:RunD S res ws c n Cs Ks){k:Nat}(hk:k+1<n):S.en (Cs.getD k []) ≠ 0:=by
 have h1:=(h.at_ (show k<n by omega)).2
 exact Sys.runs_last (by rw[h.len];exact hk) h1
end Sh
end Go.Proofs.YtiejahgklcjhkaaGreatDoor

namespace Go.Proofs.YtiejahgklcjhkaaGreatDoor
namespace Sh
theorem ybtc(a:Nat):difB a a=0:=(ycl _).2 fun i=>by rw[ygj];cases a.testBit i<;>rfl
theorem ybfr(S:Sys):∀ (ws:List Nat) (c:Conf) (k:Cnt),k.pend=S.en c -> ∀ (i:Nat) p,(S.run resS ws c k)[i]? = some p->p.2.rounds=k.rounds+i+1/\p.2.pend=S.en p.1
 | [],c,k,_,i,p,h=>by simp[Sys.run]at h
 | w :: ws,c,k,hk,i,p,h=>by
  unfold Sys.run at h;split at h
  ·simp at h
  ·have e:resS (S.en c) w=S.en c:=rfl;rw[e]at h
   have hr:(addP k (S.en c) (S.en (S.mv c (S.en c)))).rounds=k.rounds+1/\(addP k (S.en c) (S.en (S.mv c (S.en c)))).pend=S.en (S.mv c (S.en c)):=by
    unfold addP;rw[hk,ybtc];simp
   cases i with
   | zero =>
    simp only[List.getElem?_cons_zero]at h;cases h
    exact⟨hr.1,hr.2⟩
   | succ i =>
    have:=ybfr S ws _ _ hr.2 i p (by simpa using h)
    rw[hr.1]at this;exact⟨by omega,this.2⟩
theorem ybor{S:Sys}{ws:List Nat}{c:Conf}{i:Nat}{p:Conf × Cnt}(h:(S.runs resS ws c)[i]? = some p):p.2.rounds=i:=by
 cases i with
 | zero =>
  simp only[Sys.runs,List.getElem?_cons_zero]at h;cases h
  rfl
 | succ i =>
  have:=(ybfr S ws c (yci (S.en c)) rfl i p (by simpa [Sys.runs]using h)).1
  have e:(yci (S.en c)).rounds=0:=rfl;omega
theorem ybgz(S:Sys)(res:Nat->Nat->Nat):∀ (ws:List Nat) (c:Conf) (k:Cnt),(S.run res ws c k).length<ws.length->S.en (((c,k) :: S.run res ws c k).getD (S.run res ws c k).length default).1=0
 | [],c,k,h=>by simp at h
 | w :: ws,c,k,h=>by
  unfold Sys.run at h ⊢
  by_cases h0:S.en c=0
  ·simp only[if_pos h0];exact h0
  ·simp only[if_neg h0,List.length_cons]at h ⊢;exact ybgz S res ws _ _ (by omega)
theorem RunD.over{S:Sys}{res:Nat->Nat->Nat}{ws:List Nat}{c:Conf}{n:Nat}{Cs:List Conf}{Ks:List Cnt}(h:RunD S res ws c n Cs Ks):S.en (Cs.getD (n - 1) [])=0\/n=ws.length+1:=by
 by_cases q:n=ws.length+1
 ·exact .inr q
 ·left
  have hl:=h.len;have h1:=h.le
  have h2:=ybgz S res ws c (yci (S.en c)) (by
   simp only[Sys.runs,List.length_cons]at hl;omega)
  have e:(S.run res ws c (yci (S.en c))).length=n - 1:=by simp only[Sys.runs,List.length_cons]at hl;omega
  rw[e]at h2;have h3:=(h.at_ (show n - 1<n by have:=h.pos;omega)).2
  have e2:((c,yci (S.en c)) :: S.run res ws c (yci (S.en c))).getD (n - 1) default=(Cs.getD (n - 1) [],Ks.getD (n - 1) default):=by
   rw[List.getD_eq_getElem?_getD];have h3:((c,yci (S.en c)) :: S.run res ws c (yci (S.en c)))[n - 1]? = some (Cs.getD (n - 1) [],Ks.getD (n - 1) default):=h3;rw[h3];rfl
  rw[e2]at h2;exact h2
end Sh
end Go.Proofs.YtiejahgklcjhkaaGreatDoor

namespace Go.Proofs.YtiejahgklcjhkaaGreatDoor
structure LdC(g:Gr)(c:Conf):Prop where
 len:c.length=g.ids.length
 row:∀ v,v<g.ids.length->(c.getD v []).length=3/\(0<=(c.getD v []).getD 0 0/\(c.getD v []).getD 0 0<=ybex g)/\(0<=(c.getD v []).getD 1 0/\(c.getD v []).getD 1 0<g.ids.length)/\(-1<=(c.getD v []).getD 2 0/\(c.getD v []).getD 2 0<(g.ports.getD v []).length)
section
variable {nm nl nd np no nj:ByteArray} {g:Gr} {c:Conf} {v:Nat}
theorem LdC.link(h:LdC g c)(hg:ybb g)(hv:v<g.ids.length){l:Int × Int}(hl:l ∈ g.ports.getD v []):0<=l.1/\l.1.toNat<g.ids.length/\adj g v l.1.toNat/\(0<=endP c 0 l/\endP c 0 l<=ybex g)/\(0<=endP c 1 l/\endP c 1 l<g.ids.length):=by
 have hpl:=hg.2.2.1;obtain⟨h1,h2,h3,_⟩:=yco hg (by omega) hl
 have h4:=h.row l.1.toNat (by omega)
 exact⟨h1,by omega,h3,h4.2.1,h4.2.2.1⟩
end
end Go.Proofs.YtiejahgklcjhkaaGreatDoor

namespace Go.Proofs.YtiejahgklcjhkaaGreatDoor
section
variable {nm nl nd np no nj:ByteArray} {g:Gr} {c:Conf} {v:Nat}
end
end Go.Proofs.YtiejahgklcjhkaaGreatDoor

namespace Go.Proofs.YtiejahgklcjhkaaGreatDoor
section
variable {nm nl nd np no nj:ByteArray} {g:Gr} {c:Conf} {v:Nat}
end
end Go.Proofs.YtiejahgklcjhkaaGreatDoor

namespace Go.Proofs.YtiejahgklcjhkaaGreatDoor
section
variable {nm nl nd np no nj nh nr:ByteArray} {g:Gr}
theorem yyf(h:Tr g){ws:List Nat}{c:Conf}{n:Nat}{Cs:List Conf}{Ks:List Cnt}(hv:yft (yec nm nh nr) g c=true)(hD:Sh.RunD (ybk (yec nm nh nr) g) resS ws c n Cs Ks)(hw:g.ports.length<=ws.length) :
  yjm g (Cs.getD (n - 1) []):=by
 have hn:=hD.pos;have hpl:=h.good.2.2.1;have hi:=yqu h Sh.ybqa hv _ (hD.at_ (show n - 1<n by omega)).1
 rcases hD.over with q | q
 ·exact(ybya h hi.valid).1 q
 ·have hr:=Sh.ybor (hD.at_ (show n - 1<n by omega)).2
  intro v hv';have h1:=hi.all v hv';have h2:=h.ht_lt (v:=v) (by omega)
  unfold cnR at h1;rw[if_pos (by simp only at hr ⊢;omega)]at h1
  exact h1
end
end Go.Proofs.YtiejahgklcjhkaaGreatDoor

namespace Go.Proofs.YtiejahgklcjhkaaGreatDoor
section
variable {nm nh nr:ByteArray} {g:Gr}
theorem yddr(h:Tr g)(hit:isTreeB g=true){c:Conf}(hv:yft (yec nm nh nr) g c=true):yii g c=true:=by
 have hC:=ygp hv;have hpl:=h.good.2.2.1;unfold yii;rw[hit,Bool.true_and,ydy];refine⟨by rw[hC.len,hpl],fun v s hs=>?_⟩
 obtain⟨hvl,e⟩:=List.getElem?_eq_some_iff.1 hs;have e:c.getD v []=s:=by simp[List.getD,hs]
 obtain⟨h1,h2,h3⟩:=hC.row v (by rw[<- hC.len];exact hvl)
 rw[e]at h1 h2 h3
 have eb:ydb g [(g.ids.length:Int)] v = [(0,(g.ids.length:Int))]:=by
  have:¬ (g.ids.length:Int) = -1:=by omega
  simp[ydb,this]
 rw[eb];refine⟨h1,fun i b x hb hx=>?_⟩;have hi:=(List.getElem?_eq_some_iff.1 hb).1;have hi:i<1:=by simpa using hi
 obtain rfl:i=0:=by omega
 have hb:some (0,(g.ids.length:Int))=some b:=hb;cases hb
 have e2:s.getD 0 0=x:=by simp[List.getD,hx]
 rw[e2]at h2 h3;exact⟨h2,h3⟩
end
end Go.Proofs.YtiejahgklcjhkaaGreatDoor

namespace Go.Proofs.YtiejahgklcjhkaaGreatDoor
open Go
namespace Sh
open Ev Go.RowKit
set_option maxRecDepth 8000
theorem yuo{g:Gr}(h:Tr g):∀ (k v p:Nat) (l:Int × Int),v<g.ports.length->(g.ports.getD v [])[p]? = some l->(rchP g v l.1.toNat).toNat<=k->Returns Tryz.prog 86 [grV g,.i .i64 v,.i .i64 p] (.i .i64 (rchP g v l.1.toNat))
 | 0,v,p,l,hv,hl,hk=>by
  have hm:=List.mem_of_getElem? hl;have:=h.rch_pos (yco h.good hv hm).2.2.1;omega
 | k+1,v,p,lp,hv,hlp,hk=>by
  refine Returns.of (ydba _ _ ?_);have ih:=yuo h k;have hmp:=List.mem_of_getElem? hlp;obtain⟨b1,b2,hu,_⟩:=yco h.good hv hmp;obtain⟨u,hue⟩:∃ u,lp.1.toNat=u:=⟨_,rfl⟩;have hlu:lp.1=(u:Int):=by omega
  rw[hue]at hu b2 hk ⊢;have h24:=h.good.2.1;have hlo:=h.rch_loop hu;have hrs:∀ i,rchS g v u i=((g.ports.getD u []).take i).foldl (yly g v u) 1:=fun _=>rfl;have hsu:=fun i=>ybur (g:=g) (v:=v) (u:=u) (i:=i);have hle:=h.rch_le hu;have hdv:=h.good.deg_lt (v:=v);obtain⟨Lv,hLv⟩:∃ L,g.ports.getD v []=L:=⟨_,rfl⟩;have hpl:p<Lv.length:=by rw[<- hLv];exact(List.getElem?_eq_some_iff.1 hlp).1
  have hpe:Lv.getD p (0,0)=lp:=by rw[<- hLv,List.getD_eq_getElem?_getD,hlp];rfl
  rw[hLv]at hdv;obtain⟨L,hL⟩:∃ L,g.ports.getD u []=L:=⟨_,rfl⟩;have hdeg:=h.good.deg_lt (v:=u)
  have hadj:∀ l ∈ L,0<=l.1/\l.1.toNat<g.ports.length/\adj g u l.1.toNat:=fun l hl=>by
   obtain⟨a,b,c,_⟩:=yco h.good b2 (by rw[hL];exact hl)
   exact⟨a,b,c⟩
  have hless:∀ l ∈ L,l.1 ≠ (v:Int)->rchP g u l.1.toNat<rchP g v u:=fun l hl=>h.rch_less hu (by rw[hL];exact hl)
  rw[hL]at hlo hdeg hrs;simp only[hL]at hsu;obtain⟨d,hd⟩:∃ d,L.length=d:=⟨_,rfl⟩;obtain⟨S,hS⟩:∃ S:Nat->Int,(fun i=>rchS g v u i)=S:=⟨_,rfl⟩;have hS':∀ i,rchS g v u i=S i:=fun i=>by rw[<- hS]
  simp only[hS']at hsu hrs;rw[hd]at hdeg hsu;have hS0:S 0=1:=by rw[hrs];rfl
  have hSd:S d=rchP g v u:=by rw[hrs,<- hd,List.take_length,hlo]
  rw[<- hSd]at hless hle hk ⊢;simp only[grV]at ih;simp only[c86,ydds,ydaf,ydat,grV,yu,yba,hLv,hpe,hlu,clash,go_sem,Nat.reduceEqDiff,Nat.reduceAdd,Nat.reduceLeDiff,Nat.reduceLT,↓reduceIte,reduceCtorEq];refine⟨⟨by omega,by omega⟩,⟨by omega,by omega⟩,?_⟩
  refine ybe (σ:=Nat) (fun i=>⟨[(9,.i .i64 i),(8,.i .i64 (S i)),(7,.i .i64 u),(1,.i .i64 v),(3,.pt (3,0) 0 0)],[(3,.one (some ⟨27,true,2,1,fun _=>[yj g.ids,yu g.ports]⟩))]⟩) (fun i=>i<=d) (fun i=>d - i) 0 (Nat.zero_le _) ?_ ?_
  ·refine yg [] [] [] ?_;simp only[yu,yba,hS0,allQ,live,yc,Int.natCast_zero,go_sem,Nat.reduceEqDiff,↓reduceIte,reduceCtorEq]
  intro i hi
  by_cases hlt:i<d
  ·have t1:decide ((i:Int)<(d:Int))=true:=decide_eq_true (by omega)
   have hle?:L[i]? = some (L.getD i (0,0)):=by rw[getD_at (show i<L.length by omega)];exact List.getElem?_eq_getElem _
   have hss:=hsu i hlt;obtain⟨l,hl⟩:∃ l,L.getD i (0,0)=l:=⟨_,rfl⟩;rw[hl]at hle? hss;have hm:=List.mem_of_getElem? hle?;obtain⟨a1,a2,a3⟩:=hadj l hm
   by_cases hlv:l.1=(v:Int)
   ·have t2:(l.1 != (v:Int))=false:=by rw[hlv];simp
    have e:S (i+1)=S i:=by
     rw[hss];unfold yly;rw[if_neg (by rw[t2];decide)]
    simp only[ybyu,ycuf,ycxd,yu,yba,hL,hd,hl,t1,t2,clash,go_sem,Nat.reduceEqDiff,Nat.reduceAdd,Nat.reduceLeDiff,↓reduceIte,reduceCtorEq];refine⟨⟨by omega,by omega⟩,⟨by omega,by omega⟩,by omega,ikw (by omega) (by omega),?_⟩
    refine yh (i+1) (by omega) (by omega) ?_
    refine yg [] [] [] ?_;simp only[e,allQ,live,yc,yw,go_sem,Nat.reduceEqDiff,↓reduceIte,reduceCtorEq];omega
   ·have t2:(l.1 != (v:Int))=true:=by rw[bne_iff_ne];exact hlv
    have hlr:=hless l hm hlv;have hlb:=h.rch_le a3;have hR:=ih u i l (by omega) (by rw[hL];exact hle?) (by omega)
    have e:S (i+1)=max (S i) (1+rchP g u l.1.toNat):=by
     rw[hss];unfold yly;rw[if_pos t2]
    obtain⟨r,hr⟩:∃ r,rchP g u l.1.toNat=r:=⟨_,rfl⟩;rw[hr]at hR e hlb;simp only[ybyu,ycuf,ycxd,ycxo,yu,yba,hL,hd,hl,t1,t2,clash,go_sem,Nat.reduceEqDiff,Nat.reduceAdd,Nat.reduceLeDiff,↓reduceIte,reduceCtorEq];refine⟨⟨by omega,by omega⟩,⟨by omega,by omega⟩,by omega,hR.use ?_⟩
    simp only[thenO,clash,go_sem,Nat.reduceEqDiff,Nat.reduceAdd,↓reduceIte,reduceCtorEq];refine⟨ikw (by omega) (by omega),ikw (by omega) (by omega),?_⟩
    refine yh (i+1) (by omega) (by omega) ?_
    refine yg [] [] [] ?_;simp only[e,allQ,live,yc,yw,go_sem,Nat.reduceEqDiff,↓reduceIte,reduceCtorEq];omega
  ·obtain rfl:i=d:=by omega
   have t1:decide ((i:Int)<(i:Int))=false:=decide_eq_false (by omega)
   simp only[ybyu,ycyh,yu,yba,hL,hd,t1,clash,go_sem,Nat.reduceEqDiff,Nat.reduceAdd,↓reduceIte,reduceCtorEq];exact⟨⟨by omega,by omega⟩,Sim.refl _⟩
theorem ybdf{g:Gr}(h:Tr g){v:Nat}(hv:v<g.ports.length):Returns Tryz.prog 32 [grV g,.i .i64 v] (.i .i64 (htP g v)):=by
 refine Returns.of (ydbl _ _ ?_);have h24:=h.good.2.1;have hend:=ycsx g v;have hsu:=fun i=>ybfu (g:=g) (v:=v) (i:=i);have hsl:=ycpr h hv;have hdeg:=h.good.deg_lt (v:=v);have hadj:=fun(l:Int × Int) (hl:l ∈ g.ports.getD v [])=>yco h.good hv hl;have hRR:=fun(i:Nat) (l:Int × Int) (hl:(g.ports.getD v [])[i]? = some l)=>yuo h _ v i l hv hl (Nat.le_refl _);obtain⟨L,hL⟩:∃ L,g.ports.getD v []=L:=⟨_,rfl⟩
 obtain⟨d,hd⟩:∃ d,L.length=d:=⟨_,rfl⟩;rw[hL,hd]at hend hdeg hsl;rw[hL]at hadj;simp only[hL,hd]at hsu hRR;obtain⟨S,hS⟩:∃ S:Nat->Int × Int,(fun i=>htS g v i)=S:=⟨_,rfl⟩;have hS':∀ i,htS g v i=S i:=fun i=>by rw[<- hS]
 have hS0:S 0=(0,0):=by rw[<- hS'];rfl
 simp only[hS']at hsu hsl hend;rw[<- hend];simp only[grV]at hRR;simp only[c32,ydca,ydbn,ydek,grV,clash,go_sem,Nat.reduceAdd,Nat.reduceLT,↓reduceIte];refine ybe (σ:=Nat) (fun i=>⟨[(7,.i .i64 i),(5,.i .i64 (S i).1),(6,.i .i64 (S i).2),(1,.i .i64 v),(2,.pt (2,0) 0 0)],[(2,.one (some ⟨27,true,2,1,fun _=>[yj g.ids,yu g.ports]⟩))]⟩) (fun i=>i<=d) (fun i=>d - i) 0 (Nat.zero_le _) ?_ ?_
 ·refine yg [] [] [] ?_;simp only[hS0,allQ,live,yc,Int.natCast_zero,go_sem,Nat.reduceEqDiff,↓reduceIte,reduceCtorEq]
 intro i hi
 by_cases hlt:i<d
 ·have t1:decide ((i:Int)<(d:Int))=true:=decide_eq_true (by omega)
  have hle?:L[i]? = some (L.getD i (0,0)):=by rw[getD_at (show i<L.length by omega)];exact List.getElem?_eq_getElem _
  have hss:=hsu i hlt;have hb:=hsl i hi;obtain⟨l,hl⟩:∃ l,L.getD i (0,0)=l:=⟨_,rfl⟩;rw[hl]at hle? hss;have hR:=hRR i l hle?;obtain⟨r,hr⟩:∃ r,rchP g v l.1.toNat=r:=⟨_,rfl⟩;rw[hr]at hR hss;rw[ybfv hb.1.2]at hss;unfold step2 at hss
  by_cases q:r > (S i).1
  ·have t2:decide (r > (S i).1)=true:=decide_eq_true q;rw[if_pos q]at hss;have e1:(S (i+1)).1=r:=by rw[hss]
   have e2:(S (i+1)).2=(S i).1:=by rw[hss]
   simp only[ybyh,yctu,ycub,yu,yba,hL,hd,t1,clash,go_sem,Nat.reduceEqDiff,Nat.reduceAdd,↓reduceIte,reduceCtorEq];refine⟨⟨by omega,by omega⟩,hR.use ?_⟩
   simp only[thenO,ycsi,yded,t2,clash,go_sem,Nat.reduceEqDiff,Nat.reduceAdd,↓reduceIte,reduceCtorEq];refine⟨ikw (by omega) (by omega),?_⟩
   refine yh (i+1) (by omega) (by omega) ?_
   refine yg [] [] [] ?_;simp only[e1,e2,allQ,live,yc,yw,go_sem,Nat.reduceEqDiff,↓reduceIte,reduceCtorEq];omega
  ·have t2:decide (r > (S i).1)=false:=decide_eq_false q;rw[if_neg q]at hss;have e1:(S (i+1)).1=(S i).1:=by rw[hss]
   have e2:(S (i+1)).2=max (S i).2 r:=by rw[hss]
   simp only[ybyh,yctu,ycub,yu,yba,hL,hd,t1,clash,go_sem,Nat.reduceEqDiff,Nat.reduceAdd,↓reduceIte,reduceCtorEq];refine⟨⟨by omega,by omega⟩,hR.use ?_⟩
   simp only[thenO,ycsi,yddc,t2,clash,go_sem,Nat.reduceEqDiff,Nat.reduceAdd,↓reduceIte,reduceCtorEq];refine⟨ikw (by omega) (by omega),?_⟩
   refine yh (i+1) (by omega) (by omega) ?_
   refine yg [] [] [] ?_;simp only[e1,e2,allQ,live,yc,yw,go_sem,Nat.reduceEqDiff,↓reduceIte,reduceCtorEq];omega
 ·obtain rfl:i=d:=by omega
  have t1:decide ((i:Int)<(i:Int))=false:=decide_eq_false (by omega)
  simp only[ybyh,yczx,yu,yba,hL,hd,t1,clash,go_sem,Nat.reduceEqDiff,Nat.reduceAdd,↓reduceIte,reduceCtorEq];exact⟨⟨by omega,by omega⟩,Sim.refl _⟩
theorem yye{c:Conf}{v:Nat}(hv:v<c.length)(hl:c.length<=1000)(hs:0<(c.getD v []).length):Returns Tryz.prog 82 [.i .i64 v,.rf [ybf c]] (.i .i64 ((c.getD v []).getD 0 0)):=by
 refine Returns.of (ydfa _ _ ?_);simp only[c82,ycya,yddq,ybf,yj,clash,go_sem,Int.reduceToNat,Nat.reduceEqDiff,Nat.reduceAdd,↓reduceIte,reduceCtorEq];exact⟨⟨by omega,by omega⟩,by omega,Sim.refl _⟩
def ybyy(g:Gr)(c:Conf):Nat:=if yii g c=true then yhx (fun v=>(c.getD v []).getD 0 0) g else 0
theorem ybdt{g:Gr}(hI:GrI g){c:Conf}(hR:ybnb c):Returns Tryz.prog 27 [grV g,ybf c] (.i .u32 (ybyy g c)):=by
 refine Returns.of (ydbk _ _ ?_);have hC:=ybss hI hR;unfold ybyy;cases hcf:yii g c with
 | false =>
  rw[hcf]at hC;simp only[grV]at hC;simp only[c27,ycxe,ycsg,ydei,grV,clash,go_sem,Nat.reduceEqDiff,Nat.reduceAdd,Nat.reduceLT,↓reduceIte,reduceCtorEq];refine hC.use ?_;simp only[thenO,clash,go_sem,Nat.reduceAdd,↓reduceIte];exact Sim.refl _
 | true =>
  obtain⟨ht,hcl,hc1⟩:=ybof hcf;have hg:=ybby ht;have h24:=hg.2.1;have hP:=yblu hg (f:=fun v=>(c.getD v []).getD 0 0) (h:=82) (cp:=[.rf [ybf c]]) (by rfl) (fun v hv=>yye (by omega) (by omega) (by rw[hc1 v (by omega)];decide))
  obtain⟨Z,hZ⟩:∃ Z,yhx (fun v=>(c.getD v []).getD 0 0) g=Z:=⟨_,rfl⟩;rw[hcf]at hC;rw[hZ]at hP;rw[if_pos rfl,hZ];simp only[grV]at hC hP;simp only[c27,ycxe,ycsg,ydcz,grV,clash,go_sem,Nat.reduceEqDiff,Nat.reduceAdd,Nat.reduceLT,↓reduceIte,reduceCtorEq];refine hC.use ?_;simp only[thenO,clash,go_sem,Nat.reduceEqDiff,Nat.reduceAdd,Nat.reduceLeDiff,↓reduceIte,reduceCtorEq];refine .inl (hP.use ?_);simp only[go_sem]
  exact Sim.refl _
end Sh
end Go.Proofs.YtiejahgklcjhkaaGreatDoor

namespace Go.Proofs.YtiejahgklcjhkaaGreatDoor
namespace Sh
open Go Ev
theorem Cm.ct{P:Program}{g:FuncId}{args:List SV}{Q:SV->Own->Prop}{R:SV->Prop}(h:Cm P g [] [] args Q)(hq:∀ r o',Q r o'->vok o' 5 r/\R (view o' 5 r)):Ct P g args R:=by
 intro G m us hw hle hargs
 have hc0:Conc m.next G om0 ⟨[],[]⟩ ⟨0,.leaf⟩ (enterM m) :=
  ⟨hw,Nat.le_refl _,Nat.le_refl _,hle,fun β b h=>(by cases h),fun β _=>rfl,fun β γ k z k' z' h=>(by cases h),fun β k z h=>(by cases h),fun t v hv=>(by cases hv)⟩
 obtain⟨v,m1,r,o',F',ω',s0,t2,hrv,l1,l2,_,_,hQ⟩:=h m.next G om0 ⟨0,.leaf⟩ (enterM m) us hc0 hargs
 obtain⟨r3,r4⟩:=hq r o' hQ
 have hs0:ybi P (.call g us m) (.call v m1):=by
  obtain⟨n,b,l⟩:=m;exact ybi.relow s0
 have hm1:m.next<=m1.low:=t2.low
 have hold:∀ {i x},m.b.get i=some x->i<m.next:=fun {i x} q=>hw i x q
 have hview:∀ H:AM,Le F' H->(∀ β k z,ω' β=some (some (k,z)) -> ∀ b,m1.b.get k=some b->H k=some b)->RV H om0 (view o' 5 r) v:=fun H h1 h2=>yhh t2 h1 h2 hrv r3
 have hs1:ybi P (.call g us m) (.call v ⟨m1.next,yfk m.b m1.b,m1.low⟩):=by
  intro hwm;obtain⟨ext,hcall⟩:=hs0 hwm
  have hget:∀ {i x},(yfk m.b m1.b).get i=some x->m.b.get i=some x\/m1.b.get i=some x:=fun {i x} q=>by
   rw[ycg]at q;split at q
   ·rename_i y hy;cases q;exact .inl hy
   ·exact .inr q
  refine⟨⟨ext.next,fun i b hq=>?_,fun i b h1 h2 hq=>?_,fun i b hq=>?_⟩,fun φ M w args' hR hs ha hf=>?_⟩
  ·rcases hget hq with q | q
   ·exact .inl ⟨b,q⟩
   ·exact ext.dom i b q
  ·rcases hget hq with q | q
   ·exact q
   ·exact ext.old i b h1 h2 q
  ·rcases hget hq with q | q
   ·exact Nat.lt_of_lt_of_le (hold q) ext.next
   ·exact ext.wf i b q
  ·refine(hcall φ M w args' hR hs ha hf).mono ?_;rintro e' w' ⟨v',rfl,φ',M',hgd,hv⟩;refine⟨v',rfl,φ',M',⟨hgd.le,hgd.out,hgd.rel,fun i b hq=>?_,hgd.frame,hgd.wg⟩,hv⟩;rcases hget hq with q | q
   ·have hi:=hold q;rw[hgd.frame i (fun z=>by omega) (.inr (Nat.lt_of_lt_of_le hi hm1))]
    exact hs i b q
   ·exact hgd.sub i b q
 have hnone:∀ {i},m.next<=i->m.b.get i=none:=fun {i} q=>by
  cases hh:m.b.get i with
  | none=>rfl
  | some x=>have:=hold hh;omega
 refine⟨_,_,view o' 5 r,hs1,hm1,fun i b hq=>?_,r4,hview _ (fun i b hq=>?_) (fun β k z hk b hq=>?_)⟩
 ·show(yfk m.b m1.b).get i=some b;rw[ycg,hq]
 ·unfold frsh;rcases l2 i b hq with q | q
  ·rw[if_neg (by have:=hold (hle i b q);omega)];exact q
  ·rw[if_pos q];show(yfk m.b m1.b).get i=some b;rw[ycg,hnone q];exact t2.sub i b hq
 ·unfold frsh;have:=(t2.apart β k z hk).2.1;rw[if_pos this];show(yfk m.b m1.b).get k=some b;rw[ycg,hnone this];exact hq
theorem Cm.weak {P:Program} {g:FuncId} {o:Own} {args:List SV} {Q R:SV->Own->Prop} (h:Cm P g [] o args Q)
  (hq:∀ r o',Q r o' -> ∃ r2 o2,Weak [] ⟨[(0,r)],o'⟩ ⟨[(0,r2)],o2⟩/\(cln (live o2) 5 r2=true/\allQ (fun p=>famCln (live o2) p.2) o2)/\R r2 o2):Cm P g [] o args R:=by
 intro lo G ω f m us hc hargs;obtain⟨v,m1,r,o',F',ω',s0,t2,hrv,l1,l2,_,_,hQ⟩:=h lo G ω f m us hc hargs;obtain⟨r2,o2,hw,hcl,hR⟩:=hq r o' hQ
 have t3:Conc lo F' ω' ⟨[(0,r)],o'⟩ ⟨1,tOf [v]⟩ m1:=⟨t2.wf,t2.low,t2.nxt,t2.sub,t2.own,t2.dom,t2.inj,t2.apart,fun t x hx=>by
  unfold look at hx;split at hx
  ·rename_i e
   cases hx
   exact⟨v,by rw[yby];simp[<- e],hrv⟩
  ·cases hx⟩
 obtain⟨ω2,F2,k1,k2,k3,_⟩:=hw lo F' ω' _ m1 t3;obtain⟨u,q1,q2⟩:=k3.fr 0 r2 rfl
 have e:u=v:=by
  rw[yby]at q1
  simpa using q1.symm
 subst e
 exact⟨u,m1,r2,o2,F2,ω2,s0,⟨k3.wf,k3.low,k3.nxt,k3.sub,k3.own,k3.dom,k3.inj,k3.apart,fun t x hx=>(by cases hx)⟩,q2,fun x b hx=>k1 x b (l1 x b hx),fun x b hx=>by
  rcases k2 x b hx with z | z
  ·exact l2 x b z
  ·exact .inr z,fun β hβ=>absurd hβ List.not_mem_nil,⟨hcl.1,hcl.2,trivial⟩,hR⟩
end Sh
end Go.Proofs.YtiejahgklcjhkaaGreatDoor

namespace Go.Proofs.YtiejahgklcjhkaaGreatDoor
namespace Sh
open Go Ev
end Sh
end Go.Proofs.YtiejahgklcjhkaaGreatDoor

namespace Go.Proofs.YtiejahgklcjhkaaGreatDoor
open Go
theorem TreeTo.tr{x:NetR}{g:Gr}(hg:ybb g)(h:TreeTo x g.ports.length g):Tr g:=by
 have hc:=Tre.conn hg h.tre;refine⟨hg,hc,yczw hg hc ?_⟩;have:=h.count;have:=hg.1;omega
namespace Sh
open Ev Go.RowKit
set_option maxRecDepth 8000
theorem link_told(g:Gr):vok (yfc g.ports) 5 (yrx g)/\Sim (view (yfc g.ports) 5 (yrx g)) (grV g):=by
 obtain⟨P,hP⟩:∃ P,g.ports=P:=⟨_,rfl⟩;simp only[yrx,yfc,grV,hP,go_sem,Nat.reduceEqDiff,↓reduceIte];refine⟨fun q hq=>?_,?_⟩
 ·simp only[if_pos hq];exact⟨Nat.le_refl _,fun k hk=>by simp only[rowO,go_sem]⟩
 ·refine ytp ⟨Sim.refl _,?_,trivial⟩;refine yhe fun q hq=>?_;simp only[if_pos hq];simp only[rowO,yba,go_sem];exact⟨Sim.refl _,trivial⟩
theorem Tree_ret{x:NetR}(hx:x.ok){most:Nat}(hm:1<=most/\most<=24) :
  Ct Tryz.prog 21 [.ag (netC x),.i .i64 most] fun r=>∃ g,Tr g/\isTreeB g=true/\g.ports.length<=most/\Sim r (grV g) :=
 (Tree_ok hx hm).ct fun r o' ⟨g,hg,ht,hn,e1,e2⟩=>by
  subst e1 e2;have hT:=ht.tr hg;refine⟨(link_told g).1,g,hT,?_,hn,(link_told g).2⟩;unfold isTreeB;rw[hT.conn];have:=ht.count;have:=hg.1;simp only[Bool.true_and,decide_eq_true_eq];omega
end Sh
end Go.Proofs.YtiejahgklcjhkaaGreatDoor

namespace Go.Proofs.YtiejahgklcjhkaaGreatDoor
namespace Ev
open Go Go.RowKit
def hkN:Hooks:=⟨some 149,some 261,some 153,symB,[],some 158⟩
theorem ydbr:HooksOk Tryz.prog hkN:=⟨fun g h=>(by cases h;exact ybhj),fun g h=>(by cases h;exact ynx),fun g h=>(by cases h;exact ybmf),fun c hc=>(by cases hc),fun g h=>(by cases h;exact yvv)⟩
set_option maxRecDepth 1000000 in
theorem ybeh:outV (ev Tryz.prog hkN 3000 (.call 30 [] mem0))=some (.bool true):=by kernel_rfl
theorem ycsd(w:World)(hG:GlW w):Calls Tryz.prog 30 #[] w fun e w'=>e = .returned (.bool true)/\Below w.heap.size w w' :=
 ywi mix yoq ydbr ybeh rfl rfl ⟨_,_,Tryz.func30,rfl⟩ w hG
end Ev
namespace Sh
open Go Ev Go.RowKit
theorem yqz:Returns Tryz.prog 30 [] (.b true):=by
 refine yuc ⟨_,_,Tryz.func30,rfl⟩ (fun _=>.b) (fun _=>.simple rfl) fun G m us hG hr φ M w us' hRl hs hv=>?_;cases hr
 cases hv
 exact ycsd w fun x hx=>(hRl.gl x hx).1
end Sh
end Go.Proofs.YtiejahgklcjhkaaGreatDoor

namespace Go.Proofs.YtiejahgklcjhkaaGreatDoor
namespace Ev
open Go
theorem ynu:∀ l:List UInt8,eqBytes l l=true
 | []=>rfl
 | x :: l=>by
  show(Nat.beq x.toNat x.toNat && eqBytes l l)=true;rw[Nat.beq_refl,ynu l];rfl
theorem ytv{ρ:Nat->Nat}{a:Addr}(h:a.spot.isNone=true):eqAddr (renA ρ a) (renA ρ a)=true:=by
 rw[yie];unfold eqAddr;simp only[Nat.beq_refl,h,Bool.and_self]
theorem ybpk{ρ:Nat->Nat}{v:Value}(hf:yop v=true)(h:eq1 v v=true):eq1 (ren1 ρ v) (ren1 ρ v)=true:=by
 unfold yop at hf;split at hf
 ·exact ytv hf
 ·rename_i a n c
  show(eqAddr (renA ρ a) (renA ρ a) && Nat.beq n n && Nat.beq c c)=true;rw[ytv hf,Nat.beq_refl,Nat.beq_refl];rfl
 ·rename_i h1 h2
  have:ren1 ρ v=v:=by
   unfold ren1;split
   ·rename_i a;exact absurd rfl (h1 a)
   ·rename_i a n c;exact absurd rfl (h2 a n c)
   ·rfl
  rw[this];exact h
theorem yos{ρ:Nat->Nat}:∀ {l:List Value},l.all yop=true->eqL1 l l=true->eqL1 (l.map (ren1 ρ)) (l.map (ren1 ρ))=true
 | [],_,_=>rfl
 | x :: l,hf,h=>by
  simp only[List.all_cons,Bool.and_eq_true]at hf;have h:(eq1 x x && eqL1 l l)=true:=h;rw[Bool.and_eq_true]at h;show(eq1 (ren1 ρ x) (ren1 ρ x) && eqL1 (l.map (ren1 ρ)) (l.map (ren1 ρ)))=true;rw[ybpk hf.1 h.1,yos hf.2 h.2];rfl
theorem ybuy{v:Value}(h1:∀ a,v = .agg a->False)(h2:∀ g a c,v = .func (.func g) a c->False):eq2 v v=eq1 v v:=by
 cases v with
 | agg a=>exact(h1 a rfl).elim
 | func f a c=>cases f with
  | func g=>exact(h2 g a c rfl).elim
  | _=>rfl
 | _=>rfl
theorem ybvm{ρ:Nat->Nat}{v:Value}(h1:∀ a,v = .agg a->False)(h2:∀ g a c,v = .func (.func g) a c->False)(hf:yop v=true):ren2 ρ v=ren1 ρ v:=by
 cases v with
 | agg a=>exact(h1 a rfl).elim
 | func f a c=>cases f with
  | func g=>exact(h2 g a c rfl).elim
  | _=>cases hf
 | _=>rfl
theorem yte{ρ:Nat->Nat}{v:Value}(hf:yop v=true):(∀ a,ren1 ρ v = .agg a->False) /\ ∀ g a c,ren1 ρ v = .func (.func g) a c->False:=by
 cases v with
 | agg a=>cases hf
 | func f a c=>cases hf
 | pointer p=>cases p<;>exact⟨fun _ h=>(by cases h),fun _ _ _ h=>(by cases h)⟩
 | slice p n c=>cases p<;>exact⟨fun _ h=>(by cases h),fun _ _ _ h=>(by cases h)⟩
 | _=>exact⟨fun _ h=>(by cases h),fun _ _ _ h=>(by cases h)⟩
theorem yboa{ρ:Nat->Nat}{v:Value}(hf:yja v=true)(h:eq2 v v=true):eq2 (ren2 ρ v) (ren2 ρ v)=true:=by
 unfold yja at hf;split at hf
 ·rename_i a
  have h:eqL1 a.toList a.toList=true:=h;show eqL1 (a.toList.map (ren1 ρ)).toArray.toList (a.toList.map (ren1 ρ)).toArray.toList=true;exact yos hf h
 ·rename_i g a c
  rw[Bool.and_eq_true]at hf;have h:(Nat.beq g g && eqL1 a.toList a.toList && eqL1 c.toList c.toList)=true:=h;simp only[Bool.and_eq_true]at h;show(Nat.beq g g && eqL1 (a.toList.map (ren1 ρ)).toArray.toList (a.toList.map (ren1 ρ)).toArray.toList && eqL1 (c.toList.map (ren1 ρ)).toArray.toList (c.toList.map (ren1 ρ)).toArray.toList)=true;rw[Nat.beq_refl,yos hf.1 h.1.2,yos hf.2 h.2];rfl
 ·rename_i h1 h2
  rw[ybuy h1 h2]at h;rw[ybvm h1 h2 hf,ybuy (yte hf).1 (yte hf).2];exact ybpk hf h
def reflB(b:BlkL):Bool:=b.l.all (fun v=>eq2 v v && yja v) && Nat.blt b.l.length 1000000
theorem yri{ρ:Nat->Nat}{b:BlkL}(h:reflB b=true):∀ v ∈ (b.ren ρ).l,eq2 v v=true:=by
 unfold reflB at h;rw[Bool.and_eq_true]at h;intro v hv;obtain⟨x,hx,rfl⟩:=List.mem_map.1 hv;have:=List.all_eq_true.1 h.1 x hx;rw[Bool.and_eq_true]at this;exact yboa this.2 this.1
theorem yla{l:List Value}(h:∀ v ∈ l,eq2 v v=true):∀ (k:List Value) (n:Nat),l.drop n=k->cellsAre (tOf l) n k=true
 | [],_,_=>rfl
 | v :: k,n,e=>by
  have hn:n<l.length:=by
   rcases Nat.lt_or_ge n l.length with q | q
   ·exact q
   ·rw[List.drop_eq_nil_of_le q]at e;cases e
  rw[List.drop_eq_getElem_cons hn]at e
  injection e with e1 e2
  unfold cellsAre;rw[yby,List.getElem?_eq_getElem hn,e1];simp only;rw[h v (by rw[<- e1];exact List.getElem_mem _),yla h k (n+1) e2]
  rfl
theorem yls{m:Mem}{b:BlkL}(hg:m.b.get b.i=some b.blk)(h:∀ v ∈ b.l,eq2 v v=true)(hl:Nat.blt b.l.length 1000000=true):blkIs m b=true:=by
 unfold blkIs;rw[hg];show(Nat.beq b.l.length b.l.length && Nat.beq b.e b.e && Nat.beq b.z b.z && Nat.blt b.l.length 1000000 && cellsAre (tOf b.l) 0 b.l)=true;rw[Nat.beq_refl,Nat.beq_refl,Nat.beq_refl,hl,yla h b.l 0 (List.drop_zero ..)];rfl
theorem yre:∀ {l:List BlkL} {t:T ABlk} {i:Nat},(∀ b ∈ l,b.i ≠ i)->(blksT t l).get i=t.get i
 | [],_,_,_=>rfl
 | b :: l,t,i,h=>by
  unfold blksT;rw[T.strict_eq,yre fun c hc=>h c (List.mem_cons_of_mem _ hc),T.set_at,if_neg (fun e=>h b List.mem_cons_self e.symm)]
theorem yoz:∀ {l:List BlkL} {t:T ABlk},yfs (l.map (·.i))=true -> ∀ b ∈ l,(blksT t l).get b.i=some b.blk
 | [],_,_,b,hb=>by cases hb
 | c :: l,t,h,b,hb=>by
  have h:(!(l.map (·.i)).elem c.i && yfs (l.map (·.i)))=true:=h;rw[Bool.and_eq_true,Bool.not_eq_true']at h;unfold blksT;rw[T.strict_eq];rcases List.mem_cons.1 hb with e | hb
  ·subst e;rw[yre fun d hd e=>?_,T.set_at,if_pos rfl];have:(l.map (·.i)).elem b.i=true:=List.elem_eq_true_of_mem (List.mem_map.2 ⟨d,hd,e⟩);rw[this]at h;cases h.1
  ·exact yoz h.2 b hb
theorem ykw:∀ {l:List Nat},l.Nodup->yfs l=true
 | [],_=>rfl
 | x :: l,h=>by
  rw[List.nodup_cons]at h;show(!(l.elem x) && yfs l)=true
  have:l.elem x=false:=by
   cases hq:l.elem x with
   | false=>rfl
   | true=>exact absurd (by simpa using hq) h.1
  rw[this,ykw h.2];rfl
theorem yxi:∀ {l:List Nat},yfs l=true->l.Nodup
 | [],_=>List.nodup_nil
 | x :: l,h=>by
  have h:(!(l.elem x) && yfs l)=true:=h;rw[Bool.and_eq_true,Bool.not_eq_true']at h;rw[List.nodup_cons];refine⟨fun hm=>?_,yxi h.2⟩;have:l.elem x=true:=by simpa using hm
  rw[this]at h;cases h.1
theorem ybgu{d:Nat}:∀ {l:List BlkL} {k:List Nat},(l.map (·.i)).Nodup->l.length=k.length->l.map (fun b=>ywu l k d b.i)=k
 | [],[],_,_=>rfl
 | b :: l,t :: k,hn,hl=>by
  rw[List.map_cons,List.nodup_cons]at hn;have ih:=ybgu (d:=d) hn.2 (by simpa using hl)
  rw[List.map_cons];have e1:ywu (b :: l) (t :: k) d b.i=t:=by unfold ywu;rw[Nat.beq_refl];rfl
  rw[e1];congr 1;refine Eq.trans (List.map_congr_left fun c hc=>?_) ih;show(bif Nat.beq b.i c.i then t else ywu l k d c.i)=_
  have:Nat.beq b.i c.i=false:=by
   cases hq:Nat.beq b.i c.i with
   | false=>rfl
   | true=>exact absurd (List.mem_map.2 ⟨c,hc,(Nat.eq_of_beq_eq_true hq).symm⟩) hn.1
  rw[this];rfl
 | [],_ :: _,_,h=>by cases h
 | _ :: _,[],_,h=>by cases h
def Fact.still(f:Fact):Bool:=Nat.ble f.next0 f.low && f.args.all yja && ybrf f.v && f.pre.all (fun b=>Nat.blt b.i f.next0 && reflB b) && yfs (f.pre.map (·.i)) && f.post.all (fun b=>Nat.ble f.next0 b.i && Nat.blt b.i f.next1 && reflB b) && yfs (f.post.map (·.i)) && Nat.ble f.next0 f.next1
theorem ycjz{a b:Nat}(h:Nat.blt a b=true):a<b:=Nat.lt_of_lt_of_le (Nat.lt_succ_self _) (Nat.le_of_ble_eq_true h)
theorem ybgq{a b:Nat}(h:a<b):Nat.blt a b=true:=Nat.ble_eq_true_of_le h
theorem yjk{f:Fact}(h:f.still=true):f.next0<=f.low/\(f.args.all yja=true/\ybrf f.v=true)/\(∀ b ∈ f.pre,b.i<f.next0/\reflB b=true)/\(f.pre.map (·.i)).Nodup/\(∀ b ∈ f.post,f.next0<=b.i/\b.i<f.next1/\reflB b=true)/\(f.post.map (·.i)).Nodup/\f.next0<=f.next1:=by
 unfold Fact.still at h;simp only[Bool.and_eq_true]at h;obtain⟨⟨⟨⟨⟨⟨⟨h1,h2⟩,h3⟩,h4⟩,h5⟩,h6⟩,h7⟩,h8⟩:=h;refine⟨Nat.le_of_ble_eq_true h1,⟨h2,h3⟩,fun b hb=>?_,yxi h5,fun b hb=>?_,yxi h7,Nat.le_of_ble_eq_true h8⟩
 ·have:=List.all_eq_true.1 h4 b hb;rw[Bool.and_eq_true]at this;exact⟨ycjz this.1,this.2⟩
 ·have:=List.all_eq_true.1 h6 b hb;simp only[Bool.and_eq_true]at this;exact⟨Nat.le_of_ble_eq_true this.1.1,ycjz this.1.2,this.2⟩
theorem ybpi{f:Fact}{tgt:List Nat}{n0:Nat}(hp:∀ b ∈ f.pre,b.i<f.next0/\reflB b=true)(hn:(f.pre.map (·.i)).Nodup)(hl:f.pre.length=tgt.length):f.pre.map (fun b=>f.rho tgt n0 b.i)=tgt:=by
 refine Eq.trans (List.map_congr_left fun b hb=>?_) (ybgu (d:=Nat.add n0 (Nat.sub f.next1 f.next0)) hn hl);unfold Fact.rho;have h1:=(hp b hb).1
 have:(Nat.ble f.next0 b.i && Nat.blt b.i f.next1)=false:=by
  rw[Bool.and_eq_false_iff];left
  cases hq:Nat.ble f.next0 b.i with
  | false=>rfl
  | true=>have:=Nat.le_of_ble_eq_true hq;omega
 rw[this];rfl
theorem ybib{f:Fact}{tgt:List Nat}{n0 i:Nat}(h1:f.next0<=i)(h2:i<f.next1):f.rho tgt n0 i=i - f.next0+n0:=by
 unfold Fact.rho;rw[Bool.cond_eq_ite,if_pos (by rw[Nat.ble_eq_true_of_le h1,ybgq h2];rfl)]
 rfl
theorem ytg{P:Program}{f:Fact}{tgt:List Nat}{n0:Nat}(hok:yez P f)(hs:f.still=true)(hl:f.pre.length=tgt.length)(hn:tgt.Nodup)(hlt:∀ t ∈ tgt,t<n0):yez P (f.move tgt n0):=by
 refine yxj hok ?_;obtain⟨s1,⟨s2,s3⟩,s4,s5,s6,s7,s8⟩:=yjk hs
 have hpi:(f.move tgt n0).pre.map (·.i)=tgt:=by
  show(f.pre.map (BlkL.ren (f.rho tgt n0))).map (·.i)=tgt;rw[List.map_map];exact Eq.trans (List.map_congr_left fun b hb=>b.yhd) (ybpi (n0:=n0) s4 s5 hl)
 have hqi:yfs ((f.move tgt n0).post.map (·.i))=true:=by
  refine ykw ?_;show((f.post.map (BlkL.ren (f.rho tgt n0))).map (·.i)).Nodup
  have e:(f.post.map (BlkL.ren (f.rho tgt n0))).map (·.i)=(f.post.map (·.i)).map (fun i=>i - f.next0+n0):=by
   rw[List.map_map,List.map_map];refine List.map_congr_left fun b hb=>?_;show(b.ren (f.rho tgt n0)).i=b.i - f.next0+n0;rw[b.yhd,ybib (s6 b hb).1 (s6 b hb).2.1]
  rw[e];unfold List.Nodup at s7 ⊢;rw[List.pairwise_map];refine List.Pairwise.imp_of_mem (fun {x y} hx hy h=>?_) s7;obtain⟨bx,hbx,rfl⟩:=List.mem_map.1 hx;obtain⟨by_,hby,rfl⟩:=List.mem_map.1 hy;have:=(s6 bx hbx).1;have:=(s6 by_ hby).1;omega
 have hpre:yfs ((f.move tgt n0).pre.map (·.i))=true:=by rw[hpi];exact ykw hn
 unfold Fact.moves;simp only[Bool.and_eq_true];refine⟨⟨⟨⟨⟨⟨⟨⟨Nat.ble_eq_true_of_le s1,s2⟩,s3⟩,?_⟩,?_⟩,hpre⟩,?_⟩,?_⟩,Nat.ble_eq_true_of_le s8⟩
 ·refine List.all_eq_true.2 fun b hb=>?_;have:=(s4 b hb).2;unfold reflB at this;rw[Bool.and_eq_true]at this;rw[ybgq (s4 b hb).1,Bool.true_and];exact List.all_eq_true.2 fun v hv=>by have:=List.all_eq_true.1 this.1 v hv;rw[Bool.and_eq_true]at this;exact this.2
 ·refine List.all_eq_true.2 fun b hb=>?_;have:=(s6 b hb).2.2;unfold reflB at this;rw[Bool.and_eq_true]at this;rw[ybgq (s6 b hb).2.1,Bool.true_and];exact List.all_eq_true.2 fun v hv=>by have:=List.all_eq_true.1 this.1 v hv;rw[Bool.and_eq_true]at this;exact this.2
 ·refine List.all_eq_true.2 fun b' hb'=>?_;obtain⟨b,hb,rfl⟩:=List.mem_map.1 hb';have h2:=(s4 b hb).2;have h3:(b.ren (f.rho tgt n0)).i ∈ (f.move tgt n0).pre.map (·.i):=List.mem_map.2 ⟨_,hb',rfl⟩;rw[hpi]at h3;rw[ybgq (hlt _ h3),Bool.true_and];refine yls (yoz hpre _ hb') (yri h2) ?_;show Nat.blt (b.l.map _).length 1000000=true;rw[List.length_map];unfold reflB at h2;rw[Bool.and_eq_true]at h2
  exact h2.2
 ·refine List.all_eq_true.2 fun b' hb'=>?_;obtain⟨b,hb,rfl⟩:=List.mem_map.1 hb';have h2:=(s6 b hb).2.2;refine yls (yoz hqi _ hb') (yri h2) ?_;show Nat.blt (b.l.map _).length 1000000=true;rw[List.length_map];unfold reflB at h2;rw[Bool.and_eq_true]at h2;exact h2.2
end Ev
end Go.Proofs.YtiejahgklcjhkaaGreatDoor

