/- Lemmas, joined: TrA TrB WcA TrC Pd PrC WeA WeB Ht Dia ScCe CeA CeB RnA RnB Pk ShZ ScPq Fl. -/
import Derived.Test.YtiejahgklcjhkaaGreatDoorPkD15
import Derived.Test.YtiejahgklcjhkaaGreatDoorPkD11
import Derived.Test.YtiejahgklcjhkaaGreatDoorPkD12
import Derived.Test.YtiejahgklcjhkaaGreatDoorPkD9
set_option linter.unusedSimpArgs false
set_option linter.unusedVariables false
namespace Go.Proofs.YtiejahgklcjhkaaGreatDoor
def isTreeB(g:Gr):Bool:=yee g && decide (ygd g / 2+1=g.ports.length)
theorem ybsm{α:Type}[DecidableEq α]:∀ {l1 l2:List α},l1.Nodup->(∀ x ∈ l1,x ∈ l2)->l2.length<=l1.length -> ∀ x ∈ l2,x ∈ l1
 | [],l2,_,_,h,x,hx=>by
  have:l2 = []:=List.eq_nil_of_length_eq_zero (by simpa using h)
  rw[this]at hx;exact absurd hx List.not_mem_nil
 | a :: t,l2,hn,hs,h,x,hx=>by
  have hn:=List.nodup_cons.1 hn
  by_cases q:x=a
  ·rw[q];exact List.mem_cons_self
  ·refine List.mem_cons_of_mem _ (ybsm (l2:=l2.erase a) hn.2 (fun y hy=>?_) ?_ x ((List.mem_erase_of_ne q).2 hx))
   ·refine(List.mem_erase_of_ne fun e=>hn.1 (by rw[<- e];exact hy)).2 (hs y (List.mem_cons_of_mem _ hy))
   ·rw[List.length_erase_of_mem (hs a List.mem_cons_self)];simp only[List.length_cons]at h;omega
structure TreeM(g:Gr):Prop where
 up:∀ a v u,a<g.ports.length->adj g v u->(ybl g a).getD u 0=(ybl g a).getD v 0 - 1\/(ybl g a).getD u 0=(ybl g a).getD v 0+1
 one:∀ a v u w,a<g.ports.length->adj g v u->adj g v w->(ybl g a).getD u 0=(ybl g a).getD v 0 - 1->(ybl g a).getD w 0=(ybl g a).getD v 0 - 1->u=w
theorem yczw{g:Gr}(hg:ybb g)(hc:yee g=true)(ht:ygd g<=2 * (g.ports.length - 1)):TreeM g:=by
 have key:∀ a,a<g.ports.length -> ∃ up:Nat->Nat,∀ v u,adj g v u->(v ≠ a/\u=up v/\(ybl g a).getD u 0=(ybl g a).getD v 0 - 1)\/(ybl g a).getD u 0=(ybl g a).getD v 0+1:=fun a ha=>by
  have ex:∀ v,v<g.ports.length->v ≠ a -> ∃ u,adj g v u/\(ybl g a).getD u 0=(ybl g a).getD v 0 - 1:=fun v hv hne=>yze hg hc ha hv hne
  obtain⟨up,hup⟩:∃ up:Nat->Nat,∀ v,v<g.ports.length->v ≠ a->adj g v (up v)/\(ybl g a).getD (up v) 0=(ybl g a).getD v 0 - 1:=by
   refine⟨fun v=>if h:v<g.ports.length/\v ≠ a then Classical.choose (ex v h.1 h.2)else 0,fun v hv hne=>?_⟩
   simp only[dif_pos (show v<g.ports.length/\v ≠ a from⟨hv,hne⟩)]
   exact Classical.choose_spec (ex v hv hne)
  let U:List (Nat × Nat):=((List.range g.ports.length).erase a).map fun v=>(v,up v)
  let P:List (Nat × Nat):=(List.range g.ports.length).flatMap fun v=>(g.ports.getD v []).map fun l=>(v,l.1.toNat)
  have hnd:((List.range g.ports.length).erase a).Nodup:=List.nodup_range.erase a
  have mU:∀ x y,(x,y) ∈ U ↔ x<g.ports.length/\x ≠ a/\y=up x:=fun x y=>by
   show(x,y) ∈ ((List.range g.ports.length).erase a).map (fun v=>(v,up v)) ↔ _;rw[List.mem_map];constructor
   ·rintro⟨v,hv,e⟩;cases e
    have hv:=(List.nodup_range.mem_erase_iff).1 hv;exact⟨List.mem_range.1 hv.2,hv.1,rfl⟩
   ·rintro⟨h1,h2,rfl⟩;exact⟨x,(List.nodup_range.mem_erase_iff).2 ⟨h2,List.mem_range.2 h1⟩,rfl⟩
  have mP:∀ x y,(x,y) ∈ P ↔ x<g.ports.length/\adj g x y:=fun x y=>by
   show(x,y) ∈ List.flatMap _ _ ↔ _;rw[List.mem_flatMap];constructor
   ·rintro⟨v,hv,h⟩;obtain⟨l,hl,e⟩:=List.mem_map.1 h;cases e
    have hv:=List.mem_range.1 hv;exact⟨hv,(yco hg hv hl).2.2.1⟩
   ·rintro⟨h1,h2⟩;obtain⟨l,hl,e⟩:=yhs h2;exact⟨x,List.mem_range.2 h1,List.mem_map.2 ⟨l,hl,by rw[e]⟩⟩
  have dU:∀ x y,(x,y) ∈ U->(ybl g a).getD y 0=(ybl g a).getD x 0 - 1:=fun x y h=>by
   obtain⟨h1,h2,rfl⟩:=(mU x y).1 h;exact(hup x h1 h2).2
  have nU:U.Nodup:=by
   show(((List.range g.ports.length).erase a).map (fun v=>(v,up v))).Nodup;rw[List.Nodup,List.pairwise_map];exact hnd.imp fun h e=>h (congrArg Prod.fst e)
  have nD:(U.map fun p=>(p.2,p.1)).Nodup:=by
   rw[List.Nodup,List.pairwise_map];exact nU.imp fun h e=>h (by simp only[Prod.mk.injEq]at e;exact Prod.ext e.2 e.1)
  have nUD:(U ++ U.map fun p=>(p.2,p.1)).Nodup:=by
   rw[List.nodup_append];refine⟨nU,nD,?_⟩;rintro⟨x,y⟩ h1 ⟨x',y'⟩ h2 e;cases e
   obtain⟨⟨p,q⟩,h3,e⟩:=List.mem_map.1 h2;cases e
   have a1:=dU _ _ h1;have a2:=dU _ _ h3;simp only at a1 a2;omega
  have lU:U.length=g.ports.length - 1:=by
   show(List.map _ _).length=_;rw[List.length_map,List.length_erase_of_mem (List.mem_range.2 ha),List.length_range]
  have lP:P.length=ygd g:=by
   show(List.flatMap _ _).length=_;rw[List.length_flatMap];unfold ygd;congr 1;refine List.ext_getElem (by simp) fun i h1 h2=>?_
   have hi:i<g.ports.length:=by simpa using h2
   simp[List.getD,hi]
  have hall:=ybsm nUD (l2:=P) (fun p hp=>by
   obtain⟨x,y⟩:=p;rcases List.mem_append.1 hp with h | h
   ·obtain⟨h1,h2,rfl⟩:=(mU x y).1 h;exact(mP _ _).2 ⟨h1,(hup x h1 h2).1⟩
   ·obtain⟨⟨p,q⟩,h3,e⟩:=List.mem_map.1 h;cases e
    obtain⟨h1,h2,e⟩:=(mU _ _).1 h3;simp only at e ⊢;subst e;have h4:=(hup p h1 h2).1;exact(mP _ _).2 ⟨(hg.adj_lt h4).2,hg.adj_symm h4⟩) (by have lD:(U.map fun p=>(p.2,p.1)).length=U.length:=List.length_map _;rw[List.length_append,lD,lU,lP];omega)
  refine⟨up,fun v u h=>?_⟩;have h1:=hall (v,u) ((mP v u).2 ⟨(hg.adj_lt h).1,h⟩);rcases List.mem_append.1 h1 with h | h
  ·left
   obtain⟨_,h2,h3⟩:=(mU v u).1 h;exact⟨h2,h3,dU _ _ h⟩
  ·right
   obtain⟨⟨p,q⟩,h3,e⟩:=List.mem_map.1 h;cases e
   have:=dU _ _ h3;simp only at this ⊢;omega
 constructor
 ·intro a v u ha h;obtain⟨up,hup⟩:=key a ha;rcases hup v u h with⟨_,_,h3⟩ | h3
  ·exact .inl h3
  ·exact .inr h3
 ·intro a v u w ha h1 h2 e1 e2;obtain⟨up,hup⟩:=key a ha;rcases hup v u h1 with⟨_,h3,_⟩ | h3
  ·rcases hup v w h2 with⟨_,h4,_⟩ | h4
   ·rw[h3,h4]
   ·omega
  ·omega
end Go.Proofs.YtiejahgklcjhkaaGreatDoor

namespace Go.Proofs.YtiejahgklcjhkaaGreatDoor
def dP(g:Gr)(a v:Nat):Int:=(ybl g a).getD v 0
structure Tr(g:Gr):Prop where
 good:ybb g
 conn:yee g=true
 m:TreeM g
section
variable {g:Gr} {a b u v w x:Nat}
theorem yceb(hg:ybb g)(hc:yee g=true)(ha:a<g.ports.length)(hv:v<g.ports.length):dP g a v=dP g v a:=by
 obtain⟨k,e,h1,h2,_⟩:=ydu hg hc ha hv;obtain⟨j,e',h3,h4,_⟩:=ydu hg hc hv ha;unfold dP;rw[e,e'];rcases Nat.lt_trichotomy k j with q | q | q
 ·exact absurd (h1.symm hg) (h4 k q)
 ·rw[q]
 ·exact absurd (h3.symm hg) (h2 j q)
theorem Tr.self(h:Tr g)(ha:a<g.ports.length):dP g a a=0:=ybpo h.good h.conn ha
theorem Tr.nonneg(h:Tr g)(ha:a<g.ports.length)(hv:v<g.ports.length):0<=dP g a v:=(ybpc h.good h.conn ha hv).1
theorem Tr.lt_n(h:Tr g)(ha:a<g.ports.length)(hv:v<g.ports.length):dP g a v<g.ports.length:=(ybpc h.good h.conn ha hv).2
theorem Tr.pos(h:Tr g)(ha:a<g.ports.length)(hv:v<g.ports.length)(hne:v ≠ a):1<=dP g a v:=ybxm h.good h.conn ha hv hne
theorem Tr.up(h:Tr g)(ha:a<g.ports.length)(hu:adj g v u):dP g a u=dP g a v - 1\/dP g a u=dP g a v+1:=h.m.up a v u ha hu
theorem Tr.one(h:Tr g)(ha:a<g.ports.length)(hu:adj g v u)(hx:adj g v x)(e1:dP g a u=dP g a v - 1)(e2:dP g a x=dP g a v - 1):u=x:=h.m.one a v u x ha hu hx e1 e2
theorem Tr.back(h:Tr g)(ha:a<g.ports.length)(hv:v<g.ports.length)(hne:v ≠ a):∃ u,adj g v u/\dP g a u=dP g a v - 1:=yze h.good h.conn ha hv hne
theorem Tr.adj1(h:Tr g)(hu:adj g v u):dP g v u=1:=by
 obtain⟨hv,hu'⟩:=h.good.adj_lt hu;have h1:=h.up hv hu;have h2:=h.self hv;have h3:=h.nonneg hv hu';omega
theorem Tr.ne(h:Tr g)(hu:adj g v u):v ≠ u:=fun e=>by
 subst e;have:=h.adj1 hu;have:=h.self (h.good.adj_lt hu).1;omega
def rchP(g:Gr)(v u:Nat):Int:=(List.range g.ports.length).foldl (fun m w=>if dP g w u<dP g w v then max m (dP g w v)else m) 0
theorem ypi(f:Nat->Int)(p:Nat->Prop)[DecidablePred p]:∀ (l:List Nat) (m:Int),m<=l.foldl (fun m w=>if p w then max m (f w)else m) m/\(∀ w ∈ l,p w->f w<=l.foldl (fun m w=>if p w then max m (f w)else m) m)/\(l.foldl (fun m w=>if p w then max m (f w)else m) m=m \/ ∃ w ∈ l,p w/\f w=l.foldl (fun m w=>if p w then max m (f w)else m) m)
 | [],m=>⟨Int.le_refl _,fun w hw=>absurd hw List.not_mem_nil,.inl rfl⟩
 | x :: l,m=>by
  obtain⟨h1,h2,h3⟩:=ypi f p l (if p x then max m (f x)else m)
  simp only[List.foldl_cons];refine⟨?_,fun w hw hp=>?_,?_⟩
  ·clear h2 h3
   have:m<=if p x then max m (f x)else m:=by split<;>omega
   omega
  ·rcases List.mem_cons.1 hw with rfl | hw
   ·rw[if_pos hp]at h1 ⊢;omega
   ·exact h2 w hw hp
  ·clear h2
   rcases h3 with h3 | ⟨w,hw,hp,e⟩
   ·by_cases hp:p x
    ·rw[if_pos hp]at h3 ⊢;rcases Int.le_total (f x) m with q | q
     ·left;rw[h3];omega
     ·right;exact⟨x,List.mem_cons_self,hp,by rw[h3];omega⟩
    ·rw[if_neg hp]at h3 ⊢;exact .inl h3
   ·exact .inr ⟨w,List.mem_cons_of_mem _ hw,hp,e⟩
theorem ybbm(hw:w<g.ports.length)(h:dP g w u<dP g w v):dP g w v<=rchP g v u :=
 (ypi (fun w=>dP g w v) (fun w=>dP g w u<dP g w v) (List.range g.ports.length) 0).2.1 w (List.mem_range.2 hw) h
theorem Tr.rch_pos(h:Tr g)(hu:adj g v u):1<=rchP g v u:=by
 obtain⟨hv,hu'⟩:=h.good.adj_lt hu;have h1:=h.adj1 (h.good.adj_symm hu);have h2:=h.self hu';have:=ybbm (g:=g) (w:=u) (u:=u) (v:=v) hu' (by omega)
 omega
theorem Tr.rch_ex(h:Tr g)(hu:adj g v u):∃ w,w<g.ports.length/\dP g w u<dP g w v/\dP g w v=rchP g v u:=by
 rcases(ypi (fun w=>dP g w v) (fun w=>dP g w u<dP g w v) (List.range g.ports.length) 0).2.2 with e | ⟨w,hw,hp,e⟩
 ·have:=h.rch_pos hu;have e:rchP g v u=0:=e;omega
 ·exact⟨w,List.mem_range.1 hw,hp,e⟩
theorem Tr.into(h:Tr g)(hu:adj g v u)(hx:adj g u x)(hne:x ≠ v)(hw:w<g.ports.length)(hs:dP g w x<dP g w u):dP g w u<dP g w v/\dP g w v=dP g w u+1:=by
 have h1:=h.up hw hx;have h2:=h.up hw (h.good.adj_symm hu);rcases h2 with h2 | h2
 ·exact absurd (h.one hw hx (h.good.adj_symm hu) (by omega) h2) hne
 ·omega
theorem Tr.rch_step(h:Tr g)(hu:adj g v u)(hx:adj g u x)(hne:x ≠ v):1+rchP g u x<=rchP g v u:=by
 obtain⟨w,hw,h1,h2⟩:=h.rch_ex hx;obtain⟨h3,h4⟩:=h.into hu hx hne hw h1;have:=ybbm hw h3;omega
theorem Tr.rch_from(h:Tr g)(hu:adj g v u)(h2:2<=rchP g v u):∃ x,adj g u x/\x ≠ v/\rchP g v u=1+rchP g u x:=by
 obtain⟨hv,hu'⟩:=h.good.adj_lt hu;obtain⟨w,hw,h3,h4⟩:=h.rch_ex hu;have h5:=h.up hw (h.good.adj_symm hu)
 have hne:w ≠ u:=fun e=>by
  subst e;have:=h.self hw;omega
 obtain⟨x,hx,h6⟩:=h.back hw hu' (fun e=>hne e.symm);have hxv:x ≠ v:=fun e=>by subst e;omega
 refine⟨x,hx,hxv,?_⟩;have a:=h.rch_step hu hx hxv;have b:=ybbm (g:=g) (u:=x) (v:=u) hw (by omega)
 omega
def step2(p:Int × Int)(a:Int):Int × Int:=if a > p.1 then(a,p.1)else(p.1,max p.2 a)
def top2(b:Int)(l:List Int):Int × Int:=l.foldl step2 (b,b)
theorem ybud(b:Int)(l:List Int)(a:Int):top2 b (l ++ [a])=step2 (top2 b l) a:=by unfold top2;rw[List.foldl_append];rfl
theorem yyh(b:Int)(l:List Int):∀ k,k<=l.length->b<=(top2 b (l.take k)).2/\(top2 b (l.take k)).2<=(top2 b (l.take k)).1 /\ ∀ m,b<m->(m<=(top2 b (l.take k)).1 ↔ 1<=(l.take k).countP fun x=>decide (m<=x))/\(m<=(top2 b (l.take k)).2 ↔ 2<=(l.take k).countP fun x=>decide (m<=x))
 | 0,_=>by
  refine⟨Int.le_refl _,Int.le_refl _,fun m hm=>?_⟩;have e:(top2 b (l.take 0))=(b,b):=rfl;rw[e];simp only[List.take_zero,List.countP_nil];omega
 | k+1,hk=>by
  obtain⟨h1,h2,h3⟩:=yyh b l k (by omega)
  rw[List.take_succ_eq_append_getElem (show k<l.length by omega),ybud]
  generalize l[k]=a
  have hc:∀ m,(l.take k ++ [a]).countP (fun x=>decide (m<=x))=(l.take k).countP (fun x=>decide (m<=x))+if m<=a then 1 else 0:=fun m=>by
   rw[List.countP_append,List.countP_cons,List.countP_nil];simp
  generalize top2 b (l.take k)=P at *
  unfold step2;split
  ·refine⟨by simp only;omega,by simp only;omega,fun m hm=>?_⟩
   obtain⟨h4,h5⟩:=h3 m hm;rw[hc];simp only;constructor
   ·split<;>omega
   ·split<;>omega
  ·refine⟨by simp only;omega,by simp only;omega,fun m hm=>?_⟩
   obtain⟨h4,h5⟩:=h3 m hm;rw[hc];simp only;constructor
   ·split<;>omega
   ·split<;>omega
theorem ykf(b:Int)(l:List Int):b<=(top2 b l).2/\(top2 b l).2<=(top2 b l).1 /\ ∀ m,b<m->(m<=(top2 b l).1 ↔ 1<=l.countP fun x=>decide (m<=x))/\(m<=(top2 b l).2 ↔ 2<=l.countP fun x=>decide (m<=x)):=by
 have h:=yyh b l l.length (Nat.le_refl _)
 rwa [List.take_length]at h
theorem yyj{p:Int × Int->Bool}:∀ {ls:List (Int × Int)},(ls.map (·.1)).Nodup->(2<=ls.countP p ↔ ∃ a ∈ ls,∃ b ∈ ls,a.1 ≠ b.1/\p a=true/\p b=true)
 | [],_=>by simp
 | l :: ls,hn=>by
  have hn:=List.nodup_cons.1 hn;have ih:=yyj (p:=p) hn.2
  have one:1<=ls.countP p ↔ ∃ a ∈ ls,p a=true:=by
   rw[Nat.one_le_iff_ne_zero,Nat.ne_zero_iff_zero_lt,List.countP_pos_iff]
  have hno:∀ a ∈ ls,l.1 ≠ a.1:=fun a ha e=>hn.1 (List.mem_map.2 ⟨a,ha,e.symm⟩);rw[List.countP_cons];constructor
  ·intro h
   by_cases hp:p l=true
   ·rw[if_pos hp]at h;obtain⟨a,ha,hpa⟩:=one.1 (by omega)
    exact⟨l,List.mem_cons_self,a,List.mem_cons_of_mem _ ha,hno a ha,hp,hpa⟩
   ·rw[if_neg hp]at h;obtain⟨a,ha,b,hb,q⟩:=ih.1 (by omega)
    exact⟨a,List.mem_cons_of_mem _ ha,b,List.mem_cons_of_mem _ hb,q⟩
  ·rintro⟨a,ha,b,hb,hab,hpa,hpb⟩;rcases List.mem_cons.1 ha with ea | ha
   ·rcases List.mem_cons.1 hb with eb | hb
    ·exact absurd (by rw[ea,eb]) hab
    ·have:=one.2 ⟨b,hb,hpb⟩;rw[<- ea,if_pos hpa];omega
   ·rcases List.mem_cons.1 hb with eb | hb
    ·have:=one.2 ⟨a,ha,hpa⟩;rw[<- eb,if_pos hpb];omega
    ·have:=ih.2 ⟨a,ha,b,hb,hab,hpa,hpb⟩;omega
theorem yrk(hg:ybb g)(hv:v<g.ports.length):((g.ports.getD v []).map (·.1)).Nodup:=by
 have h:=(hg.2.2.2.2.2.1 ⟨v,hv⟩).2;have e0:g.ports[v]=g.ports.getD v []:=by rw[Sh.getD_at hv]
 have h:((g.ports[v]).map (·.1)).Nodup:=h
 rwa [e0]at h
theorem ybqj(hg:ybb g)(hv:v<g.ports.length){f:Nat->Int}{m:Int}:2<=((g.ports.getD v []).map fun l=>f l.1.toNat).countP (fun x=>decide (m<=x)) ↔ ∃ a b,adj g v a/\adj g v b/\a ≠ b/\m<=f a/\m<=f b:=by
 rw[List.countP_map,yyj (yrk hg hv)];constructor
 ·rintro⟨a,ha,b,hb,hne,hpa,hpb⟩;obtain⟨a1,_,a3,_⟩:=yco hg hv ha;obtain⟨b1,_,b3,_⟩:=yco hg hv hb;exact⟨_,_,a3,b3,by omega,of_decide_eq_true hpa,of_decide_eq_true hpb⟩
 ·rintro⟨a,b,ha,hb,hne,hpa,hpb⟩;obtain⟨la,hla,ea⟩:=yhs ha;obtain⟨lb,hlb,eb⟩:=yhs hb;exact⟨la,hla,lb,hlb,fun e=>hne (by rw[<- ea,<- eb,e]),decide_eq_true (by show m<=f la.1.toNat;rw[ea];exact hpa),decide_eq_true (by show m<=f lb.1.toNat;rw[eb];exact hpb)⟩
def htP(g:Gr)(v:Nat):Int:=(top2 0 ((g.ports.getD v []).map fun l=>rchP g v l.1.toNat)).2
theorem yfr(g:Gr)(v:Nat):0<=htP g v:=(ykf 0 _).1
theorem yod(hg:ybb g)(hv:v<g.ports.length){m:Int}(hm:1<=m):m<=htP g v ↔ ∃ a b,adj g v a/\adj g v b/\a ≠ b/\m<=rchP g v a/\m<=rchP g v b:=by
 rw[<- ybqj hg hv (f:=fun u=>rchP g v u)];exact((ykf 0 _).2.2 m (by omega)).2
theorem Tr.ht_step(h:Tr g)(hv:v<g.ports.length){m:Int}(hm:1<=m)(hd:∃ a b,adj g v a/\adj g v b/\a ≠ b):m<=htP g v ↔ ∃ a b,adj g v a/\adj g v b/\a ≠ b/\m - 1<=htP g a/\m - 1<=htP g b:=by
 rw[yod h.good hv hm]
 by_cases h1:m=1
 ·subst h1;obtain⟨a,b,ha,hb,hne⟩:=hd;exact⟨fun _=>⟨a,b,ha,hb,hne,by have:=yfr g a;omega,by have:=yfr g b;omega⟩,fun _=>⟨a,b,ha,hb,hne,h.rch_pos ha,h.rch_pos hb⟩⟩
 have key:∀ a b,adj g v a->adj g v b->a ≠ b->m<=rchP g v a->m<=rchP g v b->m - 1<=htP g a:=fun a b ha hb hne ra rb=>by
  rw[yod h.good (h.good.adj_lt ha).2 (by omega)]
  obtain⟨x,hx,hxv,e⟩:=h.rch_from ha (by omega)
  have s:=h.rch_step (h.good.adj_symm ha) hb (fun e=>hne e.symm);exact⟨v,x,h.good.adj_symm ha,hx,fun e=>hxv e.symm,by omega,by omega⟩
 have key2:∀ a,adj g v a->m - 1<=htP g a->m<=rchP g v a:=fun a ha hh=>by
  rw[yod h.good (h.good.adj_lt ha).2 (by omega)]at hh
  obtain⟨x,y,hx,hy,hne,rx,ry⟩:=hh
  by_cases q:x=v
  ·have s:=h.rch_step ha hy (fun e=>hne (by rw[q,e]))
   omega
  ·have s:=h.rch_step ha hx q;omega
 constructor
 ·rintro⟨a,b,ha,hb,hne,ra,rb⟩;exact⟨a,b,ha,hb,hne,key a b ha hb hne ra rb,key b a hb ha (fun e=>hne e.symm) rb ra⟩
 ·rintro⟨a,b,ha,hb,hne,ra,rb⟩;exact⟨a,b,ha,hb,hne,key2 a ha ra,key2 b hb rb⟩
theorem Tr.thru(h:Tr g)(hw:w<g.ports.length):∀ (k:Nat) (v u x:Nat),adj g v u->dP g w u=dP g w v+1->x<g.ports.length->dP g x u<dP g x v->(dP g x u).toNat<k->dP g w x=dP g w u+dP g x u
 | 0,v,u,x,_,_,_,_,hk=>by omega
 | k+1,v,u,x,hu,hwu,hx,hs,hk=>by
  obtain⟨hv,hu'⟩:=h.good.adj_lt hu
  by_cases e:x=u
  ·subst e;rw[h.self hx];omega
  ·obtain⟨y,hy,h1⟩:=h.back hx hu' (fun q=>e q.symm);have hyv:y ≠ v:=fun q=>by subst q;omega
   have h2:=h.up hw hy
   have hw1:dP g w y=dP g w u+1:=by
    rcases h2 with h2 | h2
    ·exact absurd (h.one hw hy (h.good.adj_symm hu) h2 (by omega)) hyv
    ·exact h2
   have:=h.nonneg hx (h.good.adj_lt hy).2;have ih:=Tr.thru h hw k u y x hy hw1 hx (by omega) (by omega)
   omega
theorem Tr.apart(h:Tr g)(ha:adj g v a)(hb:adj g v b)(hne:a ≠ b)(hw:w<g.ports.length)(hx:x<g.ports.length)(h1:dP g w a<dP g w v)(h2:dP g x b<dP g x v):dP g w x=dP g w v+dP g x v:=by
 have a1:=h.up hw ha;have b1:=h.up hw hb;have b2:=h.up hx hb
 have hwb:dP g w b=dP g w v+1:=by
  rcases b1 with q | q
  ·exact absurd (h.one hw ha hb (by omega) q) hne
  ·exact q
 have:=h.thru hw _ v b x hb hwb hx h2 (Nat.lt_succ_self _);omega
end
end Go.Proofs.YtiejahgklcjhkaaGreatDoor

namespace Go.Proofs.YtiejahgklcjhkaaGreatDoor
def ybsn:Ex:=.agg 28 (eQ 0)
def ybec:Ex:=.ite (.bin 37 (.leaf 9 0) (eNum 2)) (eNum 0) (.ite (.bin 37 ybsn eN) (.bin 33 ybsn (eNum 1)) eN)
def yec(nm h r:ByteArray):ProgT:=⟨nm,[⟨h,1,0,0,1,0⟩],[⟨r,.bin 36 (eVar 0) ybec,[(0,ybec)]⟩]⟩
def cnS(g:Gr)(c:Conf)(v:Nat):Int:=(top2 (-1073741824) ((g.ports.getD v []).map (endP c 0))).2
def cnV(g:Gr)(c:Conf)(v:Nat):Int:=if ((g.ports.getD v []).length:Int)<2 then 0 else if cnS g c v<(g.ids.length:Int)then cnS g c v+1 else(g.ids.length:Int)
section
variable {nm nh nr:ByteArray} {g:Gr} {c:Conf} {v:Nat}
theorem ydbz(g:Gr)(c:Conf)(v:Nat):-1073741824<=cnS g c v:=(ykf (-1073741824) _).1
theorem ybxv(g:Gr)(c:Conf)(v:Nat)(p:Int):yeb g c v ybsn p=cnS g c v:=by
 show yhq 28 _=_;unfold yhq;rw[if_neg (by decide),if_neg (by decide),if_neg (by decide),if_neg (by decide),if_neg (by decide),if_neg (by decide),if_neg (by decide),if_neg (by decide),if_pos rfl]
 show(ycq _).2=_;unfold cnS;have e:∀ l,ycq l=top2 (-1073741824) l:=fun l=>rfl;rw[e];congr 2;exact ybvr g v _ _ fun q hq=>rfl
theorem ybhb(hg:ybb g)(p:Int):yeb g c v ybec p=cnV g c v:=by
 have h1:=hg.2.1;have h2:=hg.2.2.1;have h3:=ydbz g c v;show(if binP 37 ((g.ports.getD v []).length:Int) 2 ≠ 0 then 0 else if binP 37 (yeb g c v ybsn p) (g.ids.length:Int) ≠ 0 then satP (yeb g c v ybsn p+1)else(g.ids.length:Int))=_
 rw[ybxv];have e3:∀ a b:Int,binP 37 a b=yen (decide (a<b)):=fun a b=>rfl;rw[e3,e3];unfold cnV;have tT:yen true ≠ 0:=by decide
 have tF:¬ yen false ≠ 0:=by decide
 by_cases q:((g.ports.getD v []).length:Int)<2
 ·rw[if_pos q,decide_eq_true q,if_pos tT]
 ·rw[if_neg q,decide_eq_false q,if_neg tF]
  by_cases q2:cnS g c v<(g.ids.length:Int)
  ·rw[if_pos q2,decide_eq_true q2,if_pos tT];unfold satP;omega
  ·rw[if_neg q2,decide_eq_false q2,if_neg tF]
theorem Tr.ht_lt(h:Tr g)(hv:v<g.ports.length):htP g v<g.ports.length:=by
 rcases Int.lt_or_le (htP g v) 1 with q | q
 ·omega
 ·obtain⟨a,b,ha,_,_,hr,_⟩:=(yod h.good hv q).1 (Int.le_refl _);obtain⟨w,hw,_,e⟩:=h.rch_ex ha;have:=h.lt_n hw hv;omega
theorem ysf(hg:ybb g)(hv:v<g.ports.length):2<=(g.ports.getD v []).length ↔ ∃ a b,adj g v a/\adj g v b/\a ≠ b:=by
 constructor
 ·intro h;have m0:(g.ports.getD v [])[0] ∈ g.ports.getD v []:=List.getElem_mem _;have m1:(g.ports.getD v [])[1] ∈ g.ports.getD v []:=List.getElem_mem _;obtain⟨a1,_,a3,_⟩:=yco hg hv m0;obtain⟨b1,_,b3,_⟩:=yco hg hv m1;refine⟨_,_,a3,b3,fun e=>?_⟩;have hn:=yrk hg hv;have h0':0<((g.ports.getD v []).map (·.1)).length:=by rw[List.length_map];omega
  have h1':1<((g.ports.getD v []).map (·.1)).length:=by rw[List.length_map];omega
  have:=(List.getElem_inj (h₀:=h0') (h₁:=h1') hn).1 (by rw[List.getElem_map,List.getElem_map];omega)
  omega
 ·rintro⟨a,b,ha,hb,hne⟩;obtain⟨la,hla,ea⟩:=yhs ha;obtain⟨lb,hlb,eb⟩:=yhs hb;obtain⟨i,hi,e1⟩:=List.getElem_of_mem hla;obtain⟨j,hj,e2⟩:=List.getElem_of_mem hlb
  have:i ≠ j:=fun e=>by
   subst e;rw[e1]at e2;exact hne (by rw[<- ea,<- eb,e2])
  omega
theorem Tr.cn_next(h:Tr g)(hv:v<g.ids.length)(r:Nat)(hall:∀ u,u<g.ids.length->if htP g u<(r:Int)then(c.getD u []).getD 0 0=htP g u else(r:Int)<=(c.getD u []).getD 0 0) :
  if htP g v<((r+1:Nat):Int)then cnV g c v=htP g v else((r+1:Nat):Int)<=cnV g c v:=by
 have hpl:=h.good.2.2.1;have hvp:v<g.ports.length:=by omega
 have hlt:=h.ht_lt hvp;have h0:=yfr g v
 by_cases hd:2<=(g.ports.getD v []).length
 ·have eV:cnV g c v=if cnS g c v<(g.ids.length:Int)then cnS g c v+1 else(g.ids.length:Int):=by unfold cnV;rw[if_neg (by omega)]
  rw[eV];have hd2:=(ysf h.good hvp).1 hd
  have agree:∀ u (j:Int),u<g.ids.length->j<=r->(j<=(c.getD u []).getD 0 0 ↔ j<=htP g u):=fun u j hu hj=>by
   have:=hall u hu;split at this
   ·rw[this]
   ·omega
  have key:∀ m:Int,1<=m->m<=r+1->(m<=cnS g c v+1 ↔ m<=htP g v):=fun m h1 h2=>by
   rw[h.ht_step hvp h1 hd2];have e:=((ykf (-1073741824) ((g.ports.getD v []).map (endP c 0))).2.2 (m - 1) (by omega)).2
   have e2:=ybqj h.good hvp (f:=fun u=>(c.getD u []).getD 0 0) (m:=m - 1);have e3:m<=cnS g c v+1 ↔ m - 1<=cnS g c v:=by omega
   rw[e3];refine e.trans (e2.trans ?_);constructor
   ·rintro⟨a,b,ha,hb,hne,q1,q2⟩;exact⟨a,b,ha,hb,hne,(agree a _ (by have:=(h.good.adj_lt ha).2;omega) (by omega)).1 q1,(agree b _ (by have:=(h.good.adj_lt hb).2;omega) (by omega)).1 q2⟩
   ·rintro⟨a,b,ha,hb,hne,q1,q2⟩;exact⟨a,b,ha,hb,hne,(agree a _ (by have:=(h.good.adj_lt ha).2;omega) (by omega)).2 q1,(agree b _ (by have:=(h.good.adj_lt hb).2;omega) (by omega)).2 q2⟩
  have h1:1<=htP g v:=by
   rw[h.ht_step hvp (Int.le_refl 1) hd2];obtain⟨a,b,ha,hb,hne⟩:=hd2;exact⟨a,b,ha,hb,hne,by have:=yfr g a;omega,by have:=yfr g b;omega⟩
  by_cases hq:htP g v<((r+1:Nat):Int)
  ·rw[if_pos hq];have k1:=(key (htP g v) h1 (by omega)).2 (Int.le_refl _)
   have k2:¬ htP g v+1<=cnS g c v+1:=fun q=>by
    have:=(key (htP g v+1) (by omega) (by omega)).1 q
    omega
   rw[if_pos (by omega)]
   omega
  ·rw[if_neg hq];have k1:=(key (r+1) (by omega) (by omega)).2 (by omega)
   split<;>omega
 ·have eV:cnV g c v=0:=by unfold cnV;rw[if_pos (by omega)]
  rw[eV]
  have:htP g v=0:=by
   rcases Int.lt_or_le (htP g v) 1 with q | q
   ·omega
   ·obtain⟨a,b,ha,hb,hne,_⟩:=(yod h.good hvp q).1 (Int.le_refl _);exact absurd ((ysf h.good hvp).2 ⟨a,b,ha,hb,hne⟩) hd
  rw[this,if_pos (by omega)]
structure CnC(g:Gr)(c:Conf):Prop where
 len:c.length=g.ids.length
 row:∀ v,v<g.ids.length->(c.getD v []).length=1/\(0<=(c.getD v []).getD 0 0/\(c.getD v []).getD 0 0<=g.ids.length)
theorem ygp(hc:yft (yec nm nh nr) g c=true):CnC g c:=by
 have h:=(ydy _ _ _).1 hc;refine⟨h.1,fun v hv=>?_⟩;have hlt:v<c.length:=by rw[h.1];exact hv
 have e:c.getD v []=c[v]:=by simp[List.getD,hlt]
 have h2:=h.2 v _ (List.getElem?_eq_getElem hlt);rw[e];have hl:c[v].length=1:=h2.1;have a0:(ybd g v ⟨nh,1,0,0,1,0⟩).1<=c[v][0]/\c[v][0]<=(ybd g v ⟨nh,1,0,0,1,0⟩).2:=h2.2 0 _ _ rfl (List.getElem?_eq_getElem (by omega))
 have e0:c[v].getD 0 0=c[v][0]:=by simp[List.getD,hl]
 rw[e0];rw[bT1]at a0;simp only at a0;exact⟨hl,by omega,by omega⟩
theorem ycxu{s:List Int}(h:s.length=1)(x:Int):s = [x] ↔ s.getD 0 0=x:=by
 match s,h with
 | [a],_=>simp
theorem ybef(hg:ybb g)(h:CnC g c)(hv:v<g.ids.length):ygo (yec nm nh nr) g c v=if c.getD v [] = [cnV g c v]then -1 else 0:=by
 have h2:=(h.row v hv).1
 have e1:ykr g c v ⟨nr,.bin 36 (eVar 0) ybec,[(0,ybec)]⟩ = !decide (c.getD v [] = [cnV g c v]):=by
  show(binP 36 ((c.getD v []).getD 0 0) (yeb g c v ybec (-1)) != 0)=_;have b36:∀ a b:Int,binP 36 a b=yen (a != b):=fun a b=>rfl;rw[ybhb hg,b36,ybsg];rw[Bool.eq_iff_iff];simp only[bne_iff_ne,Bool.not_eq_true',decide_eq_false_iff_not];rw[ycxu h2]
 unfold ygo yec;simp only[List.findIdx?_cons,e1,List.findIdx?_nil]
 by_cases hs:c.getD v [] = [cnV g c v]
 ·rw[if_pos hs,decide_eq_true hs];rfl
 ·rw[if_neg hs,decide_eq_false hs];rfl
theorem ycye(hg:ybb g)(hv:v<g.ids.length)(h0:∀ u,u<g.ids.length->0<=(c.getD u []).getD 0 0):0<=cnV g c v/\cnV g c v<=g.ids.length:=by
 have hpl:=hg.2.2.1;unfold cnV;split
 ·omega
 ·rename_i q
  have:0<=cnS g c v:=by
   have e:=((ykf (-1073741824) ((g.ports.getD v []).map (endP c 0))).2.2 0 (by omega)).2
   refine e.2 ((ybqj hg (by omega) (f:=fun u=>(c.getD u []).getD 0 0) (m:=0)).2 ?_)
   obtain⟨a,b,ha,hb,hne⟩:=(ysf hg (v:=v) (by omega)).1 (by omega)
   exact⟨a,b,ha,hb,hne,h0 a (by have:=(hg.adj_lt ha).2;omega),h0 b (by have:=(hg.adj_lt hb).2;omega)⟩
  split<;>omega
theorem ybcf(hg:ybb g):Sh.ywn (yec nm nh nr) g=true:=by
 have h1:=hg.1;have h2:=hg.2.1;have h3:=hg.2.2.1;simp[Sh.ywn,yec,ybd];omega
theorem ydgk:(yec nm nh nr).ok=true:=by kernel_rfl
theorem ybqt(hg:ybb g):Tgt (ybk (yec nm nh nr) g) (fun c=>yft (yec nm nh nr) g c=true) (fun c v=>[cnV g c v]) where
 valid:=fun c s hc _ _=>Sh.yuu hg ydgk (ybcf hg) hc s
 stay:=fun c s v hc hv hb=>by
  have hl:=(ygp hc).len;show(ykp _ g c s).getD v []=_;rw[Sh.yko _ g c s (by rw[hl];exact hv),hb]
  rfl
 move:=fun c s v hc hv hb hs=>by
  have hcf:=ygp hc;have hv:v<g.ids.length:=hv;show(ykp _ g c s).getD v []=_;rw[Sh.yko _ g c s (by rw[hcf.len];exact hv),hb,if_pos rfl]
  have hne:c.getD v [] ≠ [cnV g c v]:=fun he=>by
   have h1:=hs v hb;have h1:(yeu _ g.ids.length).testBit v=true:=h1;rw[yew]at h1;simp only[Bool.and_eq_true,decide_eq_true_eq]at h1;rw[ybef hg hcf hv,if_pos he]at h1;omega
  rw[ybef hg hcf hv,if_neg hne]
  obtain⟨x,hx⟩:∃ x,c.getD v [] = [x]:=by
   have:=(hcf.row v hv).1
   match hq:c.getD v [],this with
   | [x],_=>exact⟨x,rfl⟩
  obtain⟨b1,b2⟩:=ycye hg hv fun u hu=>(hcf.row u hu).2.1;unfold ybfh ymr;rw[hx];show[yjg 1 (ybd g v ⟨nh,1,0,0,1,0⟩) (yeb g c v ybec (-1))]=_;rw[ybhb hg];congr 1;unfold yjg;rw[bT1,if_pos (by simp only;omega)]
 en:=fun c v hc hv=>by
  have hv:v<g.ids.length:=hv;show(yeu _ g.ids.length).testBit v=false ↔ _;rw[yew,ybef hg (ygp hc) hv,decide_eq_true hv,Bool.true_and,decide_eq_false_iff_not]
  by_cases he:c.getD v [] = [cnV g c v]
  ·rw[if_pos he];exact⟨fun _=>he,fun _=>by omega⟩
  ·rw[if_neg he];exact⟨fun h=>(h (by omega)).elim,fun h=>absurd h he⟩
def cnR(g:Gr)(r v:Nat)(s:List Int):Prop:=if htP g v<(r:Int)then s = [htP g v]else(r:Int)<=s.getD 0 0
theorem ybdl(h:Tr g)(hc:CnC g c)(hv:v<g.ids.length)(r:Nat)(hall:∀ u,u<g.ids.length->cnR g r u (c.getD u [])):cnR g (r+1) v [cnV g c v]:=by
 have:=h.cn_next hv r fun u hu=>by
  have:=hall u hu;unfold cnR at this;split at this
  ·rw[this];rw[if_pos (by assumption)];rfl
  ·rw[if_neg (by assumption)];exact this
 unfold cnR;split at this
 ·rw[if_pos (by assumption),this]
 ·rw[if_neg (by assumption)];exact this
theorem ycay(r v:Nat)(s:List Int)(h:cnR g (r+1) v s):cnR g r v s:=by
 unfold cnR at *;split at h
 ·split
  ·exact h
  ·rw[h];show(r:Int)<=htP g v;omega
 ·rw[if_neg (by omega)];omega
theorem ybht(hc:CnC g c)(hv:v<g.ids.length):cnR g 0 v (c.getD v []):=by
 unfold cnR;have:=yfr g v;rw[if_neg (by omega)]
 exact(hc.row v hv).2.1
theorem yqu(h:Tr g){res:Nat->Nat->Nat}(hr:ybck res){ws:List Nat}{c:Conf}(hv:yft (yec nm nh nr) g c=true):∀ p ∈ (ybk (yec nm nh nr) g).runs res ws c,RInv (ybk (yec nm nh nr) g) (fun c=>yft (yec nm nh nr) g c=true) (cnR g) p.1 p.2 :=
 ((ybqt h.good).rounds (fun c v r hc' hn hall=>ybdl h (ygp hc') hn r hall) ycay).runs hr hv fun v hn=>ybht (ygp hv) hn
def yjm(g:Gr)(c:Conf):Prop:=∀ v,v<g.ids.length->c.getD v [] = [htP g v]
theorem ybnq{c:Conf}(h:yjm g c)(r v:Nat)(hv:v<g.ids.length):cnR g r v (c.getD v []):=by
 rw[h v hv];unfold cnR;split
 ·rfl
 ·show _<=htP g v;omega
theorem ybya(h:Tr g){c:Conf}(hv:yft (yec nm nh nr) g c=true):ybp (yec nm nh nr) g c=0 ↔ yjm g c:=by
 have hpl:=h.good.2.2.1;have h24:=h.good.2.1;constructor
 ·intro he v hn;have:=(ybqt (nm:=nm) (nh:=nh) (nr:=nr) h.good).silent (P:=cnR g) (fun c v r hc' hn hall=>ybdl h (ygp hc') hn r hall) hv (fun v hn=>ybht (ygp hv) hn) he 100 v hn;have:=h.ht_lt (v:=v) (by omega)
  unfold cnR at *;rw[if_pos (by omega)]at *
  assumption
 ·intro hr;refine(ybqt (nm:=nm) (nh:=nh) (nr:=nr) h.good).en_zero hv (Sh.ybwp _ g c) fun v hn=>?_;have hn:v<g.ids.length:=hn;have h1:=ybdl h (ygp hv) hn 100 fun u hu=>ybnq hr 100 u hu;have:=h.ht_lt (v:=v) (by omega)
  unfold cnR at h1;rw[if_pos (by omega)]at h1
  rw[h1];exact hr v hn
end
end Go.Proofs.YtiejahgklcjhkaaGreatDoor

namespace Go.Proofs.YtiejahgklcjhkaaGreatDoor
section
variable {g:Gr} {a b u v w x:Nat}
def ysa(g:Gr)(v:Nat)(e:Int):Prop:=(∀ w,w<g.ports.length->dP g w v<=e) /\ ∃ w,w<g.ports.length/\dP g w v=e
theorem yzy(hv:v<g.ports.length):∃ e,ysa g v e:=by
 rcases(ypi (fun w=>dP g w v) (fun _=>True) (List.range g.ports.length) (dP g v v))with⟨h1,h2,h3⟩;refine⟨_,fun w hw=>h2 w (List.mem_range.2 hw) trivial,?_⟩;rcases h3 with h3 | ⟨w,hw,_,e⟩
 ·exact⟨v,hv,h3.symm⟩
 ·exact⟨w,List.mem_range.1 hw,e⟩
theorem Tr.side(h:Tr g)(hu:adj g v u)(hw:w<g.ports.length):(dP g w u<dP g w v/\dP g w v=dP g w u+1)\/(dP g w v<dP g w u/\dP g w u=dP g w v+1):=by
 rcases h.up hw hu with q | q<;>omega
theorem Tr.link(h:Tr g)(hu:adj g v u){ev eu:Int}(he:ysa g v ev)(he':ysa g u eu) :
  ev=max (rchP g u v - 1) (rchP g v u)/\eu=max (rchP g v u - 1) (rchP g u v):=by
 have key:∀ {v u:Nat} {ev:Int},adj g v u->ysa g v ev->ev=max (rchP g u v - 1) (rchP g v u):=fun {v u ev} hu he=>by
  obtain⟨hv,hu'⟩:=h.good.adj_lt hu;obtain⟨e1,w,hw,e2⟩:=he
  have hle:ev<=max (rchP g u v - 1) (rchP g v u):=by
   rcases h.side hu hw with⟨q,q2⟩ | ⟨q,q2⟩
   ·have:=ybbm hw q;omega
   ·have:=ybbm (u:=v) (v:=u) hw q;omega
  obtain⟨x,hx,x1,x2⟩:=h.rch_ex hu;obtain⟨y,hy,y1,y2⟩:=h.rch_ex (h.good.adj_symm hu);have a1:=e1 x hx;have a2:=e1 y hy;rcases h.side hu hy with⟨q,q2⟩ | ⟨q,q2⟩<;>omega
 exact⟨key hu he,key (h.good.adj_symm hu) he'⟩
theorem Tr.ht_link(h:Tr g)(hu:adj g v u):(rchP g u v - 1<=rchP g v u->htP g v=rchP g u v - 1)/\(rchP g v u<=rchP g u v - 1->rchP g v u<=htP g v):=by
 obtain⟨hv,hu'⟩:=h.good.adj_lt hu;have p1:=h.rch_pos hu;have p2:=h.rch_pos (h.good.adj_symm hu);have from_:2<=rchP g u v -> ∃ x,adj g v x/\x ≠ u/\rchP g u v=1+rchP g v x:=fun q=>h.rch_from (h.good.adj_symm hu) q;constructor
 ·intro hq;refine Int.le_antisymm ?_ ?_
  ·rcases Int.lt_or_le (htP g v) 1 with q | q
   ·omega
   ·obtain⟨a,b,ha,hb,hne,r1,r2⟩:=(yod h.good hv q).1 (Int.le_refl _)
    by_cases e:a=u
    ·have:=h.rch_step (h.good.adj_symm hu) hb (fun e2=>hne (by rw[e,e2]))
     omega
    ·have:=h.rch_step (h.good.adj_symm hu) ha e;omega
  ·rcases Int.lt_or_le (rchP g u v) 2 with q | q
   ·have:=yfr g v;omega
   ·obtain⟨x,hx,hne,e⟩:=from_ q;exact(yod h.good hv (by omega)).2 ⟨x,u,hx,hu,hne,by omega,by omega⟩
 ·intro hq;obtain⟨x,hx,hne,e⟩:=from_ (by omega)
  exact(yod h.good hv p1).2 ⟨x,u,hx,hu,hne,by omega,by omega⟩
theorem Tr.higher(h:Tr g)(hu:adj g v u){ev eu:Int}(he:ysa g v ev)(he':ysa g u eu):(htP g v<htP g u ↔ eu<ev)/\(htP g v=htP g u ↔ eu=ev):=by
 obtain⟨l1,l2⟩:=h.link hu he he';obtain⟨a1,a2⟩:=h.ht_link hu;obtain⟨b1,b2⟩:=h.ht_link (h.good.adj_symm hu);rcases Int.lt_trichotomy (rchP g v u) (rchP g u v)with q | q | q
 ·have:=b1 (by omega)
  have:=a2 (by omega)
  omega
 ·have:=a1 (by omega)
  have:=b1 (by omega)
  omega
 ·have:=a1 (by omega)
  have:=b2 (by omega)
  omega
def Peak(g:Gr)(v:Nat):Prop:=∀ u,adj g v u->htP g u<=htP g v
theorem Tr.peak_least(h:Tr g)(hp:Peak g v)(hv:v<g.ports.length)(hx:x<g.ports.length){ev ex:Int}(he:ysa g v ev)(he':ysa g x ex):ev<=ex/\(ex=ev->x ≠ v->dP g x v=1):=by
 by_cases e:x=v
 ·subst e;obtain⟨q1,w,hw,q2⟩:=he;obtain⟨p1,y,hy,p2⟩:=he';have:=q1 y hy;have:=p1 w hw;exact⟨by omega,fun _ hne=>absurd rfl hne⟩
 ·obtain⟨u,hu,hd⟩:=h.back hx hv (fun q=>e q.symm);obtain⟨eu,heu⟩:=yzy (g:=g) (h.good.adj_lt hu).2;obtain⟨l1,l2⟩:=h.link hu he heu;have hh:=(h.higher hu he heu).1;have hle:=hp u hu;have hpos:=h.pos hx hv (fun q=>e q.symm)
  have hAB:rchP g v u<=rchP g u v:=by
   rcases Int.lt_or_le (rchP g u v) (rchP g v u)with q | q
   ·have:=hh.2 (by omega);omega
   ·exact q
  obtain⟨y,hy,y1,y2⟩:=h.rch_ex (h.good.adj_symm hu);have far:dP g y x=dP g y u+dP g x u:=h.thru hy _ v u x hu (by rcases h.side hu hy with⟨q,_⟩ | ⟨_,q⟩<;>omega) hx (by omega) (Nat.lt_succ_self _)
  have:=he'.1 y hy;have hxu:=h.nonneg hx (h.good.adj_lt hu).2;exact⟨by omega,fun q _=>by omega⟩
theorem Tr.least_peak(h:Tr g)(hv:v<g.ports.length){ev:Int}(he:ysa g v ev)(hl:∀ x ex,x<g.ports.length->ysa g x ex->ev<=ex):Peak g v:=fun u hu=>by
 obtain⟨eu,heu⟩:=yzy (g:=g) (h.good.adj_lt hu).2;have h1:=(h.higher hu he heu).1;have h2:=hl u eu (h.good.adj_lt hu).2 heu;rcases Int.lt_or_le (htP g v) (htP g u)with q | q
 ·have:=h1.1 q;omega
 ·exact q
theorem Tr.peaks_adj(h:Tr g)(hp:Peak g v)(hq:Peak g x)(hv:v<g.ports.length)(hx:x<g.ports.length)(hne:x ≠ v):dP g x v=1:=by
 obtain⟨ev,he⟩:=yzy (g:=g) hv;obtain⟨ex,hex⟩:=yzy (g:=g) hx;have a:=(h.peak_least hp hv hx he hex);have b:=(h.peak_least hq hx hv hex he);exact a.2 (by omega) hne
theorem Tr.adj_of(h:Tr g)(hv:v<g.ports.length)(hx:x<g.ports.length)(hd:dP g x v=1):adj g v x:=by
 have hne:v ≠ x:=fun e=>by subst e;have:=h.self hv;omega
 obtain⟨u,hu,hd2⟩:=h.back hx hv hne;have hu':=(h.good.adj_lt hu).2
 by_cases e:u=x
 ·rw[<- e];exact hu
 ·have:=h.pos hx hu' e;omega
theorem Tr.no_three(h:Tr g)(ha:Peak g a)(hb:Peak g b)(hx:Peak g x)(la:a<g.ports.length)(lb:b<g.ports.length)(lx:x<g.ports.length)(hab:a ≠ b)(hax:a ≠ x)(hbx:b ≠ x):False:=by
 have h1:=h.adj_of la lb (h.peaks_adj ha hb la lb (fun e=>hab e.symm));have h2:=h.peaks_adj ha hx la lx (fun e=>hax e.symm);have h3:=h.peaks_adj hb hx lb lx (fun e=>hbx e.symm);rcases h.up lx h1 with q | q<;>omega
theorem Tr.peak_ex (h : Tr g) : ∃ v, v < g.ports.length /\ Peak g v := by
  have h0 : 0 < g.ports.length := by have := h.good.1; omega
  have : ∀ n, n <= g.ports.length -> 0 < n -> ∃ v, v < n /\ ∀ u, u < n -> htP g u <= htP g v := by
    intro n
    induction n with
    | zero => intro _ h; omega
    | succ n ih =>
      intro hn _
      by_cases q : n = 0
      · subst q; exact ⟨0, by omega, fun u hu => by have : u = 0 := by omega
                                                    subst this; exact Int.le_refl _⟩
      · obtain ⟨v, hv, hm⟩ := ih (by omega) (by omega)
        rcases Int.lt_or_le (htP g v) (htP g n) with q2 | q2
        · refine ⟨n, by omega, fun u hu => ?_⟩
          by_cases e : u = n
          · subst e; exact Int.le_refl _
          · have := hm u (by omega); omega
        · refine ⟨v, by omega, fun u hu => ?_⟩
          by_cases e : u = n
          · subst e; exact q2
          · exact hm u (by omega)
  obtain ⟨v, hv, hm⟩ := this g.ports.length (Nat.le_refl _) h0
  exact ⟨v, hv, fun u hu => hm u (h.good.adj_lt hu).2⟩
end
end Go.Proofs.YtiejahgklcjhkaaGreatDoor

namespace Go.Proofs.YtiejahgklcjhkaaGreatDoor
namespace Sh
section
variable {nm nd np nt nl:ByteArray} {g:Gr}
end
end Sh
end Go.Proofs.YtiejahgklcjhkaaGreatDoor

namespace Go.Proofs.YtiejahgklcjhkaaGreatDoor
def ResD(D:Nat->Prop)(res:Nat->Nat->Nat):Prop:=∀ e w,e ≠ 0->res e w ≠ 0/\subB (res e w) e/\D (res e w)
theorem Sys.run_allD{S:Sys}{D:Nat->Prop}{res:Nat->Nat->Nat}(hr:ResD D res){J:Conf->Cnt->Prop}(hstep:∀ c k s,J c k->s ≠ 0->subB s (S.en c)->D s->J (S.mv c s) (addP k s (S.en (S.mv c s)))) :
  ∀ (ws:List Nat) (c:Conf) (k:Cnt),J c k -> ∀ p ∈ S.run res ws c k,J p.1 p.2
 | [],c,k,_,p,hp=>by cases hp
 | w :: ws,c,k,hJ,p,hp=>by
  unfold Sys.run at hp;split at hp
  ·cases hp
  ·rename_i h0
   obtain⟨r1,r2,r3⟩:=hr _ w h0;have hJ':=hstep c k _ hJ r1 r2 r3;rcases List.mem_cons.1 hp with e | e
   ·rw[e];exact hJ'
   ·exact Sys.run_allD hr hstep ws _ _ hJ' p e
theorem Sys.runs_allD{S:Sys}{D:Nat->Prop}{res:Nat->Nat->Nat}(hr:ResD D res){J:Conf->Cnt->Prop}(hstep:∀ c k s,J c k->s ≠ 0->subB s (S.en c)->D s->J (S.mv c s) (addP k s (S.en (S.mv c s)))){ws:List Nat}{c:Conf}(h:J c (yci (S.en c))):∀ p ∈ S.runs res ws c,J p.1 p.2:=fun p hp=>by
 rcases List.mem_cons.1 hp with e | e
 ·rw[e];exact h
 ·exact Sys.run_allD hr hstep ws _ _ h p e
theorem ResD.ok{D:Nat->Prop}{res:Nat->Nat->Nat}(h:ResD D res):ybck res:=fun e w h0=>⟨(h e w h0).1,(h e w h0).2.1⟩
structure ByRoundsC(S:Sys)(V:Conf->Prop)(D:Nat->Prop)(P:Nat->Nat->Conf->Prop):Prop where
 valid:∀ c s,V c->s ≠ 0->subB s (S.en c)->D s->V (S.mv c s)
 stay:∀ c s v r r',r<=r'->r'<=r+1->V c->v<S.n->s.testBit v=false->subB s (S.en c)->D s->(∀ u,u<S.n->P r u c)->P r' v c->P r' v (S.mv c s)
 move:∀ c s v r,V c->v<S.n->s.testBit v=true->subB s (S.en c)->D s->(∀ u,u<S.n->P r u c)->P (r+1) v (S.mv c s)
 rest:∀ c v r,V c->v<S.n->(S.en c).testBit v=false->(∀ u,u<S.n->P r u c)->P (r+1) v c
 less:∀ r v c,P (r+1) v c->P r v c
structure RInvC(S:Sys)(V:Conf->Prop)(P:Nat->Nat->Conf->Prop)(c:Conf)(k:Cnt):Prop where
 valid:V c
 all:∀ v,v<S.n->P k.rounds v c
 done:∀ v,v<S.n->k.pend.testBit v=false->P (k.rounds+1) v c
 begun:k.begun<=k.rounds+1
section
variable {S:Sys} {V:Conf->Prop} {D:Nat->Prop} {P:Nat->Nat->Conf->Prop}
theorem ByRoundsC.start(h:ByRoundsC S V D P){c:Conf}(hv:V c)(h0:∀ v,v<S.n->P 0 v c):RInvC S V P c (yci (S.en c)) :=
 ⟨hv,h0,fun v hn hb=>h.rest c v 0 hv hn hb h0,by simp[yci]⟩
theorem ByRoundsC.step(h:ByRoundsC S V D P)(c:Conf)(k:Cnt)(s:Nat)(hi:RInvC S V P c k)(h0:s ≠ 0)(hs:subB s (S.en c))(hD:D s):RInvC S V P (S.mv c s) (addP k s (S.en (S.mv c s))):=by
 obtain⟨i1,i2,i3,i4⟩:=hi;have hv:=h.valid c s i1 h0 hs hD
 have hall:∀ v,v<S.n->P k.rounds v (S.mv c s):=fun v hn=>by
  cases hb:s.testBit v with
  | true=>exact h.less _ _ _ (h.move c s v _ i1 hn hb hs hD i2)
  | false=>exact h.stay c s v _ _ (Nat.le_refl _) (Nat.le_succ _) i1 hn hb hs hD i2 (i2 v hn)
 have hnext:∀ v,v<S.n->(difB k.pend s &&& S.en (S.mv c s)).testBit v=false->P (k.rounds+1) v (S.mv c s):=fun v hn hb=>by
  rw[Nat.testBit_and,ygj]at hb;cases hb1:s.testBit v with
  | true=>exact h.move c s v _ i1 hn hb1 hs hD i2
  | false =>
   cases hb2:k.pend.testBit v with
   | false=>exact h.stay c s v _ _ (Nat.le_succ _) (Nat.le_refl _) i1 hn hb1 hs hD i2 (i3 v hn hb2)
   | true =>
    rw[hb1,hb2]at hb;exact h.rest _ v _ hv hn (by simpa using hb) hall
 unfold addP;simp only
 by_cases hp:difB k.pend s &&& S.en (S.mv c s)=0
 ·simp only[if_pos hp];have hall':∀ v,v<S.n->P (k.rounds+1) v (S.mv c s):=fun v hn=>hnext v hn (by rw[hp];simp)
  exact⟨hv,hall',fun v hn hb=>h.rest _ v _ hv hn hb hall',by show k.rounds+1<=_;simp⟩
 ·simp only[if_neg hp];exact⟨hv,hall,hnext,Nat.le_refl _⟩
theorem ByRoundsC.runs(h:ByRoundsC S V D P){res:Nat->Nat->Nat}(hr:ResD D res){ws:List Nat}{c:Conf}(hv:V c)(h0:∀ v,v<S.n->P 0 v c):∀ p ∈ S.runs res ws c,RInvC S V P p.1 p.2 :=
 Sys.runs_allD hr (fun c k s=>h.step c k s) (h.start hv h0)
theorem ByRoundsC.silent(h:ByRoundsC S V D P){c:Conf}(hv:V c)(h0:∀ v,v<S.n->P 0 v c)(he:S.en c=0):∀ r v,v<S.n->P r v c
 | 0,v,hn=>h0 v hn
 | r+1,v,hn=>h.rest c v r hv hn (by rw[he];simp) (ByRoundsC.silent h hv h0 he r)
end
end Go.Proofs.YtiejahgklcjhkaaGreatDoor

namespace Go.Proofs.YtiejahgklcjhkaaGreatDoor
def hAt(c:Conf)(v:Nat):Int:=(c.getD v []).getD 0 0
def lAt(c:Conf)(v:Nat):Int:=(c.getD v []).getD 1 0
section
variable {nm nh nl nf nd nt ni:ByteArray} {g:Gr} {c:Conf} {u v w:Nat}
structure ElC(g:Gr)(c:Conf):Prop where
 len:c.length=g.ids.length
 row:∀ v,v<g.ids.length->(c.getD v []).length=2/\(0<=hAt c v/\hAt c v<=g.ids.length)/\(lAt c v=0\/lAt c v=1)
open Classical in
end
end Go.Proofs.YtiejahgklcjhkaaGreatDoor

namespace Go.Proofs.YtiejahgklcjhkaaGreatDoor
structure Stab(g:Gr)(c:Conf)(v:Nat):Prop where
 low:¬ Peak g v->lAt c v=0
 one:Peak g v->(∀ u,adj g v u->htP g u<htP g v)->lAt c v=1
 two:Peak g v -> ∀ u,adj g v u->htP g u=htP g v->lAt c u ≠ lAt c v
section
variable {nm nh nl nf nd nt ni:ByteArray} {g:Gr} {c:Conf} {u v w s:Nat}
end
end Go.Proofs.YtiejahgklcjhkaaGreatDoor

namespace Go.Proofs.YtiejahgklcjhkaaGreatDoor
theorem ybak{α:Type}(f:α->Int)(p:α->Bool):∀ (l:List α) (m:Int),m<=l.foldl (fun m w=>if p w then max m (f w)else m) m/\(∀ w ∈ l,p w=true->f w<=l.foldl (fun m w=>if p w then max m (f w)else m) m) /\ ∀ t,m<=t->(∀ w ∈ l,p w=true->f w<=t)->l.foldl (fun m w=>if p w then max m (f w)else m) m<=t
 | [],m=>⟨Int.le_refl _,fun w hw=>absurd hw List.not_mem_nil,fun t ht _=>ht⟩
 | x :: l,m=>by
  obtain⟨h1,h2,h3⟩:=ybak f p l (if p x then max m (f x)else m)
  rw[List.foldl_cons];refine⟨?_,fun w hw hp=>?_,fun t ht hl=>h3 t ?_ fun w hw=>hl w (List.mem_cons_of_mem _ hw)⟩
  ·refine Int.le_trans ?_ h1;split<;>omega
  ·rcases List.mem_cons.1 hw with e | hw
   ·subst e;refine Int.le_trans ?_ h1;rw[if_pos hp];omega
   ·exact h2 w hw hp
  ·by_cases q:p x=true
   ·rw[if_pos q];have:=hl x List.mem_cons_self q;omega
   ·rw[if_neg q];exact ht
section
variable {g:Gr} {u v:Nat}
def yly(g:Gr)(v u:Nat)(m:Int)(l:Int × Int):Int:=if (l.1 != (v:Int))=true then max m (1+rchP g u l.1.toNat)else m
theorem Tr.rch_loop(h:Tr g)(hu:adj g v u):(g.ports.getD u []).foldl (yly g v u) 1=rchP g v u:=by
 obtain⟨hv,hul⟩:=h.good.adj_lt hu;obtain⟨h1,h2,h3⟩:=ybak (fun l:Int × Int=>1+rchP g u l.1.toNat) (fun l:Int × Int=>l.1 != (v:Int)) (g.ports.getD u []) 1;refine Int.le_antisymm (h3 _ (h.rch_pos hu) fun l hl hp=>?_) ?_
 ·obtain⟨a1,_,a2,_⟩:=yco h.good hul hl;rw[bne_iff_ne]at hp;exact h.rch_step hu a2 (fun e=>hp (by omega))
 ·rcases Int.lt_or_le (rchP g v u) 2 with q | q
  ·exact Int.le_trans (by omega) h1
  ·obtain⟨x,hx,hne,e⟩:=h.rch_from hu q;obtain⟨l,hl,el⟩:=yhs hx;obtain⟨a1,_⟩:=yco h.good hul hl;have:=h2 l hl (by rw[bne_iff_ne];intro e;exact hne (by omega))
   rw[el]at this;rw[e];exact this
theorem Tr.rch_less(h:Tr g)(hu:adj g v u){l:Int × Int}(hl:l ∈ g.ports.getD u [])(hne:l.1 ≠ (v:Int)):rchP g u l.1.toNat<rchP g v u:=by
 obtain⟨hv,hul⟩:=h.good.adj_lt hu;obtain⟨a1,_,a2,_⟩:=yco h.good hul hl;have:=h.rch_step hu a2 (fun e=>hne (by omega))
 omega
def ynz(s:Int × Int)(x:Int):Int × Int:=(max s.1 x,max s.2 (min x s.1))
theorem ybfv{s:Int × Int}{x:Int}(h:s.2<=s.1):ynz s x=step2 s x:=by
 unfold ynz step2;split<;>(try split)<;>(refine Prod.ext ?_ ?_<;>simp only<;>omega)
theorem ybhl:∀ (l:List Int) (s:Int × Int),s.2<=s.1->l.foldl ynz s=l.foldl step2 s
 | [],_,_=>rfl
 | x :: l,s,h=>by
  rw[List.foldl_cons,List.foldl_cons,<- ybfv h];exact ybhl l _ (by unfold ynz;simp only;omega)
theorem ycwz(g:Gr)(v:Nat):(((g.ports.getD v []).map fun l=>rchP g v l.1.toNat).foldl ynz (0,0)).2=htP g v:=by
 rw[ybhl _ _ (Int.le_refl _)];rfl
end
end Go.Proofs.YtiejahgklcjhkaaGreatDoor

namespace Go.Proofs.YtiejahgklcjhkaaGreatDoor
section
variable {g:Gr} {a b v:Nat}
end
end Go.Proofs.YtiejahgklcjhkaaGreatDoor

namespace Go.Proofs.YtiejahgklcjhkaaGreatDoor
namespace Sh
open Go Ev
def ybls:LO:=[o3 (.box 27 (.tmp 0)) 1 0,o3 (.mv (ci' 0)) 2 0,o3 (.mv (ci' 0)) 3 2]
def ybqh:LO:=[ld' true 2 1 6 0,cl' 96 [6] 7 1,o3 (.un .not (.tmp 7)) 8 3]
def ycng:LO:=[o3 (.mv (ci' 0)) 2 0,o3 (.mv (ci' 0)) 3 1]
def yckk:LO:=[fa' 1 1 1 9 0,ld' false 1 9 10 1,ln' 10 11 3,o3 (.mv (ci' 0)) 12 0]
def ybwh:LO:=[bn' .lss 12 11 13 0]
def ycho:LO:=[ix' 1 10 12 14 0,ld' false 1 14 15 1,mv' 15 5 3]
def ycip:LO:=[mv' 3 16 0,mv' 5 17 0,ln' 17 18 2,bn' .add 16 18 19 7,mv' 19 3 15]
def ycff:LO:=[o3 (.bin .add (.tmp 12) (ci' 1)) 20 0,mv' 20 12 1]
def ycdp:LO:=[fa' 0 1 1 21 0,ld' false 1 21 22 1,ln' 22 23 3,mv' 3 24 0,o3 (.bin .quo (.tmp 24) (ci' 2)) 25 8,mv' 23 2 7,mv' 25 3 63]
def c122:SC:=(.seq (.reg false ybls) (.seq (.seq (.reg false ybqh) (.cond (.tmp 8) (.seq (.reg false ycng) .ret) .skip)) (.seq (.seq (.reg false yckk) (.block 0 (.loop (.seq (.reg false ybwh) (.seq (.cond (.tmp 13) .skip (.exit 0)) (.seq (.block 1 (.seq (.reg false ycho) (.reg false ycip))) (.reg false ycff))))))) (.seq (.reg false ycdp) .ret))))
theorem ycwn:Fn 122 c122 [.t 2,.t 3]:=fn_0 Tryz.func122 (by kernel_rfl) (by kernel_rfl)
def ybpa:LO:=[o3 (.box 27 (.tmp 0)) 1 0,o3 (.mv (.const (.bool false))) 2 0]
def ybnm:LO:=[ld' true 2 1 5 0,cl' 137 [5] 6 1,o3 (.un .not (.tmp 6)) 7 3]
def ycdh:LO:=[o3 (.mv (.const (.bool false))) 2 0]
def ycpl:LO:=[ld' true 2 1 9 0,cl' 122 [9] 10 1,mv' 10 8 3,xt' 8 0 11 7,xt' 8 1 12 7,mv' 11 3 15,mv' 12 4 63]
def ycop:LO:=[mv' 4 13 0,mv' 3 14 0,o3 (.bin .sub (.tmp 14) (ci' 1)) 15 2,bn' .eql 13 15 16 7,mv' 16 2 15]
def c136:SC:=(.seq (.reg false ybpa) (.seq (.seq (.reg false ybnm) (.cond (.tmp 7) (.seq (.reg false ycdh) .ret) .skip)) (.seq (.reg false ycpl) (.seq (.reg false ycop) .ret))))
theorem yctv:Fn 136 c136 [.t 2]:=fn_0 Tryz.func136 (by kernel_rfl) (by kernel_rfl)
def ydea:LO:=[o3 (.box 27 (.tmp 0)) 1 0,o3 (.mv (.const (.bool false))) 2 0]
def ydbf:LO:=[ld' true 2 1 3 0,cl' 136 [3] 4 1,mv' 4 2 3]
def c87:SC:=(.seq (.reg false ydea) (.seq (.reg false ydbf) .ret))
theorem ydeb:Fn 87 c87 [.t 2]:=fn_0 Tryz.func87 (by kernel_rfl) (by kernel_rfl)
def ycvq:LO:=[o3 (.box 27 (.tmp 0)) 2 0,o3 (.mv (.const (.bool false))) 4 0]
def ycux:LO:=[ld' true 2 2 5 0,cl' 87 [5] 6 1,mv' 6 7 3,⟨.load true 2 (.tmp 2),some 8,some (7,true),7⟩,⟨.mv (.tmp 1),some 9,some (7,true),7⟩,⟨.faddr 0 1 (.tmp 2),some 10,some (7,true),7⟩,⟨.load false 1 (.tmp 10),some 11,some (7,true),39⟩,⟨.len (.tmp 11),some 12,some (7,true),103⟩,⟨.bslice 3 1 1 [.i .i64 0] [(0,1,(.tmp 12))],some 13,some (7,true),231⟩,⟨.call (.func 102) [(.tmp 8),(.tmp 9),(.tmp 13)],some 14,some (7,true),511⟩,o3 (.pick (.tmp 7) (.tmp 14) (.const (.bool false))) 15 1023,mv' 15 4 2047]
def c80:SC:=(.seq (.reg false ycvq) (.seq (.reg false ycux) .ret))
theorem ydeg:Fn 80 c80 [.t 4]:=fn_0 Tryz.func80 (by kernel_rfl) (by kernel_rfl)
def ydcw:LO:=[o3 (.box 27 (.tmp 0)) 2 0,o3 (.box 90 (.tmp 1)) 3 0,o3 (.mv (.const (.int .u32 0))) 4 0]
def ycyj:LO:=[ld' true 2 2 8 0,cl' 109 [8] 9 1,o3 (.alloc 40 1 [.i .u32 0]) 5 0,o0 (.store 1 (.tmp 5) (.tmp 9)) 7]
def ydci:LO:=[ld' true 2 2 10 0,cl' 120 [10] 11 1]
def yddh:LO:=[mv' 12 6 0]
def ycxl:LO:=[o3 (.alloc 95 1 [.i .i64 0,.i .i64 0]) 7 0,o0 (.store 2 (.tmp 7) (.tmp 13)) 1]
def yddp:LO:=[ld' false 1 3 14 0,mv' 6 15 0,o3 (.call (.tmp 14) [(.tmp 15)]) 16 3,ld' false 1 3 17 0,fa' 0 1 7 18 0,ld' false 1 18 19 16,o3 (.call (.tmp 17) [(.tmp 19)]) 20 63,bn' .lss 16 20 21 127]
def ydax:LO:=[ld' false 1 5 22 0,mv' 6 23 0,o3 (.bin .shl (.const (.int .u32 1)) (.tmp 23)) 24 2,bn' .andNot 22 24 25 7,o0 (.store 1 (.tmp 5) (.tmp 25)) 15]
def ycza:LO:=[ld' false 1 5 26 0,mv' 26 4 1]
def c81:SC:=(.seq (.reg false ydcw) (.seq (.reg false ycyj) (.seq (.seq (.reg false ydci) (.block 0 (.range (.tmp 11) [12,13] (.seq (.reg false yddh) (.reg false ycxl)) (.block 1 (.seq (.reg true yddp) (.cond (.tmp 21) (.reg true ydax) .skip)))))) (.seq (.reg false ycza) .ret))))
theorem ycyp:Fn 81 c81 [.t 4]:=fn_0 Tryz.func81 (by kernel_rfl) (by kernel_rfl)
def ycxe:LO:=[o3 (.box 27 (.tmp 0)) 2 0,o3 (.box 34 (.tmp 1)) 3 0,o3 (.mv (.const (.int .u32 0))) 4 0]
def ycsg:LO:=[ld' true 2 2 5 0,ld' false 1 3 6 0,cl' 80 [5,6] 7 3,o3 (.un .not (.tmp 7)) 8 7]
def ydei:LO:=[o3 (.mv (.const (.int .u32 0))) 4 0]
def ydcz:LO:=[ld' true 2 2 9 0,o3 (.mkfn 82 [] [(.tmp 3)]) 10 0,cl' 81 [9,10] 11 3,mv' 11 4 7]
def c27:SC:=(.seq (.reg false ycxe) (.seq (.seq (.reg false ycsg) (.cond (.tmp 8) (.seq (.reg false ydei) .ret) .skip)) (.seq (.reg false ydcz) .ret)))
theorem ydbk:Fn 27 c27 [.t 4]:=fn_0 Tryz.func27 (by kernel_rfl) (by kernel_rfl)
def ycya:LO:=[o3 (.mv (ci' 0)) 3 0]
def yddq:LO:=[ld' false 1 1 4 0,mv' 0 5 0,ix' 1 4 5 6 3,ld' false 1 6 7 7,o3 (.idx 1 (.tmp 7) (ci' 0)) 8 15,ld' false 1 8 9 31,mv' 9 3 63]
def c82:SC:=(.seq (.reg false ycya) (.seq (.reg false yddq) .ret))
theorem ydfa:Fn 82 c82 [.t 3]:=fn_0 Tryz.func82 (by kernel_rfl) (by kernel_rfl)
def ydcl:LO:=[o3 (.mv (.const (.string (ByteArray.mk #[])))) 0 0]
def ycyi:LO:=[o3 (.mv (.const (.string (ByteArray.mk #[112,114,111,103,114,97,109,32,99,101,110,116,101,114,59,10,118,97,114,32,104,32,58,32,48,32,46,46,32,110,59,10,114,117,108,101,32,102,105,120,58,32,104,32,33,61,32,40,100,101,103,32,60,32,50,32,63,32,48,32,58,32,40,115,101,99,111,110,100,40,113,46,104,41,32,60,32,110,32,63,32,115,101,99,111,110,100,40,113,46,104,41,32,43,32,49,32,58,32,110,41,41,32,45,62,32,104,32,58,61,32,40,100,101,103,32,60,32,50,32,63,32,48,32,58,32,40,115,101,99,111,110,100,40,113,46,104,41,32,60,32,110,32,63,32,115,101,99,111,110,100,40,113,46,104,41,32,43,32,49,32,58,32,110,41,41,59,10])))) 0 0]
def c23:SC:=(.seq (.reg false ydcl) (.seq (.reg false ycyi) .ret))
theorem ydaw:Fn 23 c23 [.t 0]:=fn_0 Tryz.func23 (by kernel_rfl) (by kernel_rfl)
def ydem:LO:=[o3 (.mv (.const (.slice none 0 0))) 0 0]
def ycxn:LO:=[o3 (.call (.func 79) [(.const (.string (ByteArray.mk #[104]))),(ci' 0),(ci' 1),(ci' 0)]) 1 0,o3 (.bslice 87 6 1 [.a (.string (ByteArray.mk #[])),.i .i64 0,.i .i64 0,.i .i64 0,.i .i64 0,.i .i64 0] [(0,6,(.tmp 1))]) 2 1,mv' 2 0 3]
def c25:SC:=(.seq (.reg false ydem) (.seq (.reg false ycxn) .ret))
theorem ydap:Fn 25 c25 [.t 0]:=fn_0 Tryz.func25 (by kernel_rfl) (by kernel_rfl)
def ydca:LO:=[o3 (.box 27 (.tmp 0)) 2 0,o3 (.mv (ci' 0)) 4 0]
def ydbn:LO:=[o3 (.mv (ci' 0)) 5 0,o3 (.mv (ci' 0)) 6 1]
def ydek:LO:=[o3 (.mv (ci' 0)) 7 0]
def ybyh:LO:=[mv' 7 9 0,fa' 1 1 2 10 0,ld' false 1 10 11 2,mv' 1 12 0,ix' 1 11 12 13 14,ld' false 1 13 14 30,ln' 14 15 62,bn' .lss 9 15 16 127]
def ycub:LO:=[ld' true 2 2 19 0,mv' 1 20 0,mv' 7 21 0,cl' 86 [19,20,21] 22 7,mv' 22 8 15]
def ycsi:LO:=[mv' 8 23 0,mv' 5 24 0,bn' .gtr 23 24 25 3]
def yded:LO:=[mv' 8 26 0,mv' 5 27 0,mv' 26 5 3,mv' 27 6 7]
def yddc:LO:=[mv' 6 28 0,mv' 8 29 0,o3 (.mm true (.tmp 28) (.tmp 29)) 30 3,mv' 30 6 7]
def yctu:LO:=[mv' 7 17 0,o3 (.bin .add (.tmp 17) (ci' 1)) 18 1,mv' 18 7 3]
def yczx:LO:=[mv' 6 31 0,mv' 31 4 1]
def c32:SC:=(.seq (.reg false ydca) (.seq (.reg false ydbn) (.seq (.seq (.reg false ydek) (.block 0 (.loop (.seq (.seq (.reg false ybyh) (.cond (.tmp 16) .skip (.exit 0))) (.seq (.block 1 (.seq (.reg false ycub) (.seq (.reg false ycsi) (.cond (.tmp 25) (.reg false yded) (.reg false yddc))))) (.reg false yctu)))))) (.seq (.reg false yczx) .ret))))
theorem ydbl:Fn 32 c32 [.t 4]:=fn_0 Tryz.func32 (by kernel_rfl) (by kernel_rfl)
def ydds:LO:=[o3 (.box 27 (.tmp 0)) 3 0,o3 (.mv (ci' 0)) 6 0]
def ydaf:LO:=[fa' 1 1 3 10 0,ld' false 1 10 11 1,mv' 1 12 0,ix' 1 11 12 13 7,ld' false 1 13 14 15,mv' 2 15 0,ix' 2 14 15 16 63,fa' 0 1 16 17 127,ld' false 1 17 18 255,mv' 18 7 511,o3 (.mv (ci' 1)) 8 1023]
def ydat:LO:=[o3 (.mv (ci' 0)) 9 0]
def ybyu:LO:=[mv' 9 19 0,fa' 1 1 3 20 0,ld' false 1 20 21 2,mv' 7 22 0,ix' 1 21 22 23 14,ld' false 1 23 24 30,ln' 24 25 62,bn' .lss 19 25 26 127]
def ycxd:LO:=[fa' 1 1 3 29 0,ld' false 1 29 30 1,mv' 7 31 0,ix' 1 30 31 32 7,ld' false 1 32 33 15,mv' 9 34 0,ix' 2 33 34 35 63,fa' 0 1 35 36 127,ld' false 1 36 37 255,mv' 1 38 0,bn' .neq 37 38 39 1023]
def ycxo:LO:=[mv' 8 40 0,ld' true 2 3 41 0,mv' 7 42 0,mv' 9 43 0,cl' 86 [41,42,43] 44 14,o3 (.bin .add (ci' 1) (.tmp 44)) 45 30,o3 (.mm true (.tmp 40) (.tmp 45)) 46 63,mv' 46 8 127]
def ycuf:LO:=[mv' 9 27 0,o3 (.bin .add (.tmp 27) (ci' 1)) 28 1,mv' 28 9 3]
def ycyh:LO:=[mv' 8 47 0,mv' 47 6 1]
def c86:SC:=(.seq (.reg false ydds) (.seq (.reg false ydaf) (.seq (.seq (.reg false ydat) (.block 0 (.loop (.seq (.seq (.reg false ybyu) (.cond (.tmp 26) .skip (.exit 0))) (.seq (.block 1 (.seq (.reg false ycxd) (.cond (.tmp 39) (.reg false ycxo) .skip))) (.reg false ycuf)))))) (.seq (.reg false ycyh) .ret))))
theorem ydba:Fn 86 c86 [.t 6]:=fn_0 Tryz.func86 (by kernel_rfl) (by kernel_rfl)
def c5_0:LO:=[o3 (.box 24 (.tmp 0)) 3 0,o3 (.mv (.const (.bool false))) 6 0]
def c5_1:LO:=[ld' true 6 3 15 0,o3 (.call (.func 21) [(.tmp 15),(ci' 10)]) 16 1,o3 (.alloc 27 1 [.a (.slice none 0 0),.a (.slice none 0 0)]) 7 0,o0 (.store 2 (.tmp 7) (.tmp 16)) 7]
def c5_2:LO:=[ld' true 2 7 17 0,cl' 25 [] 18 0,mv' 1 19 0,cl' 24 [17,18,19] 20 7,mv' 20 8 15]
def c5_3:LO:=[cl' 23 [] 22 0,ld' true 2 7 23 0,ld' true 2 7 24 0,cl' 33 [24] 25 5,o3 (.field false 0 1 (.tmp 25)) 26 13,mv' 8 27 0,mv' 2 28 0,o3 (.call (.func 26) [(.tmp 28),(ci' 120)]) 29 77,cl' 22 [22,23,26,27,29] 30 255,mv' 30 21 511,xt' 21 0 31 1023,xt' 21 1 32 1023,xt' 21 2 33 1023,mv' 31 9 2047,mv' 32 10 12287,mv' 33 11 32767]
def c5_4:LO:=[mv' 11 34 0,o3 (.un .not (.tmp 34)) 35 1,mv' 35 36 3,⟨.load true 2 (.tmp 7),some 37,some (36,false),7⟩,⟨.call (.func 33) [(.tmp 37)],some 38,some (36,false),15⟩,⟨.load true 2 (.tmp 7),some 39,some (36,false),7⟩,⟨.call (.func 34) [(.tmp 39)],some 40,some (36,false),63⟩,⟨.seq true [false,true,true,false,false] (.tmp 38) (.tmp 40),some 41,some (36,false),127⟩,o3 (.pick (.tmp 36) (.const (.bool true)) (.tmp 41)) 42 255]
def c5_5:LO:=[o3 (.mv (.const (.bool false))) 6 0]
def c5_6:LO:=[o3 (.mv (.const (.slice none 0 0))) 12 0]
def c5_7:LO:=[o3 (.mv (ci' 0)) 13 0]
def c5_8:LO:=[mv' 13 43 0,mv' 9 44 0,ln' 44 45 2,bn' .lss 43 45 46 7]
def ydfr:LO:=[mv' 12 49 0,ld' true 2 7 50 0,mv' 9 51 0,mv' 13 52 0,ix' 1 51 52 53 12,ld' false 1 53 54 28,cl' 35 [50,54] 55 62,o3 (.bslice 4 1 1 [.b false] [(0,1,(.tmp 55))]) 56 126,o3 (.app 4 1 1 (.tmp 49) (.tmp 56)) 57 255,mv' 57 12 511]
def c5_9:LO:=[mv' 13 47 0,o3 (.bin .add (.tmp 47) (ci' 1)) 48 1,mv' 48 13 3]
def ydgy:LO:=[cl' 23 [] 58 0,cl' 37 [58] 59 1,ld' true 2 7 60 0,mv' 9 61 0,mv' 9 62 0,ln' 62 63 16,o3 (.bin .sub (.tmp 63) (ci' 1)) 64 48,ix' 1 61 64 65 120,ld' false 1 65 66 248,cl' 36 [59,60,66] 67 511,o3 (.bin .eql (.tmp 67) (.const (.int .u32 0))) 68 1023,mv' 68 14 2047]
def ydfy:LO:=[cl' 30 [] 69 0,mv' 69 70 1,⟨.mv (.tmp 12),some 71,some (70,true),3⟩,⟨.mv (.tmp 10),some 72,some (70,true),3⟩,⟨.load true 2 (.tmp 7),some 73,some (70,true),3⟩,⟨.call (.func 33) [(.tmp 73)],some 74,some (70,true),19⟩,⟨.mv (.tmp 14),some 75,some (70,true),3⟩,⟨.call (.func 38) [(.tmp 71),(.tmp 72),(.tmp 74),(.tmp 75)],some 76,some (70,true),127⟩,o3 (.pick (.tmp 70) (.tmp 76) (.const (.bool false))) 77 255,mv' 77 6 511]
def c5:SC:=(.seq (.reg false c5_0) (.seq (.reg false c5_1) (.seq (.reg true c5_2) (.seq (.reg true c5_3) (.seq (.seq (.reg true c5_4) (.cond (.tmp 42) (.seq (.reg false c5_5) .ret) .skip)) (.seq (.reg false c5_6) (.seq (.seq (.reg false c5_7) (.block 0 (.loop (.seq (.seq (.reg false c5_8) (.cond (.tmp 46) .skip (.exit 0))) (.seq (.block 1 (.reg true ydfr)) (.reg false c5_9)))))) (.seq (.reg true ydgy) (.seq (.reg false ydfy) .ret)))))))))
def c6_0:LO:=[o3 (.box 24 (.tmp 0)) 3 0,o3 (.mv (.const (.bool false))) 6 0]
def c6_1:LO:=[ld' true 6 3 13 0,o3 (.call (.func 21) [(.tmp 13),(ci' 10)]) 14 1,o3 (.alloc 27 1 [.a (.slice none 0 0),.a (.slice none 0 0)]) 7 0,o0 (.store 2 (.tmp 7) (.tmp 14)) 7]
def c6_2:LO:=[cl' 23 [] 15 0,cl' 37 [15] 16 1,o3 (.alloc 58 1 [.a (.string (ByteArray.mk #[])),.a (.slice none 0 0),.a (.slice none 0 0)]) 8 0,o0 (.store 3 (.tmp 8) (.tmp 16)) 7]
def c6_3:LO:=[cl' 23 [] 18 0,ld' true 2 7 19 0,ld' true 2 7 20 0,cl' 33 [20] 21 5,o3 (.field false 0 1 (.tmp 21)) 22 13,ld' true 2 7 23 0,cl' 25 [] 24 13,mv' 1 25 0,cl' 24 [23,24,25] 26 237,mv' 2 27 0,o3 (.call (.func 26) [(.tmp 27),(ci' 60)]) 28 1005,cl' 22 [18,19,22,26,28] 29 2047,mv' 29 17 4095,xt' 17 0 30 8191,xt' 17 1 31 8191,xt' 17 2 32 8191,mv' 30 9 16383,mv' 31 10 98303,mv' 32 11 262143]
def c6_4:LO:=[o3 (.mv (ci' 0)) 12 0]
def c6_5:LO:=[mv' 12 33 0,mv' 9 34 0,ln' 34 35 2,bn' .lss 33 35 36 7]
def c6_7:LO:=[ld' true 3 8 39 0,ld' true 2 7 40 0,mv' 9 41 0,mv' 12 42 0,ix' 1 41 42 43 12,ld' false 1 43 44 28,cl' 36 [39,40,44] 45 63,o3 (.bin .eql (.tmp 45) (.const (.int .u32 0))) 46 127,ld' true 2 7 47 0,mv' 9 48 0,mv' 12 49 0,ix' 1 48 49 50 1536,ld' false 1 50 51 3584,cl' 35 [47,51] 52 8063,o3 (.beq true (.tmp 46) (.tmp 52)) 53 16383]
def c6_8:LO:=[o3 (.mv (.const (.bool false))) 6 0]
def c6_6:LO:=[mv' 12 37 0,o3 (.bin .add (.tmp 37) (ci' 1)) 38 1,mv' 38 12 3]
def c6_9:LO:=[cl' 30 [] 54 0,mv' 54 55 1,⟨.mv (.tmp 11),some 56,some (55,true),3⟩,o3 (.pick (.tmp 55) (.tmp 56) (.const (.bool false))) 57 7,mv' 57 6 15]
def c6:SC:=(.seq (.reg false c6_0) (.seq (.reg false c6_1) (.seq (.reg false c6_2) (.seq (.reg true c6_3) (.seq (.seq (.reg false c6_4) (.block 0 (.loop (.seq (.seq (.reg false c6_5) (.cond (.tmp 36) .skip (.exit 0))) (.seq (.block 1 (.seq (.reg true c6_7) (.cond (.tmp 53) (.seq (.reg false c6_8) .ret) .skip))) (.reg false c6_6)))))) (.seq (.reg false c6_9) .ret))))))
def c4_0:LO:=[o3 (.box 24 (.tmp 0)) 3 0,o3 (.mv (.const (.bool false))) 6 0]
def c4_1:LO:=[ld' true 6 3 16 0,o3 (.call (.func 21) [(.tmp 16),(ci' 10)]) 17 1,o3 (.alloc 27 1 [.a (.slice none 0 0),.a (.slice none 0 0)]) 7 0,o0 (.store 2 (.tmp 7) (.tmp 17)) 7]
def c4_2:LO:=[cl' 23 [] 19 0,ld' true 2 7 20 0,ld' true 2 7 21 0,cl' 25 [] 22 1,mv' 1 23 0,cl' 24 [21,22,23] 24 29,mv' 2 25 0,o3 (.call (.func 26) [(.tmp 25),(ci' 80)]) 26 125,o3 (.call (.func 22) [(.tmp 19),(.tmp 20),(ci' 3),(.tmp 24),(.tmp 26)]) 27 255,mv' 27 18 511,xt' 18 0 28 1023,xt' 18 1 29 1023,xt' 18 2 30 1023,mv' 28 8 2047,mv' 29 9 12287,mv' 30 10 32767]
def c4_3:LO:=[o3 (.mv (ci' 0)) 11 0]
def c4_4:LO:=[mv' 11 31 0,mv' 8 32 0,ln' 32 33 2,bn' .lss 31 33 34 7]
def c4_6:LO:=[mv' 9 37 0,mv' 11 38 0,ix' 5 37 38 39 3,fa' 2 1 39 40 7,ld' false 1 40 41 15,o3 (.bin .sub (.tmp 41) (ci' 1)) 42 31,mv' 42 12 63]
def c4_7:LO:=[o3 (.mv (ci' 0)) 13 0]
def c4_8:LO:=[mv' 13 43 0,fa' 1 1 7 44 0,ld' false 1 44 45 2,ln' 45 46 6,bn' .lss 43 46 47 15,mv' 47 48 31,⟨.mv (.tmp 12),some 49,some (48,true),63⟩,⟨.bin .geq (.tmp 49) (ci' 0),some 50,some (48,true),127⟩,o3 (.pick (.tmp 48) (.tmp 50) (.const (.bool false))) 51 255]
def ycxf:LO:=[mv' 8 54 0,mv' 11 55 0,ix' 1 54 55 56 3,ld' false 1 56 57 7,ln' 57 58 15,fa' 1 1 7 59 0,ld' false 1 59 60 32,ln' 60 61 96,bn' .neq 58 61 62 255,mv' 62 63 511,⟨.mv (.tmp 8),some 64,some (63,false),1023⟩,⟨.mv (.tmp 11),some 65,some (63,false),1023⟩,⟨.idx 1 (.tmp 64) (.tmp 65),some 66,some (63,false),4095⟩,⟨.load false 1 (.tmp 66),some 67,some (63,false),8191⟩,⟨.mv (.tmp 13),some 68,some (63,false),1023⟩,⟨.idx 1 (.tmp 67) (.tmp 68),some 69,some (63,false),32767⟩,⟨.load false 1 (.tmp 69),some 70,some (63,false),65535⟩,⟨.len (.tmp 70),some 71,some (63,false),131071⟩,⟨.bin .neq (.tmp 71) (ci' 1),some 72,some (63,false),262143⟩,o3 (.pick (.tmp 63) (.const (.bool true)) (.tmp 72)) 73 524287]
def ydgn:LO:=[o3 (.mv (.const (.bool false))) 6 0]
def ycwu:LO:=[mv' 8 74 0,mv' 11 75 0,ix' 1 74 75 76 3,ld' false 1 76 77 7,mv' 13 78 0,ix' 1 77 78 79 31,ld' false 1 79 80 63,o3 (.idx 1 (.tmp 80) (ci' 0)) 81 127,ld' false 1 81 82 255,ld' true 2 7 83 0,mv' 13 84 0,cl' 32 [83,84] 85 1536,mv' 82 14 4095,mv' 85 15 8191]
def ycsm:LO:=[mv' 15 86 0,mv' 12 87 0,bn' .leq 86 87 88 3,mv' 88 89 7,⟨.mv (.tmp 14),some 90,some (89,true),15⟩,⟨.mv (.tmp 15),some 91,some (89,true),15⟩,⟨.bin .neq (.tmp 90) (.tmp 91),some 92,some (89,true),63⟩,o3 (.pick (.tmp 89) (.tmp 92) (.const (.bool false))) 93 127,mv' 93 94 255,⟨.mv (.tmp 15),some 95,some (94,false),511⟩,⟨.mv (.tmp 12),some 96,some (94,false),511⟩,⟨.bin .gtr (.tmp 95) (.tmp 96),some 97,some (94,false),2047⟩,⟨.mv (.tmp 97),some 98,some (94,false),4095⟩,⟨.mv (.tmp 14),some 99,some (98,true),8191⟩,⟨.mv (.tmp 12),some 100,some (98,true),8191⟩,⟨.bin .add (.tmp 100) (ci' 1),some 101,some (98,true),24575⟩,⟨.bin .lss (.tmp 99) (.tmp 101),some 102,some (98,true),65535⟩,⟨.pick (.tmp 98) (.tmp 102) (.const (.bool false)),some 103,some (94,false),131071⟩,o3 (.pick (.tmp 94) (.const (.bool true)) (.tmp 103)) 104 262143]
def ydfx:LO:=[o3 (.mv (.const (.bool false))) 6 0]
def c4_9:LO:=[mv' 13 52 0,o3 (.bin .add (.tmp 52) (ci' 1)) 53 1,mv' 53 13 3]
def c4_5:LO:=[mv' 11 35 0,o3 (.bin .add (.tmp 35) (ci' 1)) 36 1,mv' 36 11 3]
def ydaa:LO:=[cl' 30 [] 105 0,mv' 105 106 1,⟨.mv (.tmp 10),some 107,some (106,true),3⟩,o3 (.pick (.tmp 106) (.tmp 107) (.const (.bool false))) 108 7,mv' 108 6 15]
def c4:SC:=(.seq (.reg false c4_0) (.seq (.reg false c4_1) (.seq (.reg true c4_2) (.seq (.seq (.reg false c4_3) (.block 0 (.loop (.seq (.seq (.reg false c4_4) (.cond (.tmp 34) .skip (.exit 0))) (.seq (.block 1 (.seq (.reg false c4_6) (.seq (.reg false c4_7) (.block 2 (.loop (.seq (.seq (.reg false c4_8) (.cond (.tmp 51) .skip (.exit 2))) (.seq (.block 3 (.seq (.seq (.reg true ycxf) (.cond (.tmp 73) (.seq (.reg false ydgn) .ret) .skip)) (.seq (.reg true ycwu) (.seq (.reg false ycsm) (.cond (.tmp 104) (.seq (.reg false ydfx) .ret) .skip))))) (.reg false c4_9)))))))) (.reg false c4_5)))))) (.seq (.reg false ydaa) .ret)))))
theorem ydfz:Fn 4 c4 [.t 6]:=fn_0 Tryz.func4 (by kernel_rfl) (by kernel_rfl)
def c3_0:LO:=[o3 (.box 24 (.tmp 0)) 2 0,o3 (.mv (.const (.bool false))) 4 0]
def c3_1:LO:=[ld' true 6 2 14 0,o3 (.call (.func 21) [(.tmp 14),(ci' 10)]) 15 1,o3 (.alloc 27 1 [.a (.slice none 0 0),.a (.slice none 0 0)]) 5 0,o0 (.store 2 (.tmp 5) (.tmp 15)) 7]
def c3_2:LO:=[cl' 23 [] 17 0,ld' true 2 5 18 0,ld' true 2 5 19 0,cl' 25 [] 20 1,mv' 1 21 0,cl' 24 [19,20,21] 22 29,o3 (.call (.func 26) [(.const (.slice none 0 0)),(ci' 12)]) 23 61,o3 (.call (.func 22) [(.tmp 17),(.tmp 18),(ci' 4),(.tmp 22),(.tmp 23)]) 24 127,mv' 24 16 255,xt' 16 0 25 511,xt' 16 1 26 511,xt' 16 2 27 511,mv' 25 6 1023,mv' 26 7 6143,mv' 27 8 16383]
def c3_3:LO:=[mv' 8 28 0,o3 (.un .not (.tmp 28)) 29 1]
def c3_4:LO:=[o3 (.mv (.const (.bool false))) 4 0]
def c3_5:LO:=[ld' true 2 5 30 0,mv' 6 31 0,mv' 6 32 0,ln' 32 33 4,o3 (.bin .sub (.tmp 33) (ci' 1)) 34 12,ix' 1 31 34 35 30,ld' false 1 35 36 62,cl' 27 [30,36] 37 127,mv' 37 9 255,o3 (.mv (ci' 24)) 10 511]
def c3_6:LO:=[o3 (.mv (ci' 0)) 11 0]
def c3_7:LO:=[mv' 11 38 0,fa' 1 1 5 39 0,ld' false 1 39 40 2,ln' 40 41 6,bn' .lss 38 41 42 15]
def c3_9:LO:=[mv' 10 45 0,ld' true 2 5 46 0,mv' 11 47 0,cl' 28 [46,47] 48 6,o3 (.mm false (.tmp 45) (.tmp 48)) 49 15,mv' 49 10 31]
def c3_8:LO:=[mv' 11 43 0,o3 (.bin .add (.tmp 43) (ci' 1)) 44 1,mv' 44 11 3]
def ydfe:LO:=[o3 (.mv (ci' 0)) 12 0]
def ycxx:LO:=[o3 (.mv (ci' 0)) 13 0]
def ybzc:LO:=[mv' 13 50 0,fa' 1 1 5 51 0,ld' false 1 51 52 2,ln' 52 53 6,bn' .lss 50 53 54 15]
def ydfh:LO:=[mv' 9 57 0,mv' 13 58 0,cl' 29 [57,58] 59 3,ld' true 2 5 60 0,mv' 13 61 0,cl' 28 [60,61] 62 31,mv' 10 63 0,bn' .eql 62 63 64 127,o3 (.beq true (.tmp 59) (.tmp 64)) 65 255]
def ydgd:LO:=[o3 (.mv (.const (.bool false))) 4 0]
def yddw:LO:=[mv' 9 66 0,mv' 13 67 0,cl' 29 [66,67] 68 3]
def yddt:LO:=[mv' 12 69 0,o3 (.bin .add (.tmp 69) (ci' 1)) 70 1,mv' 70 12 3]
def yctr:LO:=[mv' 13 55 0,o3 (.bin .add (.tmp 55) (ci' 1)) 56 1,mv' 56 13 3]
def ycsq:LO:=[cl' 30 [] 71 0,mv' 71 72 1,⟨.mv (.tmp 12),some 73,some (72,true),3⟩,⟨.bin .eql (.tmp 73) (ci' 1),some 74,some (72,true),7⟩,⟨.mv (.tmp 74),some 75,some (72,true),15⟩,⟨.mv (.tmp 12),some 76,some (75,false),31⟩,⟨.bin .eql (.tmp 76) (ci' 2),some 77,some (75,false),63⟩,⟨.mv (.tmp 77),some 78,some (75,false),127⟩,⟨.load true 2 (.tmp 5),some 79,some (78,true),255⟩,⟨.mv (.tmp 9),some 80,some (78,true),255⟩,⟨.call (.func 31) [(.tmp 79),(.tmp 80)],some 81,some (78,true),1023⟩,⟨.mv (.tmp 9),some 82,some (78,true),255⟩,⟨.bin .and (.tmp 81) (.tmp 82),some 83,some (78,true),4095⟩,⟨.mv (.tmp 9),some 84,some (78,true),255⟩,⟨.bin .eql (.tmp 83) (.tmp 84),some 85,some (78,true),16383⟩,⟨.pick (.tmp 78) (.tmp 85) (.const (.bool false)),some 86,some (75,false),32767⟩,⟨.pick (.tmp 75) (.const (.bool true)) (.tmp 86),some 87,some (72,true),65535⟩,o3 (.pick (.tmp 72) (.tmp 87) (.const (.bool false))) 88 131071,mv' 88 4 262143]
def c3:SC:=(.seq (.reg false c3_0) (.seq (.reg false c3_1) (.seq (.reg true c3_2) (.seq (.seq (.reg false c3_3) (.cond (.tmp 29) (.seq (.reg false c3_4) .ret) .skip)) (.seq (.reg true c3_5) (.seq (.seq (.reg false c3_6) (.block 0 (.loop (.seq (.seq (.reg false c3_7) (.cond (.tmp 42) .skip (.exit 0))) (.seq (.block 1 (.reg false c3_9)) (.reg false c3_8)))))) (.seq (.reg false ydfe) (.seq (.seq (.reg false ycxx) (.block 2 (.loop (.seq (.seq (.reg false ybzc) (.cond (.tmp 54) .skip (.exit 2))) (.seq (.block 3 (.seq (.seq (.reg true ydfh) (.cond (.tmp 65) (.seq (.reg false ydgd) .ret) .skip)) (.seq (.reg false yddw) (.cond (.tmp 68) (.reg false yddt) .skip)))) (.reg false yctr)))))) (.seq (.reg false ycsq) .ret)))))))))
theorem ydgs:Fn 3 c3 [.t 4]:=fn_0 Tryz.func3 (by kernel_rfl) (by kernel_rfl)
def c7_0:LO:=[o3 (.box 24 (.tmp 0)) 2 0,o3 (.mv (.const (.bool false))) 4 0]
def c7_1:LO:=[ld' true 6 2 20 0,o3 (.call (.func 21) [(.tmp 20),(ci' 10)]) 21 1,o3 (.alloc 27 1 [.a (.slice none 0 0),.a (.slice none 0 0)]) 5 0,o0 (.store 2 (.tmp 5) (.tmp 21)) 7]
def c7_2:LO:=[fa' 1 1 5 22 0,ld' false 1 22 23 1,ln' 23 24 3,mv' 24 6 7]
def c7_3:LO:=[mv' 1 25 0,mv' 6 26 0,cl' 39 [25,26] 27 3,mv' 27 1 7]
def c7_4:LO:=[mv' 6 28 0,o3 (.mk 3 1 8 [.i .i64 0] (.tmp 28) (.tmp 28)) 29 1,mv' 29 7 3]
def c7_5:LO:=[o3 (.mv (ci' 0)) 8 0]
def c7_6:LO:=[mv' 8 30 0,mv' 6 31 0,bn' .lss 30 31 32 3]
def c7_8:LO:=[mv' 7 35 0,mv' 8 36 0,mv' 8 37 0,mv' 1 38 0,bn' .add 37 38 39 12,mv' 6 40 0,bn' .rem 39 40 41 60,ix' 1 35 36 42 127,o0 (.store 1 (.tmp 42) (.tmp 41)) 255]
def c7_7:LO:=[mv' 8 33 0,o3 (.bin .add (.tmp 33) (ci' 1)) 34 1,mv' 34 8 3]
def c7_9:LO:=[ld' true 2 5 44 0,mv' 7 45 0,cl' 40 [44,45] 46 3,mv' 46 43 7,xt' 43 0 47 15,xt' 43 1 48 15,o3 (.alloc 27 1 [.a (.slice none 0 0),.a (.slice none 0 0)]) 9 0,o0 (.store 2 (.tmp 9) (.tmp 47)) 95,mv' 48 10 255]
def ydgt:LO:=[cl' 23 [] 50 0,ld' true 2 5 51 0,ld' true 2 5 52 0,cl' 25 [] 53 1,o3 (.call (.func 24) [(.tmp 52),(.tmp 53),(.const (.slice none 0 0))]) 54 13,o3 (.call (.func 26) [(.const (.slice none 0 0)),(ci' 12)]) 55 29,o3 (.call (.func 22) [(.tmp 50),(.tmp 51),(ci' 4),(.tmp 54),(.tmp 55)]) 56 63,mv' 56 49 127,xt' 49 0 57 255,xt' 49 1 58 255,xt' 49 2 59 255,mv' 57 11 511,mv' 58 12 3071,mv' 59 13 8191]
def ydhb:LO:=[cl' 23 [] 61 0,ld' true 2 9 62 0,ld' true 2 9 63 0,cl' 25 [] 64 1,o3 (.call (.func 24) [(.tmp 63),(.tmp 64),(.const (.slice none 0 0))]) 65 13,o3 (.call (.func 26) [(.const (.slice none 0 0)),(ci' 12)]) 66 29,o3 (.call (.func 22) [(.tmp 61),(.tmp 62),(ci' 4),(.tmp 65),(.tmp 66)]) 67 63,mv' 67 60 127,xt' 60 0 68 255,xt' 60 1 69 255,xt' 60 2 70 255,mv' 68 14 511,mv' 69 15 3071,mv' 70 16 8191]
def ydgu:LO:=[mv' 10 71 0,o3 (.bin .neq (.tmp 71) (ci' 0)) 72 1,mv' 72 73 3,⟨.mv (.tmp 13),some 74,some (73,false),7⟩,⟨.un .not (.tmp 74),some 75,some (73,false),15⟩,o3 (.pick (.tmp 73) (.const (.bool true)) (.tmp 75)) 76 31,mv' 76 77 63,⟨.mv (.tmp 16),some 78,some (77,false),127⟩,⟨.un .not (.tmp 78),some 79,some (77,false),255⟩,o3 (.pick (.tmp 77) (.const (.bool true)) (.tmp 79)) 80 511]
def ydgg:LO:=[o3 (.mv (.const (.bool false))) 4 0]
def ydgc:LO:=[ld' true 2 5 81 0,mv' 11 82 0,mv' 11 83 0,ln' 83 84 4,o3 (.bin .sub (.tmp 84) (ci' 1)) 85 12,ix' 1 82 85 86 30,ld' false 1 86 87 62,cl' 27 [81,87] 88 127,ld' true 2 9 89 0,mv' 14 90 0,mv' 14 91 0,ln' 91 92 1024,o3 (.bin .sub (.tmp 92) (ci' 1)) 93 3072,ix' 1 90 93 94 7680,ld' false 1 94 95 15872,cl' 27 [89,95] 96 32767,mv' 88 17 65535,mv' 96 18 131071]
def ydgq:LO:=[o3 (.mv (ci' 0)) 19 0]
def ydga:LO:=[mv' 19 97 0,mv' 6 98 0,bn' .lss 97 98 99 3]
def ydfw:LO:=[mv' 17 102 0,mv' 19 103 0,cl' 29 [102,103] 104 3,mv' 18 105 0,mv' 7 106 0,mv' 19 107 0,ix' 1 106 107 108 48,ld' false 1 108 109 112,cl' 29 [105,109] 110 255,o3 (.beq true (.tmp 104) (.tmp 110)) 111 511]
def ydgv:LO:=[o3 (.mv (.const (.bool false))) 4 0]
def ydgf:LO:=[mv' 19 100 0,o3 (.bin .add (.tmp 100) (ci' 1)) 101 1,mv' 101 19 3]
def ydhe:LO:=[cl' 30 [] 112 0,mv' 112 113 1,⟨.mv (.tmp 17),some 114,some (113,true),3⟩,⟨.bin .neq (.tmp 114) (.const (.int .u32 0)),some 115,some (113,true),7⟩,o3 (.pick (.tmp 113) (.tmp 115) (.const (.bool false))) 116 15,mv' 116 4 31]
def c7:SC:=(.seq (.reg false c7_0) (.seq (.reg false c7_1) (.seq (.reg false c7_2) (.seq (.reg false c7_3) (.seq (.reg false c7_4) (.seq (.seq (.reg false c7_5) (.block 0 (.loop (.seq (.seq (.reg false c7_6) (.cond (.tmp 32) .skip (.exit 0))) (.seq (.block 1 (.reg false c7_8)) (.reg false c7_7)))))) (.seq (.reg false c7_9) (.seq (.reg true ydgt) (.seq (.reg true ydhb) (.seq (.seq (.reg false ydgu) (.cond (.tmp 80) (.seq (.reg false ydgg) .ret) .skip)) (.seq (.reg true ydgc) (.seq (.seq (.reg false ydgq) (.block 2 (.loop (.seq (.seq (.reg false ydga) (.cond (.tmp 99) .skip (.exit 2))) (.seq (.block 3 (.seq (.reg true ydfw) (.cond (.tmp 111) (.seq (.reg false ydgv) .ret) .skip))) (.reg false ydgf)))))) (.seq (.reg false ydhe) .ret)))))))))))))
end Sh
end Go.Proofs.YtiejahgklcjhkaaGreatDoor

namespace Go.Proofs.YtiejahgklcjhkaaGreatDoor
open Go
def yfl(g:Gr)(k:Nat):Nat:=((g.ports.take k).map List.length).sum
theorem ynm{g:Gr}{k:Nat}(h:k<g.ports.length):yfl g (k+1)=yfl g k+(g.ports.getD k []).length:=by
 unfold yfl;rw[List.take_succ_eq_append_getElem h,List.map_append,List.sum_append,Sh.getD_at h];simp
theorem ylz{g:Gr}(hg:ybb g):∀ k,k<=g.ports.length->yfl g k<=24 * k
 | 0,_=>by simp[yfl]
 | k+1,h=>by
  rw[ynm (by omega)]
  have:=ylz hg k (by omega)
  have:=hg.deg_lt (v:=k);omega
theorem ybeb(g:Gr):yfl g g.ports.length=ygd g:=by unfold yfl ygd;rw[List.take_length]
def ybgi(g:Gr):Nat:=ygd g / 2
namespace Sh
open Ev Go.RowKit
set_option maxRecDepth 8000
def ycwg(g:Gr):List SV:=if ycb g=true then[.i .i64 g.ports.length,.i .i64 (ybgi g)]else[.i .i64 0,.i .i64 0]
theorem ybyz(n:Nat):((n:Nat):Int).tdiv 2=((n / 2:Nat):Int):=by
 rw[Int.tdiv_eq_ediv_of_nonneg (by omega)]
 omega
theorem ybpz{g:Gr}(hI:GrI g):Returns Tryz.prog 122 [grV g] (.tp (ycwg g)):=by
 refine Returns.of (ycwn _ _ ?_);have hV:=yum hI;unfold ycwg;cases hv:ycb g with
 | false =>
  rw[hv]at hV;simp only[grV]at hV;simp only[c122,ybls,ybqh,ycng,grV,clash,go_sem,Nat.reduceEqDiff,Nat.reduceAdd,Nat.reduceLT,↓reduceIte];refine hV.use ?_;simp only[thenO,clash,go_sem,Nat.reduceEqDiff,Nat.reduceAdd,↓reduceIte];exact Sim.refl _
 | true =>
  have hg:=(ycm g).1 hv;have h24:=hg.2.1;have hpl:=hg.2.2.1;obtain⟨n,hn⟩:∃ n,g.ports.length=n:=⟨_,rfl⟩;rw[hv]at hV;simp only[grV]at hV;rw[hn]at h24 hpl;simp only[c122,ybls,ybqh,yckk,grV,clash,go_sem,Nat.reduceEqDiff,Nat.reduceAdd,Nat.reduceLT,↓reduceIte];refine hV.use ?_;simp only[thenO,yu,hn,clash,go_sem,Nat.reduceEqDiff,Nat.reduceAdd,↓reduceIte,reduceCtorEq];refine ybe (σ:=Nat) (fun k=>⟨[(12,.i .i64 k),(11,.i .i64 n),(10,yu g.ports),(3,.i .i64 (yfl g k:Nat)),(1,.pt (1,0) 0 0)],[(1,.one (some ⟨27,true,2,1,fun _=>[yj g.ids,yu g.ports]⟩))]⟩) (fun k=>k<=n) (fun k=>n - k) 0 (Nat.zero_le _) ?_ ?_
  ·refine yg [] [] [] ?_;simp only[yu,hn,allQ,live,yc,yw,Int.natCast_zero,go_sem,Nat.reduceEqDiff,↓reduceIte,reduceCtorEq];rfl
  intro k hk
  by_cases hlt:k<n
  ·have t1:decide ((k:Int)<(n:Int))=true:=decide_eq_true (by omega)
   have hs:=ynm (g:=g) (k:=k) (by omega)
   have hb:=ylz hg k (by omega)
   have hd:=hg.deg_lt (v:=k);obtain⟨d,hdd⟩:∃ d,(g.ports.getD k []).length=d:=⟨_,rfl⟩;rw[hdd]at hs hd;have e:(yfl g k:Int)+(d:Int)=((yfl g (k+1):Nat):Int):=by rw[hs];omega
   simp only[ybwh,ycho,ycip,ycff,yu,yba,hn,t1,hdd,e,clash,go_sem,Nat.reduceEqDiff,Nat.reduceAdd,↓reduceIte,reduceCtorEq];refine⟨by omega,ikw (by omega) (by omega),ikw (by omega) (by omega),?_⟩
   refine yh (k+1) (by omega) (by omega) ?_
   refine yg [] [] [] ?_;simp only[allQ,live,yc,yw,go_sem,Nat.reduceEqDiff,↓reduceIte,reduceCtorEq];omega
  ·obtain rfl:k=n:=by omega
   have t1:decide ((k:Int)<(k:Int))=false:=decide_eq_false (by omega)
   have hb:=ylz hg k (by omega)
   have e:=ybeb g;rw[hn]at e;have e2:=ybyz (yfl g k);simp only[ybwh,ycdp,yu,yj,hn,hpl,t1,e2,clash,go_sem,Nat.reduceEqDiff,Nat.reduceAdd,Nat.reduceLeDiff,↓reduceIte,reduceCtorEq];unfold ybgi;rw[<- e];exact⟨⟨by decide,ikw (by omega) (by omega)⟩,Sim.refl _⟩
theorem ybto{g:Gr}(hI:GrI g):Returns Tryz.prog 136 [grV g] (.b (isTreeB g)):=by
 refine Returns.of (yctv _ _ ?_);have hC:=ybrc hI;have hS:=ybpz hI;unfold isTreeB;cases hcn:yee g with
 | false =>
  rw[hcn]at hC;simp only[grV]at hC;simp only[c136,ybpa,ybnm,ycdh,grV,clash,go_sem,Nat.reduceEqDiff,Nat.reduceAdd,Nat.reduceLT,↓reduceIte];refine hC.use ?_;simp only[thenO,clash,go_sem,Nat.reduceAdd,↓reduceIte];exact Sim.refl _
 | true =>
  have hv:=yka hcn;have hg:=(ycm g).1 hv;have h24:=hg.2.1;rw[hcn]at hC;unfold ycwg at hS;rw[if_pos hv]at hS;simp only[grV]at hC hS;simp only[c136,ybpa,ybnm,ycpl,ycop,grV,clash,go_sem,Nat.reduceEqDiff,Nat.reduceAdd,Nat.reduceLT,↓reduceIte];refine hC.use ?_;simp only[thenO,clash,go_sem,Nat.reduceEqDiff,Nat.reduceAdd,↓reduceIte,reduceCtorEq];refine hS.use ?_;simp only[go_sem,Nat.reduceEqDiff,↓reduceIte]
  refine⟨ikw (by omega) (by omega),?_⟩
  have e:(((ybgi g:Nat):Int) == (g.ports.length:Int) - 1)=decide (ygd g / 2+1=g.ports.length):=by
   rw[Bool.eq_iff_iff,beq_iff_eq,decide_eq_true_iff];unfold ybgi;omega
  rw[<- e];exact Sim.refl _
end Sh
end Go.Proofs.YtiejahgklcjhkaaGreatDoor

namespace Go.Proofs.YtiejahgklcjhkaaGreatDoor
open Go
theorem Tr.rch_le{g:Gr}(h:Tr g){v u:Nat}(hu:adj g v u):1<=rchP g v u/\rchP g v u<=24:=by
 obtain⟨w,hw,_,e⟩:=h.rch_ex hu;have:=h.lt_n hw (h.good.adj_lt hu).1;have:=h.good.2.1;have:=h.rch_pos hu;omega
def yii(g:Gr)(c:Conf):Bool:=isTreeB g && yom g.ports.length (ydb g [(g.ids.length:Int)]) c
def htS(g:Gr)(v i:Nat):Int × Int:=(((g.ports.getD v []).take i).map fun l=>rchP g v l.1.toNat).foldl ynz (0,0)
theorem ybfu{g:Gr}{v i:Nat}(hi:i<(g.ports.getD v []).length):htS g v (i+1)=ynz (htS g v i) (rchP g v ((g.ports.getD v []).getD i (0,0)).1.toNat):=by
 unfold htS;rw[List.take_succ_eq_append_getElem hi,List.map_append,List.foldl_append,Sh.getD_at hi];rfl
theorem ycsx(g:Gr)(v:Nat):(htS g v (g.ports.getD v []).length).2=htP g v:=by
 unfold htS;rw[List.take_length];exact ycwz g v
theorem ycpr{g:Gr}(h:Tr g){v:Nat}(hv:v<g.ports.length):∀ i,i<=(g.ports.getD v []).length->(0<=(htS g v i).2/\(htS g v i).2<=(htS g v i).1)/\(htS g v i).1<=24
 | 0,_=>by simp[htS]
 | i+1,hi=>by
  have ih:=ycpr h hv i (by omega)
  have hm:(g.ports.getD v []).getD i (0,0) ∈ g.ports.getD v []:=by rw[Sh.getD_at (show i<_ by omega)];exact List.getElem_mem _
  have hr:=h.rch_le (yco h.good hv hm).2.2.1;rw[ybfu (by omega)]
  unfold ynz;simp only;omega
def rchS(g:Gr)(v u i:Nat):Int:=((g.ports.getD u []).take i).foldl (yly g v u) 1
theorem ybur{g:Gr}{v u i:Nat}(hi:i<(g.ports.getD u []).length):rchS g v u (i+1)=yly g v u (rchS g v u i) ((g.ports.getD u []).getD i (0,0)):=by
 unfold rchS;rw[List.take_succ_eq_append_getElem hi,List.foldl_append,Sh.getD_at hi];rfl
namespace Sh
open Ev Go.RowKit
set_option maxRecDepth 8000
theorem ybyi{g:Gr}(hI:GrI g):Returns Tryz.prog 87 [grV g] (.b (isTreeB g)):=by
 refine Returns.of (ydeb _ _ ?_);have hC:=ybto hI;simp only[grV]at hC;simp only[c87,ydea,ydbf,grV,go_sem,Nat.reduceEqDiff,Nat.reduceAdd,Nat.reduceLT,↓reduceIte];refine hC.use ?_;simp only[thenO,sim_b,go_sem,Nat.reduceEqDiff,Nat.reduceAdd,↓reduceIte,reduceCtorEq]
theorem ybss{g:Gr}(hI:GrI g){c:Conf}(hR:ybnb c):Returns Tryz.prog 80 [grV g,ybf c] (.b (yii g c)):=by
 refine Returns.of (ydeg _ _ ?_);have hF:=ybyi hI;unfold yii;cases ht:isTreeB g with
 | false =>
  rw[ht]at hF;simp only[grV]at hF;simp only[c80,ycvq,ycux,grV,clash,go_sem,Nat.reduceEqDiff,Nat.reduceAdd,Nat.reduceLT,↓reduceIte];refine hF.use ?_;simp only[thenO,clash,go_sem,Nat.reduceEqDiff,Nat.reduceAdd,↓reduceIte,reduceCtorEq];exact Sim.refl _
 | true =>
  have hcn:yee g=true:=by
   unfold isTreeB at ht;rw[Bool.and_eq_true]at ht;exact ht.1
  have hg:=(ycm g).1 (yka hcn);have h24:=hg.2.1;have hpl:=hg.2.2.1
  have hC:=ycap hg hR (G:=[(g.ids.length:Int)]) (fun x hx=>by
   simp at hx;subst hx;exact ydx (by omega))
  rw[ht]at hF;simp only[grV]at hF;simp only[c80,ycvq,ycux,grV,clash,go_sem,Nat.reduceEqDiff,Nat.reduceAdd,Nat.reduceLT,↓reduceIte];refine hF.use ?_;simp only[thenO,yj,splice,clash,go_sem,Nat.reduceEqDiff,Nat.reduceAdd,Nat.reduceLeDiff,Nat.reduceLT,↓reduceIte,reduceCtorEq];have one:∀ {q:Nat},q<1->q=0:=fun {q} h=>by omega
  refine .inl ⟨fun q hq=>by obtain rfl:=one hq;simp only[go_sem],hC.useS ?_ ?_⟩
  ·refine⟨Sim.refl (grV g),Sim.refl _,?_,trivial⟩;refine yhe fun q hq=>?_;obtain rfl:=one hq;simp only[List.getD_cons_zero,go_sem];exact⟨Sim.refl _,trivial⟩
  simp only[go_sem];exact Sim.refl _
end Sh
end Go.Proofs.YtiejahgklcjhkaaGreatDoor

namespace Go.Proofs.YtiejahgklcjhkaaGreatDoor
section
variable {g:Gr} {t u v:Nat}
end
end Go.Proofs.YtiejahgklcjhkaaGreatDoor

namespace Go.Proofs.YtiejahgklcjhkaaGreatDoor
section
variable {g:Gr} {t u v a:Nat}
end
end Go.Proofs.YtiejahgklcjhkaaGreatDoor

namespace Go.Proofs.YtiejahgklcjhkaaGreatDoor
def pkL(f:Nat->Int)(v:Nat)(s:Nat)(l:Int × Int):Nat:=if f v<f l.1.toNat then difB s (2 ^ v)else s
def pkV(f:Nat->Int)(g:Gr)(s v:Nat):Nat:=(g.ports.getD v []).foldl (pkL f v) s
def yhx(f:Nat->Int)(g:Gr):Nat:=(List.range g.ports.length).foldl (pkV f g) (2 ^ g.ports.length - 1)
section
variable {g:Gr} {f:Nat->Int}
theorem ybhm{v i:Nat}:∀ (ls:List (Int × Int)) (s:Nat),(ls.foldl (pkL f v) s).testBit i=true ↔ s.testBit i=true/\(i=v -> ∀ l ∈ ls,f l.1.toNat<=f v)
 | [],s=>⟨fun h=>⟨h,fun _ _ hl=>nomatch hl⟩,fun h=>h.1⟩
 | l :: ls,s=>by
  rw[List.foldl_cons,ybhm ls]
  have hb:(pkL f v s l).testBit i=true ↔ s.testBit i=true/\(i=v->f l.1.toNat<=f v):=by
   unfold pkL
   by_cases q:f v<f l.1.toNat
   ·rw[if_pos q,ygj,Bool.and_eq_true,Bool.not_eq_true',Nat.testBit_two_pow,decide_eq_false_iff_not];exact and_congr Iff.rfl ⟨fun h e=>absurd e.symm h,fun h e=>by have:=h e.symm;omega⟩
   ·rw[if_neg q];exact⟨fun h=>⟨h,fun _=>by omega⟩,fun h=>h.1⟩
  rw[hb];constructor
  ·rintro⟨⟨h1,h2⟩,h3⟩;refine⟨h1,fun e x hx=>?_⟩;rcases List.mem_cons.1 hx with r | r
   ·rw[r];exact h2 e
   ·exact h3 e x r
  ·rintro⟨h1,h2⟩;exact⟨⟨h1,fun e=>h2 e l List.mem_cons_self⟩,fun e x hx=>h2 e x (List.mem_cons_of_mem _ hx)⟩
theorem ybia{i:Nat}:∀ (vs:List Nat) (s:Nat),(vs.foldl (pkV f g) s).testBit i=true ↔ s.testBit i=true/\(i ∈ vs -> ∀ l ∈ g.ports.getD i [],f l.1.toNat<=f i)
 | [],s=>⟨fun h=>⟨h,fun hl=>nomatch hl⟩,fun h=>h.1⟩
 | v :: vs,s=>by
  rw[List.foldl_cons,ybia vs];have hb:(pkV f g s v).testBit i=true ↔ s.testBit i=true/\(i=v -> ∀ l ∈ g.ports.getD v [],f l.1.toNat<=f v):=ybhm _ _;rw[hb];constructor
  ·rintro⟨⟨h1,h2⟩,h3⟩;refine⟨h1,fun hm=>?_⟩;rcases List.mem_cons.1 hm with r | r
   ·subst r;exact h2 rfl
   ·exact h3 r
  ·rintro⟨h1,h2⟩;exact⟨⟨h1,fun e=>by subst e;exact h2 List.mem_cons_self⟩,fun hm=>h2 (List.mem_cons_of_mem _ hm)⟩
theorem ybwf(hg:ybb g){v:Nat}:(yhx f g).testBit v=true ↔ v<g.ports.length /\ ∀ u,adj g v u->f u<=f v:=by
 unfold yhx;rw[ybia,Nat.testBit_two_pow_sub_one,decide_eq_true_iff,List.mem_range];constructor
 ·rintro⟨h1,h2⟩;refine⟨h1,fun u hu=>?_⟩;obtain⟨l,hl,e⟩:=yhs hu;rw[<- e];exact h2 h1 l hl
 ·rintro⟨h1,h2⟩;exact⟨h1,fun _ l hl=>h2 _ (yco hg h1 hl).2.2.1⟩
theorem yjs(h:Tr g){c:Conf}(hr:yjm g c){v:Nat}:(yhx (fun x=>(c.getD x []).getD 0 0) g).testBit v=true ↔ v<g.ports.length/\Peak g v:=by
 have hpl:=h.good.2.2.1;have at_:∀ x,x<g.ports.length->(c.getD x []).getD 0 0=htP g x:=fun x hx=>by rw[hr x (by omega)];rfl
 rw[ybwf h.good];refine and_congr_right fun hv=>?_;unfold Peak;constructor
 ·intro q u hu;have:=q u hu
  rwa [at_ u (h.good.adj_lt hu).2,at_ v hv]at this
 ·intro q u hu;rw[at_ u (h.good.adj_lt hu).2,at_ v hv];exact q u hu
end
end Go.Proofs.YtiejahgklcjhkaaGreatDoor

namespace Go.Proofs.YtiejahgklcjhkaaGreatDoor
namespace Sh
open Go Ev Go.RowKit
section
variable {m:Mem} {F:AM}
theorem row_of{z bk p n cp N e zz:Nat}{Tb:Ev.T Value}{L:Nat->List Value}(h1:m.b.get bk=some (.cells Tb N e zz))(h2:0<n)(h3:p+n * z<=N)(h4:∀ a,a<n->(L a).length=z)(h5:∀ a,a<n -> ∀ j,j<z->Tb.get (p+a * z+j)=(L a)[j]?) :
  rowOf m z (.slice (some ⟨bk,p,none⟩) n cp)=some (ybr L n,[bk]):=by
 have hl:=ych h4;show(bif Nat.beq n 0 then _ else _)=_;rw[show Nat.beq n 0=false by cases n with | zero=>omega | succ n=>rfl]
 simp only[cond_false];rw[h1];simp only;rw[Nat.ble_eq_true_of_le h3];simp only[cond_true]
 have hg:=yfo (T:=Tb) (L:=ybr L n) (o:=p) (fun j hj=>by
  rw[hl]at hj;rcases Nat.eq_zero_or_pos z with hz | hz
  ·subst hz;omega
  ·have hd:=Nat.div_add_mod j z;have hm:=Nat.mod_lt j hz;have hk:j / z<n:=Nat.div_lt_of_lt_mul (by rwa [Nat.mul_comm]at hj)
   have e1:j=j / z * z+j % z:=by rw[Nat.mul_comm];exact hd.symm
   rw[e1,yej h4 _ _ hk hm,<- Nat.add_assoc];exact h5 _ hk _ hm)
 rw[hl]at hg;rw[hg]
theorem row_zero{u:Value}(h:Z0 u)(z:Nat):rowOf m z u=some ([],[]):=by
 rcases h with rfl | ⟨b,o,c,rfl⟩
 ·rfl
 ·rfl
theorem in64{n:Int}(h:I64 n):inI64 n=true:=by
 unfold I64 at h;unfold inI64;split
 ·rename_i k;exact Nat.ble_eq_true_of_le (by simp only[Int.ofNat_eq_natCast]at h;omega)
 ·rename_i k;exact Nat.ble_eq_true_of_le (by omega)
theorem ynf{a b:Int}(ha:I64 a)(hb:I64 b):∀ {l:List Value} {r:List (Int × Int)},pairsOf l=some r->pairsOf (l ++ [.int .i64 a,.int .i64 b])=some (r ++ [(a,b)])
 | [],r,h=>by
  cases h
  show(bif inI64 a && inI64 b then _ else _)=_;rw[in64 ha,in64 hb];rfl
 | .int .i64 x :: .int .i64 y :: l,r,h=>by
  unfold pairsOf at h;split at h
  ·rename_i r' hr
   rw[Bool.cond_eq_ite]at h;split at h
   ·rename_i hc
    cases h
    show(match pairsOf (l ++ [.int .i64 a,.int .i64 b])with | some r=>bif inI64 x && inI64 y then some ((x,y) :: r)else none | none=>none)=_
    rw[ynf ha hb hr];simp only[hc,cond_true];rfl
   ·cases h
  ·cases h
theorem ybjo(hF:Le F m.b.get){ls:List (Int × Int)}{u:Value}(h:RV F om0 (yba ls) u)(hI:∀ l ∈ ls,I64 l.1/\I64 l.2):linksOf m u=some ls:=by
 unfold linksOf;rcases h.sl_inv with⟨h0,hz⟩ | ⟨bk,p,cp,T,N,e,zz,L,rfl,g1,g2,g3,g4,g5,g6,g7⟩
 ·rw[row_zero hz];have:ls = []:=List.eq_nil_of_length_eq_zero h0;subst this;rfl
 ·rcases Nat.eq_zero_or_pos ls.length with h0 | h0
  ·have:ls = []:=List.eq_nil_of_length_eq_zero h0;subst this;rfl
  ·rw[row_of (hF _ _ g1) h0 g3 g4 g5]
   have:∀ n,n<=ls.length->pairsOf (ybr L n)=some (ls.take n):=by
    intro n
    induction n with
    | zero=>intro _;rfl
    | succ n ih =>
     intro hn;have hn':n<ls.length:=by omega
     have hl:=g6 n hn'
     have e1:L n = [.int .i64 ls[n].1,.int .i64 ls[n].2]:=by
      have e0:ls.getD n (0,0)=ls[n]:=by simp[List.getD,hn']
      rw[e0]at hl;obtain⟨x,y,e2,hx,hy⟩:=rvl2 hl;rw[e2,hx.int_inv,hy.int_inv]
     show pairsOf (ybr L n ++ L n)=_;rw[e1,List.take_succ_eq_append_getElem hn'];have:=hI ls[n] (List.getElem_mem hn');exact ynf this.1 this.2 (ih (by omega))
   simp only;rw[this _ (Nat.le_refl _),List.take_length]
theorem ybux{α β:Type}{f:α->Option β}:∀ {l:List α} {r:List β},l.length=r.length->(∀ (k:Nat) x y,l[k]? = some x->r[k]? = some y->f x=some y)->mapO f l=some r
 | [],[],_,_=>rfl
 | x :: l,y :: r,hl,h=>by
  unfold mapO;rw[h 0 x y rfl rfl];simp only;rw[ybux (by simpa using hl) fun k a b h1 h2=>h (k+1) a b (by simpa using h1) (by simpa using h2)]
 | [],_ :: _,hl,_=>by simp at hl
 | _ :: _,[],hl,_=>by simp at hl
theorem ybot{L:Nat->List Value}{n:Nat}(h:∀ a,a<n->(L a).length=1){k:Nat}(hk:k<n):(ybr L n)[k]? = (L k)[0]?:=by
 have:=yej h k 0 hk (by omega)
 simpa using this
theorem ybkr{ids:SV}{P:List (List (Int × Int))}{u:Value}(h:RV F om0 (.rf [ids,yu P]) u)(hI:∀ ls ∈ P,∀ l ∈ ls,I64 l.1/\I64 l.2) :
  ∃ A v us,u = .pointer (some A) /\ ∀ m:Mem,Le F m.b.get->graphOf m A=some ⟨v,us,P⟩:=by
 obtain⟨bk,p,T,N,e,zz,L,rfl,h1,h2,h3,h4,_⟩:=h.rf_inv;cases h4 with
 | cons a0 b0 =>
  cases b0 with
  | cons a1 b1 =>
   rename_i u0 _ u1 _
   cases b1
   have hbox:∀ m:Mem,Le F m.b.get->boxPorts m ⟨bk,p,none⟩=some u1:=fun m hF=>by
    unfold boxPorts;simp only;rw[hF _ _ h1];simp only;rw[show Nat.blt (p+1) N=true from Nat.ble_eq_true_of_le (show p+1+1<=N by simp at h2;omega)]
    simp only[cond_true];exact h3 1 (by simp)
   have fin:∀ (us:List Value) (ft:List Nat),(∀ m:Mem,Le F m.b.get->rowOf m 1 u1=some (us,ft))->us.length=P.length->(∀ (k:Nat) x y,us[k]? = some x->P[k]? = some y->RV F om0 (yba y) x) ->
     ∃ A v us,Value.pointer (some ⟨bk,p,none⟩) = .pointer (some A) /\ ∀ m:Mem,Le F m.b.get->graphOf m A=some ⟨v,us,P⟩:=fun us ft hr hl hx=>by
    refine⟨_,u1,us,rfl,fun m hF=>?_⟩;unfold graphOf;rw[hbox m hF];show ob (rowOf m 1 u1) _=_;rw[hr m hF];show ob (mapO (linksOf m) us) _=_;rw[ybux hl fun k x y q1 q2=>ybjo hF (hx k x y q1 q2) (hI y (List.mem_of_getElem? q2))];rfl
   rcases a1.sl_inv with⟨k0,hz⟩ | ⟨bk',p',cp,T',N',e',zz',L',rfl,g1,g2,g3,g4,g5,g6,g7⟩
   ·have:P = []:=List.eq_nil_of_length_eq_zero k0;subst this;exact fin [] [] (fun m _=>row_zero hz 1) rfl (fun k x y q _=>by simp at q)
   ·rcases Nat.eq_zero_or_pos P.length with h0 | h0
    ·have:P = []:=List.eq_nil_of_length_eq_zero h0;subst this;exact fin [] [] (fun m _=>rfl) rfl (fun k x y q _=>by simp at q)
    ·refine fin (ybr L' P.length) [bk'] (fun m hF=>row_of (hF _ _ g1) h0 g3 g4 g5) (by rw[ych g4,Nat.mul_one]) fun k x y q1 q2=>?_
     have hk:k<P.length:=(List.getElem?_eq_some_iff.1 q2).1;rw[ybot g4 hk]at q1;have hl:=g6 k hk;have e0:P.getD k []=y:=by simp[List.getD,q2]
     rw[e0]at hl;obtain⟨v,e1,hv⟩:=rvl1 hl;rw[e1]at q1;cases q1
     exact hv
end
def ydt(P:List (List (Int × Int)))(k:Nat):El:=(flatAt 0 P).getD k ⟨0,0,0⟩
def ybso(P:List (List (Int × Int))):ItS:=⟨(flatAt 0 P).length,fun k=>[.i .i64 (ydt P k).v,.ag [.i .i64 (ydt P k).a,.i .i64 (ydt P k).b]],[],fun _ _=>True,fun _ o=>o⟩
theorem ybwu{ids:SV}{P:List (List (Int × Int))}(hI:∀ ls ∈ P,∀ l ∈ ls,I64 l.1/\I64 l.2):ItC Tryz.prog 158 [.rf [ids,yu P]] (ybso P):=by
 intro lo F ω s f m us hc hr _;obtain⟨u,rfl,hu⟩:=rvl1 hr
 have hu0:RV F om0 (.rf [ids,yu P]) u:=by
  obtain⟨bk,p,T,N,e,zz,L,rfl,h1,h2,h3,h4,h5⟩:=hu.rf_inv;exact .rf h1 h2 h3 h4 h5
 obtain⟨A,v,vs,rfl,hg⟩:=ybkr hu0 hI;have el0:∀ k,k<(flatAt 0 P).length->(flatAt 0 P)[k]? = some (ydt P k):=fun k hk=>by simp[ydt,List.getD,hk]
 refine⟨⟨(flatAt 0 P).length,fun k=>[(ydt P k).v0,(ydt P k).v1],fun _ m=>graphOf m A=some ⟨v,vs,P⟩,fun _ m=>m,fun _ _ M w M' w'=>M'=M/\w'=w⟩,⟨yvv.1,fun k m hk hw _=>Grow.refl hw,?_,?_⟩,rfl,fun F' ω' s' f' m' k hF _ hc' hk _=>⟨hg m' (hF.trans hc'.sub),fun hk=>⟨.cons .i (.cons (.ag (.cons .i (.cons .i .nil))) .nil),hc'⟩⟩⟩
 ·rintro k φ M w m M' w' hk hw hR hs hp ⟨rfl,rfl⟩;exact Good.refl hR hs
 ·intro l St Stop φ M w cap' hread hgrow hyield h0 hcap;obtain⟨box,rfl,hbox⟩:=yey hcap;refine CallsIn.mono (yvv.2 l A ⟨v,vs,P⟩ (fun pre φ' M' w'=>φ.le φ'/\(∃ post,flatAt 0 P=pre ++ post)/\St pre.length φ' M' w') Stop φ M w box ?_ ?_ ?_ ⟨φ.le_refl,⟨_,rfl⟩,h0⟩ hbox) ?_
  ·rintro pre φ' M' w' ⟨_,_,hst⟩;exact(hread _ _ _ _ hst).2
  ·rintro pre φ' M' w' w'' ⟨h1,h2,hst⟩ hb;exact⟨h1,h2,hgrow _ _ _ _ _ hst hb⟩
  ·rintro pre x post φ' M' w' ⟨h1,_,hst⟩ hfl;have hfl:flatAt 0 P=pre ++ x :: post:=hfl;have hk:pre.length<(flatAt 0 P).length:=by rw[hfl];simp
   have ex:ydt P pre.length=x:=by
    have:=el0 _ hk;rw[hfl,List.getElem?_append_right (Nat.le_refl _)]at this
    simpa using this.symm
   obtain⟨fn,tmps,asg,bd,hy1,hy2⟩:=hyield pre.length φ' M' w' [x.v0,x.v1] hk hst (by
    show VRL φ' [(ydt P pre.length).v0,(ydt P pre.length).v1] _;rw[ex];exact .cons (.simple rfl) (.cons (VR.atomA (v:=x.v1) rfl) .nil))
   refine⟨fn,tmps,asg,bd,hy1,hy2.mono ?_⟩
   ·rintro e w'' (⟨he,φ'',M'',h3,_,h4⟩ | h)
    ·refine .inl ⟨he,φ'',M'',h3,Phi.le_trans h1 h3,⟨post,by rw[hfl];simp⟩,?_⟩
     rw[List.length_append];exact h4 M'' w'' ⟨rfl,rfl⟩
    ·exact .inr h
  ·rintro e w' ⟨h1,(⟨φ',M',_,_,hst⟩ | h)⟩
   ·exact⟨h1,.inl ⟨φ',M',hst⟩⟩
   ·exact⟨h1,.inr h⟩
end Sh
end Go.Proofs.YtiejahgklcjhkaaGreatDoor

namespace Go.Proofs.YtiejahgklcjhkaaGreatDoor
namespace Sh
open Go Ev
def ycem:LO:=[o3 (.box 27 (.tmp 0)) 1 0,o3 (.mv (.const (.nilFunc))) 2 0]
def ycik:LO:=[o3 (.mkfn 158 [] [(.tmp 1)]) 3 0,mv' 3 2 1]
def c120:SC:=(.seq (.reg false ycem) (.seq (.reg false ycik) .ret))
theorem yctg:Fn 120 c120 [.t 2]:=fn_0 Tryz.func120 (by kernel_rfl) (by kernel_rfl)
end Sh
end Go.Proofs.YtiejahgklcjhkaaGreatDoor

namespace Go.Proofs.YtiejahgklcjhkaaGreatDoor
open Ev
theorem ybag:∀ (ps:List (List (Int × Int))) (v:Nat) (x:El),x ∈ flatAt v ps->v<=x.v/\x.v<v+ps.length/\(x.a,x.b) ∈ ps.getD (x.v - v) []
 | [],_,_,h=>absurd h List.not_mem_nil
 | ls :: l,v,x,h=>by
  rcases List.mem_append.1 h with h | h
  ·obtain⟨y,hy,rfl⟩:=List.mem_map.1 h;refine⟨Nat.le_refl _,by simp,?_⟩
   simp only[Nat.sub_self,List.getD_cons_zero];exact hy
  ·obtain⟨h1,h2,h3⟩:=ybag l (v+1) x h;refine⟨by omega,by simp only[List.length_cons];omega,?_⟩
   have e:x.v - v=(x.v - (v+1))+1:=by omega
   rw[e,List.getD_cons_succ];exact h3
theorem ybnu{g:Gr}{k:Nat}(hk:k<g.ports.length):flatAt 0 (g.ports.take (k+1))=flatAt 0 (g.ports.take k) ++ (g.ports.getD k []).map fun x=>(⟨k,x.1,x.2⟩:El):=by
 have h:=yjl (ps:=g.ports) (k:=k) (ls:=g.ports.getD k []) (by simp[List.getD,hk])
 rw[<- h];unfold yfb;rw[List.take_length]
theorem yzt{α:Type}{g:Gr}(f:α->El->α)(a:α):∀ k,k<=g.ports.length->(flatAt 0 (g.ports.take k)).foldl f a=(List.range k).foldl (fun a v=>(g.ports.getD v []).foldl (fun a l=>f a ⟨v,l.1,l.2⟩) a) a
 | 0,_=>by simp[flatAt]
 | k+1,hk=>by
  rw[ybnu (by omega),List.foldl_append,yzt f a k (by omega),List.range_succ,List.foldl_append,List.foldl_map]
  rfl
theorem ybyx{α:Type}{g:Gr}(f:α->El->α)(a:α):(flatAt 0 g.ports).foldl f a=(List.range g.ports.length).foldl (fun a v=>(g.ports.getD v []).foldl (fun a l=>f a ⟨v,l.1,l.2⟩) a) a:=by
 have:=yzt (g:=g) f a g.ports.length (Nat.le_refl _)
 rwa [List.take_length]at this
theorem ybtz{g:Gr}(hg:ybb g){k:Nat}(hk:k<(flatAt 0 g.ports).length):(Sh.ydt g.ports k).v<g.ports.length/\((Sh.ydt g.ports k).a,(Sh.ydt g.ports k).b) ∈ g.ports.getD (Sh.ydt g.ports k).v []:=by
 have hm:Sh.ydt g.ports k ∈ flatAt 0 g.ports:=by unfold Sh.ydt;rw[Sh.getD_at hk];exact List.getElem_mem hk
 obtain⟨_,h2,h3⟩:=ybag _ _ _ hm;exact⟨by omega,by simpa using h3⟩
theorem ybsl{α:Type}{g:Gr}(f:α->El->α)(a:α){k:Nat}(hk:k<(flatAt 0 g.ports).length):((flatAt 0 g.ports).take (k+1)).foldl f a=f (((flatAt 0 g.ports).take k).foldl f a) (Sh.ydt g.ports k):=by
 rw[List.take_succ_eq_append_getElem hk,List.foldl_append];unfold Sh.ydt;rw[Sh.getD_at hk];rfl
theorem ybmt{g:Gr}(hg:ybb g):∀ ls ∈ g.ports,∀ l ∈ ls,I64 l.1/\I64 l.2:=fun ls hls l hl=>by
 obtain⟨v,hv,e⟩:=List.getElem_of_mem hls;have h24:=hg.2.1;have:g.ports.getD v []=ls:=by simp[List.getD,hv,e]
 obtain⟨h1,h2,_,h4,h5⟩:=yco hg hv (by rw[this];exact hl)
 exact⟨Sh.ydx (by omega),Sh.ydx (by omega)⟩
end Go.Proofs.YtiejahgklcjhkaaGreatDoor

