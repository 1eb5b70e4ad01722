/- Joined. -/
import Derived.Test.YtiejahgklcjhkaaGreatDoorPkT8
import Derived.Test.YtiejahgklcjhkaaGreatDoorPkT5
set_option linter.unusedSimpArgs false
set_option linter.unusedVariables false
set_option maxRecDepth 8000
open Nat renaming reduceEqDiff->zA,reduceAdd->zB,reduceLT->zC,reduceLeDiff->zD,le_refl->zG,zero_le->zW,add_comm->zX,reduceBEq->zAA,zero_add->zAF,not_lt_zero->zAI,ble_eq_true_of_le->zAJ,lt_of_lt_of_le->zAT,eq_zero_or_pos->zAU,pow_le_pow_right->zBC,reduceMul->zBE,testBit_two_pow->zBF,sub_self->zBI,lt_succ_self->zBM,lt_irrefl->zBV,mul_comm->zBX,le_succ->zBY,beq->zCB
open List renaming range->zF,mem_cons_of_mem->zH,take_succ_eq_append_getElem->zI,mem_cons_self->zJ,getElem?_eq_getElem->zK,not_mem_nil->zL,length_cons->zM,getElem_mem->zN,eq_nil_of_length_eq_zero->zO,foldl_append->zY,take_length->zAB,getD->zAC,length_append->zAD,length_map->zAE,getElem_of_mem->zAG,foldl_cons->zAH,length_erase_of_mem->zAK,length_pos_of_mem->zAN,getElem_map->zAP,filter_cons->zAQ,mem_erase_of_ne->zAR,getD_eq_getElem?_getD->zAV,pairwise_map->zAW,all_eq_true->zAX,range_succ->zAZ,length->zBA,length_singleton->zBB,map_cons->zBD,nodup_append->zBK,countP_cons->zBL,any_eq_true->zBN,countP_nil->zBO,map_append->zBQ,length_nil->zBR,mem_range->zBS,take->zBT,drop->zBU,flatMap->zBW
open Bool renaming and_eq_true->zQ,not_eq_true'->zAM,true_and->zAO,eq_iff_iff->zAY,false_eq_true->zBG
open Int renaming le_refl->zS,lt_or_le->zT,natCast_zero->zU,eq_ofNat_of_zero_le->zAL,toNat_of_nonneg->zAS,le_trans->zBH,le_antisymm->zBP
open Classical renaming byContradiction->zV,choose_spec->zBZ,choose->zCA
open Go.Proofs.Tryz renaming prog->zZ
open And renaming intro->zBJ
open Go
namespace Go.Proofs.YtiejahgklcjhkaaGreatDoor
section
def yhi(g:Gr):Bool:=ygq g&&decide (ygf g/2+1=g.ports.length)
theorem ybty{α:Type}[DecidableEq α]:∀{l1 l2:List α},l1.Nodup->(∀x∈l1,x∈l2)->l2.length<=l1.length->∀x∈l2,x∈l1
 | [],l2,_,_,h,x,hx=>by
   have:l2=[]:=zO (by simpa using h)
   rw[this]at hx;exact absurd hx zL
 | a :: t,l2,hn,hs,h,x,hx=>by
   have hn:=List.nodup_cons.1 hn
   by_cases q:x=a
   .rw[q];exact zJ
   .refine zH _ (ybty (l2:=l2.erase a) hn.2 (fun y hy=>?_) ?_ x ((zAR q).2 hx))
    .refine(zAR fun e=>hn.1 (by rw[<-e];exact hy)).2 (hs y (zH _ hy))
    .rw[zAK (hs a zJ)];simp only[zM]at h;omega
structure TreeM(g:Gr):Prop where
 up:∀a v u,a<g.ports.length->adj g v u->(yci g a).getD u 0=(yci g a).getD v 0-1\/(yci g a).getD u 0=(yci g a).getD v 0+1
 one:∀a v u w,a<g.ports.length->adj g v u->adj g v w->(yci g a).getD u 0=(yci g a).getD v 0-1->(yci g a).getD w 0=(yci g a).getD v 0-1->u=w
theorem ydbc{g:Gr}(hg:ybg g)(hc:ygq g=true)(ht:ygf g<=2*(g.ports.length-1)):TreeM g:=by
 have key:∀a,a<g.ports.length->∃up:Nat->Nat,∀v u,adj g v u->(v≠a/\u=up v/\(yci g a).getD u 0=(yci g a).getD v 0-1)\/(yci g a).getD u 0=(yci g a).getD v 0+1:=fun a ha=>by
  have ex:∀v,v<g.ports.length->v≠a->∃u,adj g v u/\(yci g a).getD u 0=(yci g a).getD v 0-1:=fun v hv hne=>yzk hg hc ha hv hne
  obtain⟨up,hup⟩:∃up:Nat->Nat,∀v,v<g.ports.length->v≠a->adj g v (up v)/\(yci g a).getD (up v) 0=(yci g a).getD v 0-1:=by
   refine⟨fun v=>if h:v<g.ports.length/\v≠a then zCA (ex v h.1 h.2)else 0,fun v hv hne=>?_⟩
   simp only[dif_pos (show v<g.ports.length/\v≠a from⟨hv,hne⟩)]
   exact zBZ (ex v hv hne)
  let U:List (Nat×Nat):=((zF g.ports.length).erase a).map fun v=>(v,up v)
  let P:List (Nat×Nat):=(zF g.ports.length).flatMap fun v=>(g.ports.getD v []).map fun l=>(v,l.1.toNat)
  have hnd:((zF g.ports.length).erase a).Nodup:=List.nodup_range.erase a
  have mU:∀x y,(x,y)∈U↔x<g.ports.length/\x≠a/\y=up x:=fun x y=>by
   show(x,y)∈((zF g.ports.length).erase a).map (fun v=>(v,up v))↔_;rw[List.mem_map];constructor
   .rintro⟨v,hv,e⟩;cases e
    have hv:=(List.nodup_range.mem_erase_iff).1 hv;exact⟨List.mem_range.1 hv.2,hv.1,rfl⟩
   .rintro⟨h1,h2,rfl⟩;exact⟨x,(List.nodup_range.mem_erase_iff).2 ⟨h2,List.mem_range.2 h1⟩,rfl⟩
  have mP:∀x y,(x,y)∈P↔x<g.ports.length/\adj g x y:=fun x y=>by
   show(x,y)∈zBW _ _↔_;rw[List.mem_flatMap];constructor
   .rintro⟨v,hv,h⟩;obtain⟨l,hl,e⟩:=List.mem_map.1 h;cases e
    have hv:=List.mem_range.1 hv;exact⟨hv,(ydc hg hv hl).2.2.1⟩
   .rintro⟨h1,h2⟩;obtain⟨l,hl,e⟩:=yif h2;exact⟨x,List.mem_range.2 h1,List.mem_map.2 ⟨l,hl,by rw[e]⟩⟩
  have dU:∀x y,(x,y)∈U->(yci g a).getD y 0=(yci g a).getD x 0-1:=fun x y h=>by
   obtain⟨h1,h2,rfl⟩:=(mU x y).1 h;exact(hup x h1 h2).2
  have nU:U.Nodup:=by
   show(((zF g.ports.length).erase a).map (fun v=>(v,up v))).Nodup;rw[List.Nodup,zAW];exact hnd.imp fun h e=>h (congrArg Prod.fst e)
  have nD:(U.map fun p=>(p.2,p.1)).Nodup:=by
   rw[List.Nodup,zAW];exact nU.imp fun h e=>h (by simp only[Prod.mk.injEq]at e;exact Prod.ext e.2 e.1)
  have nUD:(U++U.map fun p=>(p.2,p.1)).Nodup:=by
   rw[zBK];refine⟨nU,nD,?_⟩;rintro⟨x,y⟩ h1 ⟨x',y'⟩ h2 e;cases e
   obtain⟨⟨p,q⟩,h3,e⟩:=List.mem_map.1 h2;cases e
   have a1:=dU _ _ h1;have a2:=dU _ _ h3;simp only at a1 a2;omega
  have lU:U.length=g.ports.length-1:=by
   show(List.map _ _).length=_;rw[zAE,zAK (List.mem_range.2 ha),List.length_range]
  have lP:P.length=ygf g:=by
   show(zBW _ _).length=_;rw[List.length_flatMap];unfold ygf;congr 1;refine List.ext_getElem (by simp) fun i h1 h2=>?_
   have hi:i<g.ports.length:=by simpa using h2
   simp[zAC,hi]
  have hall:=ybty nUD (l2:=P) (fun p hp=>by
   obtain⟨x,y⟩:=p;rcases List.mem_append.1 hp with h|h
   .obtain⟨h1,h2,rfl⟩:=(mU x y).1 h;exact(mP _ _).2 ⟨h1,(hup x h1 h2).1⟩
   .obtain⟨⟨p,q⟩,h3,e⟩:=List.mem_map.1 h;cases e
    obtain⟨h1,h2,e⟩:=(mU _ _).1 h3;simp only at e ⊢;subst e;have h4:=(hup p h1 h2).1;exact(mP _ _).2 ⟨(hg.adj_lt h4).2,hg.adj_symm h4⟩) (by have lD:(U.map fun p=>(p.2,p.1)).length=U.length:=zAE _;rw[zAD,lD,lU,lP];omega)
  refine⟨up,fun v u h=>?_⟩;have h1:=hall (v,u) ((mP v u).2 ⟨(hg.adj_lt h).1,h⟩);rcases List.mem_append.1 h1 with h|h
  .left
   obtain⟨_,h2,h3⟩:=(mU v u).1 h;exact⟨h2,h3,dU _ _ h⟩
  .right
   obtain⟨⟨p,q⟩,h3,e⟩:=List.mem_map.1 h;cases e
   have:=dU _ _ h3;simp only at this ⊢;omega
 constructor
 .intro a v u ha h;obtain⟨up,hup⟩:=key a ha;rcases hup v u h with⟨_,_,h3⟩|h3
  .exact .inl h3
  .exact .inr h3
 .intro a v u w ha h1 h2 e1 e2;obtain⟨up,hup⟩:=key a ha;rcases hup v u h1 with⟨_,h3,_⟩|h3
  .rcases hup v w h2 with⟨_,h4,_⟩|h4
   .rw[h3,h4]
   .omega
  .omega
end
section
def dP(g:Gr)(a v:Nat):Int:=(yci g a).getD v 0
structure Tr(g:Gr):Prop where
 good:ybg g
 conn:ygq g=true
 m:TreeM g
section
variable {g:Gr}{a b u v w x:Nat}
theorem Tr.self(h:Tr g)(ha:a<g.ports.length):dP g a a=0:=ybss h.good h.conn ha
theorem Tr.nonneg(h:Tr g)(ha:a<g.ports.length)(hv:v<g.ports.length):0<=dP g a v:=(ybvr h.good h.conn ha hv).1
theorem Tr.lt_n(h:Tr g)(ha:a<g.ports.length)(hv:v<g.ports.length):dP g a v<g.ports.length:=(ybvr h.good h.conn ha hv).2
theorem Tr.pos(h:Tr g)(ha:a<g.ports.length)(hv:v<g.ports.length)(hne:v≠a):1<=dP g a v:=ybxr h.good h.conn ha hv hne
theorem Tr.up(h:Tr g)(ha:a<g.ports.length)(hu:adj g v u):dP g a u=dP g a v-1\/dP g a u=dP g a v+1:=h.m.up a v u ha hu
theorem Tr.one(h:Tr g)(ha:a<g.ports.length)(hu:adj g v u)(hx:adj g v x)(e1:dP g a u=dP g a v-1)(e2:dP g a x=dP g a v-1):u=x:=h.m.one a v u x ha hu hx e1 e2
theorem Tr.back(h:Tr g)(ha:a<g.ports.length)(hv:v<g.ports.length)(hne:v≠a):∃u,adj g v u/\dP g a u=dP g a v-1:=yzk h.good h.conn ha hv hne
theorem Tr.adj1(h:Tr g)(hu:adj g v u):dP g v u=1:=by
 obtain⟨hv,hu'⟩:=h.good.adj_lt hu;have h1:=h.up hv hu;have h2:=h.self hv;have h3:=h.nonneg hv hu';omega
theorem Tr.ne(h:Tr g)(hu:adj g v u):v≠u:=fun e=>by
 subst e;have:=h.adj1 hu;have:=h.self (h.good.adj_lt hu).1;omega
def rchP(g:Gr)(v u:Nat):Int:=(zF g.ports.length).foldl (fun m w=>if dP g w u<dP g w v then max m (dP g w v)else m) 0
theorem yqv(f:Nat->Int)(p:Nat->Prop)[DecidablePred p]:∀(l:List Nat) (m:Int),m<=l.foldl (fun m w=>if p w then max m (f w)else m) m/\(∀w∈l,p w->f w<=l.foldl (fun m w=>if p w then max m (f w)else m) m)/\(l.foldl (fun m w=>if p w then max m (f w)else m) m=m\/∃w∈l,p w/\f w=l.foldl (fun m w=>if p w then max m (f w)else m) m)
 |[],m=>⟨zS _,fun w hw=>absurd hw zL,.inl rfl⟩
 | x :: l,m=>by
   obtain⟨h1,h2,h3⟩:=yqv f p l (if p x then max m (f x)else m)
   simp only[zAH];refine⟨?_,fun w hw hp=>?_,?_⟩
   .clear h2 h3
    have:m<=if p x then max m (f x)else m:=by split<;>omega
    omega
   .rcases List.mem_cons.1 hw with rfl|hw
    .rw[if_pos hp]at h1 ⊢;omega
    .exact h2 w hw hp
   .clear h2
    rcases h3 with h3|⟨w,hw,hp,e⟩
    .by_cases hp:p x
     .rw[if_pos hp]at h3 ⊢;rcases Int.le_total (f x) m with q|q
      .left;rw[h3];omega
      .right;exact⟨x,zJ,hp,by rw[h3];omega⟩
     .rw[if_neg hp]at h3 ⊢;exact .inl h3
    .exact .inr ⟨w,zH _ hw,hp,e⟩
theorem ybaf(hw:w<g.ports.length)(h:dP g w u<dP g w v):dP g w v<=rchP g v u :=
 (yqv (fun w=>dP g w v) (fun w=>dP g w u<dP g w v) (zF g.ports.length) 0).2.1 w (List.mem_range.2 hw) h
theorem Tr.rch_pos(h:Tr g)(hu:adj g v u):1<=rchP g v u:=by
 obtain⟨hv,hu'⟩:=h.good.adj_lt hu;have h1:=h.adj1 (h.good.adj_symm hu);have h2:=h.self hu';have:=ybaf (g:=g) (w:=u) (u:=u) (v:=v) hu' (by omega)
 omega
theorem Tr.rch_ex(h:Tr g)(hu:adj g v u):∃w,w<g.ports.length/\dP g w u<dP g w v/\dP g w v=rchP g v u:=by
 rcases(yqv (fun w=>dP g w v) (fun w=>dP g w u<dP g w v) (zF g.ports.length) 0).2.2 with e|⟨w,hw,hp,e⟩
 .have:=h.rch_pos hu;have e:rchP g v u=0:=e;omega
 .exact⟨w,List.mem_range.1 hw,hp,e⟩
theorem Tr.into(h:Tr g)(hu:adj g v u)(hx:adj g u x)(hne:x≠v)(hw:w<g.ports.length)(hs:dP g w x<dP g w u):dP g w u<dP g w v/\dP g w v=dP g w u+1:=by
 have h1:=h.up hw hx;have h2:=h.up hw (h.good.adj_symm hu);rcases h2 with h2|h2
 .exact absurd (h.one hw hx (h.good.adj_symm hu) (by omega) h2) hne
 .omega
theorem Tr.rch_step(h:Tr g)(hu:adj g v u)(hx:adj g u x)(hne:x≠v):1+rchP g u x<=rchP g v u:=by
 obtain⟨w,hw,h1,h2⟩:=h.rch_ex hx;obtain⟨h3,h4⟩:=h.into hu hx hne hw h1;have:=ybaf hw h3;omega
theorem Tr.rch_from(h:Tr g)(hu:adj g v u)(h2:2<=rchP g v u):∃x,adj g u x/\x≠v/\rchP g v u=1+rchP g u x:=by
 obtain⟨hv,hu'⟩:=h.good.adj_lt hu;obtain⟨w,hw,h3,h4⟩:=h.rch_ex hu;have h5:=h.up hw (h.good.adj_symm hu)
 have hne:w≠u:=fun e=>by
  subst e;have:=h.self hw;omega
 obtain⟨x,hx,h6⟩:=h.back hw hu' (fun e=>hne e.symm);have hxv:x≠v:=fun e=>by subst e;omega
 refine⟨x,hx,hxv,?_⟩;have a:=h.rch_step hu hx hxv;have b:=ybaf (g:=g) (u:=x) (v:=u) hw (by omega)
 omega
def step2(p:Int×Int)(a:Int):Int×Int:=if a>p.1 then(a,p.1)else(p.1,max p.2 a)
def top2(b:Int)(l:List Int):Int×Int:=l.foldl step2 (b,b)
theorem ybsj(b:Int)(l:List Int)(a:Int):top2 b (l++[a])=step2 (top2 b l) a:=by unfold top2;rw[zY];rfl
theorem yyr(b:Int)(l:List Int):∀k,k<=l.length->b<=(top2 b (l.take k)).2/\(top2 b (l.take k)).2<=(top2 b (l.take k)).1/\∀m,b<m->(m<=(top2 b (l.take k)).1↔1<=(l.take k).countP fun x=>decide (m<=x))/\(m<=(top2 b (l.take k)).2↔2<=(l.take k).countP fun x=>decide (m<=x))
 | 0,_=>by
   refine⟨zS _,zS _,fun m hm=>?_⟩;have e:(top2 b (l.take 0))=(b,b):=rfl;rw[e];simp only[List.take_zero,zBO];omega
 | k + 1,hk=>by
   obtain⟨h1,h2,h3⟩:=yyr b l k (by omega)
   rw[zI (show k<l.length by omega),ybsj]
   generalize l[k]=a
   have hc:∀m,(l.take k++[a]).countP (fun x=>decide (m<=x))=(l.take k).countP (fun x=>decide (m<=x))+if m<=a then 1 else 0:=fun m=>by
    rw[List.countP_append,zBL,zBO];simp
   generalize top2 b (l.take k)=P at *
   unfold step2;split
   .refine⟨by simp only;omega,by simp only;omega,fun m hm=>?_⟩
    obtain⟨h4,h5⟩:=h3 m hm;rw[hc];simp only;constructor
    .split<;>omega
    .split<;>omega
   .refine⟨by simp only;omega,by simp only;omega,fun m hm=>?_⟩
    obtain⟨h4,h5⟩:=h3 m hm;rw[hc];simp only;constructor
    .split<;>omega
    .split<;>omega
theorem ymz(b:Int)(l:List Int):b<=(top2 b l).2/\(top2 b l).2<=(top2 b l).1/\∀m,b<m->(m<=(top2 b l).1↔1<=l.countP fun x=>decide (m<=x))/\(m<=(top2 b l).2↔2<=l.countP fun x=>decide (m<=x)):=by
 have h:=yyr b l l.length (zG _)
 rwa [zAB]at h
theorem ybbf{p:Int×Int->Bool}:∀{ls:List (Int×Int)},(ls.map (·.1)).Nodup->(2<=ls.countP p↔∃a∈ls,∃b∈ls,a.1≠b.1/\p a=true/\p b=true)
 |[],_=>by simp
 | l :: ls,hn=>by
   have hn:=List.nodup_cons.1 hn;have ih:=ybbf (p:=p) hn.2
   have one:1<=ls.countP p↔∃a∈ls,p a=true:=by
    rw[Nat.one_le_iff_ne_zero,Nat.ne_zero_iff_zero_lt,List.countP_pos_iff]
   have hno:∀a∈ls,l.1≠a.1:=fun a ha e=>hn.1 (List.mem_map.2 ⟨a,ha,e.symm⟩);rw[zBL];constructor
   .intro h
    by_cases hp:p l=true
    .rw[if_pos hp]at h;obtain⟨a,ha,hpa⟩:=one.1 (by omega)
     exact⟨l,zJ,a,zH _ ha,hno a ha,hp,hpa⟩
    .rw[if_neg hp]at h;obtain⟨a,ha,b,hb,q⟩:=ih.1 (by omega)
     exact⟨a,zH _ ha,b,zH _ hb,q⟩
   .rintro⟨a,ha,b,hb,hab,hpa,hpb⟩;rcases List.mem_cons.1 ha with ea|ha
    .rcases List.mem_cons.1 hb with eb|hb
     .exact absurd (by rw[ea,eb]) hab
     .have:=one.2 ⟨b,hb,hpb⟩;rw[<-ea,if_pos hpa];omega
    .rcases List.mem_cons.1 hb with eb|hb
     .have:=one.2 ⟨a,ha,hpa⟩;rw[<-eb,if_pos hpb];omega
     .have:=ih.2 ⟨a,ha,b,hb,hab,hpa,hpb⟩;omega
theorem ykw(hg:ybg g)(hv:v<g.ports.length):((g.ports.getD v []).map (·.1)).Nodup:=by
 have h:=(hg.2.2.2.2.2.1 ⟨v,hv⟩).2;have e0:g.ports[v]=g.ports.getD v []:=by rw[Sh.getD_at hv]
 have h:((g.ports[v]).map (·.1)).Nodup:=h
 rwa [e0]at h
theorem ybnk(hg:ybg g)(hv:v<g.ports.length){f:Nat->Int}{m:Int}:2<=((g.ports.getD v []).map fun l=>f l.1.toNat).countP (fun x=>decide (m<=x))↔∃a b,adj g v a/\adj g v b/\a≠b/\m<=f a/\m<=f b:=by
 rw[List.countP_map,ybbf (ykw hg hv)];constructor
 .rintro⟨a,ha,b,hb,hne,hpa,hpb⟩;obtain⟨a1,_,a3,_⟩:=ydc hg hv ha;obtain⟨b1,_,b3,_⟩:=ydc hg hv hb;exact⟨_,_,a3,b3,by omega,of_decide_eq_true hpa,of_decide_eq_true hpb⟩
 .rintro⟨a,b,ha,hb,hne,hpa,hpb⟩;obtain⟨la,hla,ea⟩:=yif ha;obtain⟨lb,hlb,eb⟩:=yif hb;exact⟨la,hla,lb,hlb,fun e=>hne (by rw[<-ea,<-eb,e]),decide_eq_true (by show m<=f la.1.toNat;rw[ea];exact hpa),decide_eq_true (by show m<=f lb.1.toNat;rw[eb];exact hpb)⟩
def htP(g:Gr)(v:Nat):Int:=(top2 0 ((g.ports.getD v []).map fun l=>rchP g v l.1.toNat)).2
theorem yfy(g:Gr)(v:Nat):0<=htP g v:=(ymz 0 _).1
theorem ypx(hg:ybg g)(hv:v<g.ports.length){m:Int}(hm:1<=m):m<=htP g v↔∃a b,adj g v a/\adj g v b/\a≠b/\m<=rchP g v a/\m<=rchP g v b:=by
 rw[<-ybnk hg hv (f:=fun u=>rchP g v u)];exact((ymz 0 _).2.2 m (by omega)).2
theorem Tr.ht_step(h:Tr g)(hv:v<g.ports.length){m:Int}(hm:1<=m)(hd:∃a b,adj g v a/\adj g v b/\a≠b):m<=htP g v↔∃a b,adj g v a/\adj g v b/\a≠b/\m-1<=htP g a/\m-1<=htP g b:=by
 rw[ypx h.good hv hm]
 by_cases h1:m=1
 .subst h1;obtain⟨a,b,ha,hb,hne⟩:=hd;exact⟨fun _=>⟨a,b,ha,hb,hne,by have:=yfy g a;omega,by have:=yfy g b;omega⟩,fun _=>⟨a,b,ha,hb,hne,h.rch_pos ha,h.rch_pos hb⟩⟩
 have key:∀a b,adj g v a->adj g v b->a≠b->m<=rchP g v a->m<=rchP g v b->m-1<=htP g a:=fun a b ha hb hne ra rb=>by
  rw[ypx h.good (h.good.adj_lt ha).2 (by omega)]
  obtain⟨x,hx,hxv,e⟩:=h.rch_from ha (by omega)
  have s:=h.rch_step (h.good.adj_symm ha) hb (fun e=>hne e.symm);exact⟨v,x,h.good.adj_symm ha,hx,fun e=>hxv e.symm,by omega,by omega⟩
 have key2:∀a,adj g v a->m-1<=htP g a->m<=rchP g v a:=fun a ha hh=>by
  rw[ypx h.good (h.good.adj_lt ha).2 (by omega)]at hh
  obtain⟨x,y,hx,hy,hne,rx,ry⟩:=hh
  by_cases q:x=v
  .have s:=h.rch_step ha hy (fun e=>hne (by rw[q,e]))
   omega
  .have s:=h.rch_step ha hx q;omega
 constructor
 .rintro⟨a,b,ha,hb,hne,ra,rb⟩;exact⟨a,b,ha,hb,hne,key a b ha hb hne ra rb,key b a hb ha (fun e=>hne e.symm) rb ra⟩
 .rintro⟨a,b,ha,hb,hne,ra,rb⟩;exact⟨a,b,ha,hb,hne,key2 a ha ra,key2 b hb rb⟩
theorem Tr.thru(h:Tr g)(hw:w<g.ports.length):∀(k:Nat) (v u x:Nat),adj g v u->dP g w u=dP g w v+1->x<g.ports.length->dP g x u<dP g x v->(dP g x u).toNat<k->dP g w x=dP g w u+dP g x u
 |0,v,u,x,_,_,_,_,hk=>by omega
 | k + 1,v,u,x,hu,hwu,hx,hs,hk=>by
   obtain⟨hv,hu'⟩:=h.good.adj_lt hu
   by_cases e:x=u
   .subst e;rw[h.self hx];omega
   .obtain⟨y,hy,h1⟩:=h.back hx hu' (fun q=>e q.symm);have hyv:y≠v:=fun q=>by subst q;omega
    have h2:=h.up hw hy
    have hw1:dP g w y=dP g w u+1:=by
     rcases h2 with h2|h2
     .exact absurd (h.one hw hy (h.good.adj_symm hu) h2 (by omega)) hyv
     .exact h2
    have:=h.nonneg hx (h.good.adj_lt hy).2;have ih:=Tr.thru h hw k u y x hy hw1 hx (by omega) (by omega)
    omega
theorem Tr.apart(h:Tr g)(ha:adj g v a)(hb:adj g v b)(hne:a≠b)(hw:w<g.ports.length)(hx:x<g.ports.length)(h1:dP g w a<dP g w v)(h2:dP g x b<dP g x v):dP g w x=dP g w v+dP g x v:=by
 have a1:=h.up hw ha;have b1:=h.up hw hb;have b2:=h.up hx hb
 have hwb:dP g w b=dP g w v+1:=by
  rcases b1 with q|q
  .exact absurd (h.one hw ha hb (by omega) q) hne
  .exact q
 have:=h.thru hw _ v b x hb hwb hx h2 (zBM _);omega
end
end
section
def ybts:Ex:=.agg 28 (eQ 0)
def ybea:Ex:=.ite (.bin 37 (.leaf 9 0) (eNum 2)) (eNum 0) (.ite (.bin 37 ybts eN) (.bin 33 ybts (eNum 1)) eN)
def cnS(g:Gr)(c:Conf)(v:Nat):Int:=(top2 (-1073741824) ((g.ports.getD v []).map (endP c 0))).2
def cnV(g:Gr)(c:Conf)(v:Nat):Int:=if ((g.ports.getD v []).length:Int)<2 then 0 else if cnS g c v<(g.ids.length:Int)then cnS g c v+1 else(g.ids.length:Int)
section
variable {nm nh nr:ByteArray}{g:Gr}{c:Conf}{v:Nat}
theorem ydgr(g:Gr)(c:Conf)(v:Nat):-1073741824<=cnS g c v:=(ymz (-1073741824) _).1
theorem ybyu(g:Gr)(c:Conf)(v:Nat)(p:Int):ycs g c v ybts p=cnS g c v:=by
 show ygg 28 _=_;unfold ygg;rw[if_neg (by decide),if_neg (by decide),if_neg (by decide),if_neg (by decide),if_neg (by decide),if_neg (by decide),if_neg (by decide),if_neg (by decide),if_pos rfl]
 show(ydd _).2=_;unfold cnS;have e:∀l,ydd l=top2 (-1073741824) l:=fun l=>rfl;rw[e];congr 2;exact yrp g v _ _ fun q hq=>rfl
theorem ybgb(hg:ybg g)(p:Int):ycs g c v ybea p=cnV g c v:=by
 have h1:=hg.2.1;have h2:=hg.2.2.1;have h3:=ydgr g c v;show(if binP 37 ((g.ports.getD v []).length:Int) 2≠0 then 0 else if binP 37 (ycs g c v ybts p) (g.ids.length:Int)≠0 then satP (ycs g c v ybts p+1)else(g.ids.length:Int))=_
 rw[ybyu];have e3:∀a b:Int,binP 37 a b=ybs (decide (a<b)):=fun a b=>rfl;rw[e3,e3];unfold cnV;have tT:ybs true≠0:=by decide
 have tF:¬ybs false≠0:=by decide
 by_cases q:((g.ports.getD v []).length:Int)<2
 .rw[if_pos q,decide_eq_true q,if_pos tT]
 .rw[if_neg q,decide_eq_false q,if_neg tF]
  by_cases q2:cnS g c v<(g.ids.length:Int)
  .rw[if_pos q2,decide_eq_true q2,if_pos tT];unfold satP;omega
  .rw[if_neg q2,decide_eq_false q2,if_neg tF]
theorem Tr.ht_lt(h:Tr g)(hv:v<g.ports.length):htP g v<g.ports.length:=by
 rcases zT (htP g v) 1 with q|q
 .omega
 .obtain⟨a,b,ha,_,_,hr,_⟩:=(ypx h.good hv q).1 (zS _);obtain⟨w,hw,_,e⟩:=h.rch_ex ha;have:=h.lt_n hw hv;omega
theorem ysk(hg:ybg g)(hv:v<g.ports.length):2<=(g.ports.getD v []).length↔∃a b,adj g v a/\adj g v b/\a≠b:=by
 constructor
 .intro h;have m0:(g.ports.getD v [])[0]∈g.ports.getD v []:=zN _;have m1:(g.ports.getD v [])[1]∈g.ports.getD v []:=zN _;obtain⟨a1,_,a3,_⟩:=ydc hg hv m0;obtain⟨b1,_,b3,_⟩:=ydc hg hv m1;refine⟨_,_,a3,b3,fun e=>?_⟩;have hn:=ykw hg hv;have h0':0<((g.ports.getD v []).map (·.1)).length:=by rw[zAE];omega
  have h1':1<((g.ports.getD v []).map (·.1)).length:=by rw[zAE];omega
  have:=(List.getElem_inj (h₀:=h0') (h₁:=h1') hn).1 (by rw[zAP,zAP];omega)
  omega
 .rintro⟨a,b,ha,hb,hne⟩;obtain⟨la,hla,ea⟩:=yif ha;obtain⟨lb,hlb,eb⟩:=yif hb;obtain⟨i,hi,e1⟩:=zAG hla;obtain⟨j,hj,e2⟩:=zAG hlb
  have:i≠j:=fun e=>by
   subst e;rw[e1]at e2;exact hne (by rw[<-ea,<-eb,e2])
  omega
theorem Tr.cn_next(h:Tr g)(hv:v<g.ids.length)(r:Nat)(hall:∀u,u<g.ids.length->if htP g u<(r:Int)then(c.getD u []).getD 0 0=htP g u else(r:Int)<=(c.getD u []).getD 0 0) :
 if htP g v<((r+1:Nat):Int)then cnV g c v=htP g v else((r+1:Nat):Int)<=cnV g c v:=by
 have hpl:=h.good.2.2.1;have hvp:v<g.ports.length:=by omega
 have hlt:=h.ht_lt hvp;have h0:=yfy g v
 by_cases hd:2<=(g.ports.getD v []).length
 .have eV:cnV g c v=if cnS g c v<(g.ids.length:Int)then cnS g c v+1 else(g.ids.length:Int):=by unfold cnV;rw[if_neg (by omega)]
  rw[eV];have hd2:=(ysk h.good hvp).1 hd
  have agree:∀u (j:Int),u<g.ids.length->j<=r->(j<=(c.getD u []).getD 0 0↔j<=htP g u):=fun u j hu hj=>by
   have:=hall u hu;split at this
   .rw[this]
   .omega
  have key:∀m:Int,1<=m->m<=r+1->(m<=cnS g c v+1↔m<=htP g v):=fun m h1 h2=>by
   rw[h.ht_step hvp h1 hd2];have e:=((ymz (-1073741824) ((g.ports.getD v []).map (endP c 0))).2.2 (m-1) (by omega)).2
   have e2:=ybnk h.good hvp (f:=fun u=>(c.getD u []).getD 0 0) (m:=m-1);have e3:m<=cnS g c v+1↔m-1<=cnS g c v:=by omega
   rw[e3];refine e.trans (e2.trans ?_);constructor
   .rintro⟨a,b,ha,hb,hne,q1,q2⟩;exact⟨a,b,ha,hb,hne,(agree a _ (by have:=(h.good.adj_lt ha).2;omega) (by omega)).1 q1,(agree b _ (by have:=(h.good.adj_lt hb).2;omega) (by omega)).1 q2⟩
   .rintro⟨a,b,ha,hb,hne,q1,q2⟩;exact⟨a,b,ha,hb,hne,(agree a _ (by have:=(h.good.adj_lt ha).2;omega) (by omega)).2 q1,(agree b _ (by have:=(h.good.adj_lt hb).2;omega) (by omega)).2 q2⟩
  have h1:1<=htP g v:=by
   rw[h.ht_step hvp (zS 1) hd2];obtain⟨a,b,ha,hb,hne⟩:=hd2;exact⟨a,b,ha,hb,hne,by have:=yfy g a;omega,by have:=yfy g b;omega⟩
  by_cases hq:htP g v<((r+1:Nat):Int)
  .rw[if_pos hq];have k1:=(key (htP g v) h1 (by omega)).2 (zS _)
   have k2:¬htP g v+1<=cnS g c v+1:=fun q=>by
    have:=(key (htP g v+1) (by omega) (by omega)).1 q
    omega
   rw[if_pos (by omega)]
   omega
  .rw[if_neg hq];have k1:=(key (r+1) (by omega) (by omega)).2 (by omega)
   split<;>omega
 .have eV:cnV g c v=0:=by unfold cnV;rw[if_pos (by omega)]
  rw[eV]
  have:htP g v=0:=by
   rcases zT (htP g v) 1 with q|q
   .omega
   .obtain⟨a,b,ha,hb,hne,_⟩:=(ypx h.good hvp q).1 (zS _);exact absurd ((ysk h.good hvp).2 ⟨a,b,ha,hb,hne⟩) hd
  rw[this,if_pos (by omega)]
structure CnC(g:Gr)(c:Conf):Prop where
 len:c.length=g.ids.length
 row:∀v,v<g.ids.length->(c.getD v []).length=1/\(0<=(c.getD v []).getD 0 0/\(c.getD v []).getD 0 0<=g.ids.length)
theorem ydar(hg:ybg g)(hv:v<g.ids.length)(h0:∀u,u<g.ids.length->0<=(c.getD u []).getD 0 0):0<=cnV g c v/\cnV g c v<=g.ids.length:=by
 have hpl:=hg.2.2.1;unfold cnV;split
 .omega
 .rename_i q
  have:0<=cnS g c v:=by
   have e:=((ymz (-1073741824) ((g.ports.getD v []).map (endP c 0))).2.2 0 (by omega)).2
   refine e.2 ((ybnk hg (by omega) (f:=fun u=>(c.getD u []).getD 0 0) (m:=0)).2 ?_)
   obtain⟨a,b,ha,hb,hne⟩:=(ysk hg (v:=v) (by omega)).1 (by omega)
   exact⟨a,b,ha,hb,hne,h0 a (by have:=(hg.adj_lt ha).2;omega),h0 b (by have:=(hg.adj_lt hb).2;omega)⟩
  split<;>omega
end
end
section
section
variable {g:Gr}{a b u v w x:Nat}
def ytu(g:Gr)(v:Nat)(e:Int):Prop:=(∀w,w<g.ports.length->dP g w v<=e)/\∃w,w<g.ports.length/\dP g w v=e
theorem yut(hv:v<g.ports.length):∃e,ytu g v e:=by
 rcases(yqv (fun w=>dP g w v) (fun _=>True) (zF g.ports.length) (dP g v v))with⟨h1,h2,h3⟩;refine⟨_,fun w hw=>h2 w (List.mem_range.2 hw) trivial,?_⟩;rcases h3 with h3|⟨w,hw,_,e⟩
 .exact⟨v,hv,h3.symm⟩
 .exact⟨w,List.mem_range.1 hw,e⟩
theorem Tr.side(h:Tr g)(hu:adj g v u)(hw:w<g.ports.length):(dP g w u<dP g w v/\dP g w v=dP g w u+1)\/(dP g w v<dP g w u/\dP g w u=dP g w v+1):=by
 rcases h.up hw hu with q|q<;>omega
theorem Tr.link(h:Tr g)(hu:adj g v u){ev eu:Int}(he:ytu g v ev)(he':ytu g u eu) :
 ev=max (rchP g u v-1) (rchP g v u)/\eu=max (rchP g v u-1) (rchP g u v):=by
 have key:∀{v u:Nat}{ev:Int},adj g v u->ytu g v ev->ev=max (rchP g u v-1) (rchP g v u):=fun {v u ev} hu he=>by
  obtain⟨hv,hu'⟩:=h.good.adj_lt hu;obtain⟨e1,w,hw,e2⟩:=he
  have hle:ev<=max (rchP g u v-1) (rchP g v u):=by
   rcases h.side hu hw with⟨q,q2⟩|⟨q,q2⟩
   .have:=ybaf hw q;omega
   .have:=ybaf (u:=v) (v:=u) hw q;omega
  obtain⟨x,hx,x1,x2⟩:=h.rch_ex hu;obtain⟨y,hy,y1,y2⟩:=h.rch_ex (h.good.adj_symm hu);have a1:=e1 x hx;have a2:=e1 y hy;rcases h.side hu hy with⟨q,q2⟩|⟨q,q2⟩<;>omega
 exact⟨key hu he,key (h.good.adj_symm hu) he'⟩
theorem Tr.ht_link(h:Tr g)(hu:adj g v u):(rchP g u v-1<=rchP g v u->htP g v=rchP g u v-1)/\(rchP g v u<=rchP g u v-1->rchP g v u<=htP g v):=by
 obtain⟨hv,hu'⟩:=h.good.adj_lt hu;have p1:=h.rch_pos hu;have p2:=h.rch_pos (h.good.adj_symm hu);have from_:2<=rchP g u v->∃x,adj g v x/\x≠u/\rchP g u v=1+rchP g v x:=fun q=>h.rch_from (h.good.adj_symm hu) q;constructor
 .intro hq;refine zBP ?_ ?_
  .rcases zT (htP g v) 1 with q|q
   .omega
   .obtain⟨a,b,ha,hb,hne,r1,r2⟩:=(ypx h.good hv q).1 (zS _)
    by_cases e:a=u
    .have:=h.rch_step (h.good.adj_symm hu) hb (fun e2=>hne (by rw[e,e2]))
     omega
    .have:=h.rch_step (h.good.adj_symm hu) ha e;omega
  .rcases zT (rchP g u v) 2 with q|q
   .have:=yfy g v;omega
   .obtain⟨x,hx,hne,e⟩:=from_ q;exact(ypx h.good hv (by omega)).2 ⟨x,u,hx,hu,hne,by omega,by omega⟩
 .intro hq;obtain⟨x,hx,hne,e⟩:=from_ (by omega)
  exact(ypx h.good hv p1).2 ⟨x,u,hx,hu,hne,by omega,by omega⟩
theorem Tr.higher(h:Tr g)(hu:adj g v u){ev eu:Int}(he:ytu g v ev)(he':ytu g u eu):(htP g v<htP g u↔eu<ev)/\(htP g v=htP g u↔eu=ev):=by
 obtain⟨l1,l2⟩:=h.link hu he he';obtain⟨a1,a2⟩:=h.ht_link hu;obtain⟨b1,b2⟩:=h.ht_link (h.good.adj_symm hu);rcases Int.lt_trichotomy (rchP g v u) (rchP g u v)with q|q|q
 .have:=b1 (by omega)
  have:=a2 (by omega)
  omega
 .have:=a1 (by omega)
  have:=b1 (by omega)
  omega
 .have:=a1 (by omega)
  have:=b2 (by omega)
  omega
def Peak(g:Gr)(v:Nat):Prop:=∀u,adj g v u->htP g u<=htP g v
theorem Tr.peak_least(h:Tr g)(hp:Peak g v)(hv:v<g.ports.length)(hx:x<g.ports.length){ev ex:Int}(he:ytu g v ev)(he':ytu g x ex):ev<=ex/\(ex=ev->x≠v->dP g x v=1):=by
 by_cases e:x=v
 .subst e;obtain⟨q1,w,hw,q2⟩:=he;obtain⟨p1,y,hy,p2⟩:=he';have:=q1 y hy;have:=p1 w hw;exact⟨by omega,fun _ hne=>absurd rfl hne⟩
 .obtain⟨u,hu,hd⟩:=h.back hx hv (fun q=>e q.symm);obtain⟨eu,heu⟩:=yut (g:=g) (h.good.adj_lt hu).2;obtain⟨l1,l2⟩:=h.link hu he heu;have hh:=(h.higher hu he heu).1;have hle:=hp u hu;have hpos:=h.pos hx hv (fun q=>e q.symm)
  have hAB:rchP g v u<=rchP g u v:=by
   rcases zT (rchP g u v) (rchP g v u)with q|q
   .have:=hh.2 (by omega);omega
   .exact q
  obtain⟨y,hy,y1,y2⟩:=h.rch_ex (h.good.adj_symm hu);have far:dP g y x=dP g y u+dP g x u:=h.thru hy _ v u x hu (by rcases h.side hu hy with⟨q,_⟩|⟨_,q⟩<;>omega) hx (by omega) (zBM _)
  have:=he'.1 y hy;have hxu:=h.nonneg hx (h.good.adj_lt hu).2;exact⟨by omega,fun q _=>by omega⟩
theorem Tr.least_peak(h:Tr g)(hv:v<g.ports.length){ev:Int}(he:ytu g v ev)(hl:∀x ex,x<g.ports.length->ytu g x ex->ev<=ex):Peak g v:=fun u hu=>by
 obtain⟨eu,heu⟩:=yut (g:=g) (h.good.adj_lt hu).2;have h1:=(h.higher hu he heu).1;have h2:=hl u eu (h.good.adj_lt hu).2 heu;rcases zT (htP g v) (htP g u)with q|q
 .have:=h1.1 q;omega
 .exact q
theorem Tr.peaks_adj(h:Tr g)(hp:Peak g v)(hq:Peak g x)(hv:v<g.ports.length)(hx:x<g.ports.length)(hne:x≠v):dP g x v=1:=by
 obtain⟨ev,he⟩:=yut (g:=g) hv;obtain⟨ex,hex⟩:=yut (g:=g) hx;have a:=(h.peak_least hp hv hx he hex);have b:=(h.peak_least hq hx hv hex he);exact a.2 (by omega) hne
theorem Tr.adj_of(h:Tr g)(hv:v<g.ports.length)(hx:x<g.ports.length)(hd:dP g x v=1):adj g v x:=by
 have hne:v≠x:=fun e=>by subst e;have:=h.self hv;omega
 obtain⟨u,hu,hd2⟩:=h.back hx hv hne;have hu':=(h.good.adj_lt hu).2
 by_cases e:u=x
 .rw[<-e];exact hu
 .have:=h.pos hx hu' e;omega
theorem Tr.no_three(h:Tr g)(ha:Peak g a)(hb:Peak g b)(hx:Peak g x)(la:a<g.ports.length)(lb:b<g.ports.length)(lx:x<g.ports.length)(hab:a≠b)(hax:a≠x)(hbx:b≠x):False:=by
 have h1:=h.adj_of la lb (h.peaks_adj ha hb la lb (fun e=>hab e.symm));have h2:=h.peaks_adj ha hx la lx (fun e=>hax e.symm);have h3:=h.peaks_adj hb hx lb lx (fun e=>hbx e.symm);rcases h.up lx h1 with q|q<;>omega
theorem Tr.peak_eq(h:Tr g)(hp:Peak g v)(hu:adj g v u)(he:htP g u=htP g v):Peak g u:=by
 obtain⟨hv,hu'⟩:=h.good.adj_lt hu;obtain⟨ev,hev⟩:=yut (g:=g) hv;obtain⟨eu,heu⟩:=yut (g:=g) hu';have h1:=(h.higher hu hev heu).2.1 he.symm
 exact h.least_peak hu' heu fun x ex hx hex=>by
  have:=(h.peak_least hp hv hx hev hex).1;omega
theorem Tr.peak_ex(h:Tr g):∃v,v<g.ports.length/\Peak g v:=by
 have h0:0<g.ports.length:=by have:=h.good.1;omega
 have:∀n,n<=g.ports.length->0<n->∃v,v < n/\∀u,u<n->htP g u<=htP g v:=by
  intro n
  induction n with
  |zero=>intro _ h;omega
  | succ n ih =>
    intro hn _
    by_cases q:n=0
    .subst q;exact⟨0,by omega,fun u hu=>by have:u=0:=by omega
                                           subst this;exact zS _⟩
    .obtain⟨v,hv,hm⟩:=ih (by omega) (by omega)
     rcases zT (htP g v) (htP g n)with q2|q2
     .refine⟨n,by omega,fun u hu=>?_⟩
      by_cases e:u=n
      .subst e;exact zS _
      .have:=hm u (by omega);omega
     .refine⟨v,by omega,fun u hu=>?_⟩
      by_cases e:u=n
      .subst e;exact q2
      .exact hm u (by omega)
 obtain⟨v,hv,hm⟩:=this g.ports.length (zG _) h0;exact⟨v,hv,fun u hu=>hm u (h.good.adj_lt hu).2⟩
end
end
section
namespace Sh
section
variable {nm nd np nt nl:ByteArray}{g:Gr}
end
end Sh
end
section
def yddc(g:Gr)(s:Nat):Prop:=∀u v,adj g u v->s.testBit u=true->s.testBit v=false
def ResD(D:Nat->Prop)(res:Nat->Nat->Nat):Prop:=∀e w,e≠0->res e w≠0/\subB (res e w) e/\D (res e w)
theorem Sys.run_allD{S:Sys}{D:Nat->Prop}{res:Nat->Nat->Nat}(hr:ResD D res){J:Conf->Cnt->Prop}(hstep:∀c k s,J c k->s≠0->subB s (S.en c)->D s->J (S.mv c s) (addP k s (S.en (S.mv c s)))) :
 ∀(ws:List Nat) (c:Conf) (k:Cnt),J c k->∀p∈S.run res ws c k,J p.1 p.2
 |[],c,k,_,p,hp=>by cases hp
 | w :: ws,c,k,hJ,p,hp=>by
   unfold Sys.run at hp;split at hp
   .cases hp
   .rename_i h0
    obtain⟨r1,r2,r3⟩:=hr _ w h0;have hJ':=hstep c k _ hJ r1 r2 r3;rcases List.mem_cons.1 hp with e|e
    .rw[e];exact hJ'
    .exact Sys.run_allD hr hstep ws _ _ hJ' p e
theorem Sys.runs_allD{S:Sys}{D:Nat->Prop}{res:Nat->Nat->Nat}(hr:ResD D res){J:Conf->Cnt->Prop}(hstep:∀c k s,J c k->s≠0->subB s (S.en c)->D s->J (S.mv c s) (addP k s (S.en (S.mv c s)))){ws:List Nat}{c:Conf}(h:J c (ydi (S.en c))):∀p∈S.runs res ws c,J p.1 p.2:=fun p hp=>by
 rcases List.mem_cons.1 hp with e|e
 .rw[e];exact h
 .exact Sys.run_allD hr hstep ws _ _ h p e
theorem ResD.ok{D:Nat->Prop}{res:Nat->Nat->Nat}(h:ResD D res):yccr res:=fun e w h0=>⟨(h e w h0).1,(h e w h0).2.1⟩
structure ByRoundsC(S:Sys)(V:Conf->Prop)(D:Nat->Prop)(P:Nat->Nat->Conf->Prop):Prop where
 valid:∀c s,V c->s≠0->subB s (S.en c)->D s->V (S.mv c s)
 stay:∀c s v r r',r<=r'->r'<=r+1->V c->v<S.n->s.testBit v=false->subB s (S.en c)->D s->(∀u,u<S.n->P r u c)->P r' v c->P r' v (S.mv c s)
 move:∀c s v r,V c->v<S.n->s.testBit v=true->subB s (S.en c)->D s->(∀u,u<S.n->P r u c)->P (r+1) v (S.mv c s)
 rest:∀c v r,V c->v<S.n->(S.en c).testBit v=false->(∀u,u<S.n->P r u c)->P (r+1) v c
 less:∀r v c,P (r+1) v c->P r v c
structure RInvC(S:Sys)(V:Conf->Prop)(P:Nat->Nat->Conf->Prop)(c:Conf)(k:Cnt):Prop where
 valid:V c
 all:∀v,v<S.n->P k.rounds v c
 done:∀v,v<S.n->k.pend.testBit v=false->P (k.rounds+1) v c
 begun:k.begun<=k.rounds+1
section
variable {S:Sys}{V:Conf->Prop}{D:Nat->Prop}{P:Nat->Nat->Conf->Prop}
theorem ByRoundsC.start(h:ByRoundsC S V D P){c:Conf}(hv:V c)(h0:∀v,v<S.n->P 0 v c):RInvC S V P c (ydi (S.en c)) :=
 ⟨hv,h0,fun v hn hb=>h.rest c v 0 hv hn hb h0,by simp[ydi]⟩
theorem ByRoundsC.step(h:ByRoundsC S V D P)(c:Conf)(k:Cnt)(s:Nat)(hi:RInvC S V P c k)(h0:s≠0)(hs:subB s (S.en c))(hD:D s):RInvC S V P (S.mv c s) (addP k s (S.en (S.mv c s))):=by
 obtain⟨i1,i2,i3,i4⟩:=hi;have hv:=h.valid c s i1 h0 hs hD
 have hall:∀v,v<S.n->P k.rounds v (S.mv c s):=fun v hn=>by
  cases hb:s.testBit v with
  |true=>exact h.less _ _ _ (h.move c s v _ i1 hn hb hs hD i2)
  |false=>exact h.stay c s v _ _ (zG _) (zBY _) i1 hn hb hs hD i2 (i2 v hn)
 have hnext:∀v,v<S.n->(difB k.pend s&&&S.en (S.mv c s)).testBit v=false->P (k.rounds+1) v (S.mv c s):=fun v hn hb=>by
  rw[Nat.testBit_and,ygw]at hb;cases hb1:s.testBit v with
  |true=>exact h.move c s v _ i1 hn hb1 hs hD i2
  | false =>
    cases hb2:k.pend.testBit v with
    |false=>exact h.stay c s v _ _ (zBY _) (zG _) i1 hn hb1 hs hD i2 (i3 v hn hb2)
    | true =>
      rw[hb1,hb2]at hb;exact h.rest _ v _ hv hn (by simpa using hb) hall
 unfold addP;simp only
 by_cases hp:difB k.pend s&&&S.en (S.mv c s)=0
 .simp only[if_pos hp];have hall':∀v,v<S.n->P (k.rounds+1) v (S.mv c s):=fun v hn=>hnext v hn (by rw[hp];simp)
  exact⟨hv,hall',fun v hn hb=>h.rest _ v _ hv hn hb hall',by show k.rounds+1<=_;simp⟩
 .simp only[if_neg hp];exact⟨hv,hall,hnext,zG _⟩
theorem ByRoundsC.runs(h:ByRoundsC S V D P){res:Nat->Nat->Nat}(hr:ResD D res){ws:List Nat}{c:Conf}(hv:V c)(h0:∀v,v<S.n->P 0 v c):∀p∈S.runs res ws c,RInvC S V P p.1 p.2 :=
 Sys.runs_allD hr (fun c k s=>h.step c k s) (h.start hv h0)
theorem ByRoundsC.silent(h:ByRoundsC S V D P){c:Conf}(hv:V c)(h0:∀v,v<S.n->P 0 v c)(he:S.en c=0):∀r v,v<S.n->P r v c
 |0,v,hn=>h0 v hn
 |r+1,v,hn=>h.rest c v r hv hn (by rw[he];simp) (ByRoundsC.silent h hv h0 he r)
end
end
section
def ycrr:Ex:=.bin 41 (eVar 1) (.un 19 (.agg 20 (.bin 38 (eQ 0) (eVar 0))))
def yceu:Ex:=.bin 41 (.un 19 (eVar 1)) (.agg 20 (.bin 37 (eQ 0) (eVar 0)))
def ydcq:Ex:=.bin 41 (.bin 41 (.bin 37 (eVar 0) eN) (.agg 20 (.bin 38 (eQ 0) (eVar 0)))) (.agg 21 (.bin 41 (.bin 35 (eQ 0) (eVar 0)) (.bin 35 (eQ 1) (eVar 1))))
def ybj(nm h l f d t i:ByteArray):ProgT:=⟨nm,[⟨h,1,0,0,1,0⟩,⟨l,2,0,0,0,0⟩],[⟨f,.bin 36 (eVar 0) ybea,[(0,ybea)]⟩,⟨d,ycrr,[(1,.leaf 3 0)]⟩,⟨t,yceu,[(1,.leaf 2 0)]⟩,⟨i,ydcq,[(1,.un 19 (eVar 1))]⟩]⟩
theorem count_filter(f:Int×Int->Bool)(ls:List (Int×Int)):countP (ls.map fun l=>ybs (f l))=((ls.filter f).length:Int):=by
 unfold countP
 induction ls with
 |nil=>rfl
 | cons l ls ih =>
   cases h:f l with
   | false =>
     rw[zBD,zAQ,zAQ,h];have e:((ybs false != 0)=true)=False:=by simp[ybs]
     simp only[e,if_false,zBG];exact ih
   | true =>
     rw[zBD,zAQ,zAQ,h];have e:((ybs true != 0)=true)=True:=by simp[ybs]
     simp only[e,if_true,zM];omega
theorem ybyd(f:Int×Int->Bool)(ls:List (Int×Int)):ygg 20 (ls.map fun l=>ybs (f l))=ybs (ls.all f):=by
 show ybs (countP _==((zBA (ls.map _):Nat):Int))=_;rw[count_filter,zAE];congr 1;rw[zAY,beq_iff_eq,zAX];constructor
 .intro h l hl;have h:(ls.filter f).length=ls.length:=by omega
  exact List.length_filter_eq_length_iff.1 h l hl
 .intro h;have:(ls.filter f).length=ls.length:=List.length_filter_eq_length_iff.2 h;omega
theorem ybmp(f:Int×Int->Bool)(ls:List (Int×Int)):ygg 21 (ls.map fun l=>ybs (f l))=ybs (ls.any f):=by
 show ybs (decide (countP _>0))=_;rw[count_filter];congr 1;rw[zAY,decide_eq_true_iff,zBN];constructor
 .intro h;have h:0<(ls.filter f).length:=by omega
  obtain⟨l,hl⟩:=List.exists_mem_of_length_pos h;exact⟨l,(List.mem_filter.1 hl).1,(List.mem_filter.1 hl).2⟩
 .rintro⟨l,hl,hf⟩;have:=zAN (List.mem_filter.2 ⟨hl,hf⟩);omega
def hAt(c:Conf)(v:Nat):Int:=(c.getD v []).getD 0 0
def lAt(c:Conf)(v:Nat):Int:=(c.getD v []).getD 1 0
section
variable {nm nh nl nf nd nt ni:ByteArray}{g:Gr}{c:Conf}{u v w:Nat}
def ynj(g:Gr)(c:Conf)(v:Nat):Prop:=lAt c v=1/\∃u,adj g v u/\hAt c v<hAt c u
def ynw(g:Gr)(c:Conf)(v:Nat):Prop:=lAt c v=0/\∀u,adj g v u->hAt c u<hAt c v
def gTie(g:Gr)(c:Conf)(v:Nat):Prop:=hAt c v<(g.ids.length:Int)/\(∀u,adj g v u->hAt c u<=hAt c v)/\∃u,adj g v u/\hAt c u=hAt c v/\lAt c u=lAt c v
structure ElC(g:Gr)(c:Conf):Prop where
 len:c.length=g.ids.length
 row:∀v,v<g.ids.length->(c.getD v []).length=2/\(0<=hAt c v/\hAt c v<=g.ids.length)/\(lAt c v=0\/lAt c v=1)
theorem bTB{x:ByteArray}:ybi g v ⟨x,2,0,0,0,0⟩=(0,1):=by
 show(if (2:Int)=1 then _ else if (2:Int)=2 then _ else _)=_
 rw[if_neg (by decide),if_pos rfl]
theorem yje(hc:ygr (ybj nm nh nl nf nd nt ni) g c=true):ElC g c:=by
 have h:=(yel _ _ _).1 hc;refine⟨h.1,fun v hv=>?_⟩;have hlt:v<c.length:=by rw[h.1];exact hv
 have e:c.getD v []=c[v]:=by simp[zAC,hlt]
 have h2:=h.2 v _ (zK hlt);unfold hAt lAt;rw[e];have hl:c[v].length=2:=h2.1;have a0:(ybi g v ⟨nh,1,0,0,1,0⟩).1<=c[v][0]/\c[v][0]<=(ybi g v ⟨nh,1,0,0,1,0⟩).2:=h2.2 0 _ _ rfl (zK (by omega))
 have a1:(ybi g v ⟨nl,2,0,0,0,0⟩).1<=c[v][1]/\c[v][1]<=(ybi g v ⟨nl,2,0,0,0,0⟩).2:=h2.2 1 _ _ rfl (zK (by omega))
 have e0:c[v].getD 0 0=c[v][0]:=by simp[zAC,hl]
 have e1:c[v].getD 1 0=c[v][1]:=by simp[zAC,hl]
 rw[e0,e1];rw[bT1]at a0;rw[bTB]at a1;simp only at a0 a1;exact⟨hl,⟨by omega,by omega⟩,by omega⟩
theorem yblz(hg:ybg g)(hv:v<g.ports.length){f:Nat->Bool}:(g.ports.getD v []).all (fun l=>f l.1.toNat)=true↔∀u,adj g v u->f u=true:=by
 rw[zAX];constructor
 .intro h u hu;obtain⟨l,hl,e⟩:=yif hu;rw[<-e];exact h l hl
 .intro h l hl;exact h _ (ydc hg hv hl).2.2.1
theorem ydbl(hg:ybg g)(hv:v<g.ports.length){f:Nat->Bool}:(g.ports.getD v []).any (fun l=>f l.1.toNat)=true↔∃u,adj g v u/\f u=true:=by
 rw[zBN];constructor
 .rintro⟨l,hl,hf⟩;exact⟨_,(ydc hg hv hl).2.2.1,hf⟩
 .rintro⟨u,hu,hf⟩;obtain⟨l,hl,e⟩:=yif hu;exact⟨l,hl,by rw[e];exact hf⟩
theorem ybpm(hg:ybg g)(h:ElC g c)(hv:v<g.ids.length) :
 (yjc g c v ⟨nf,.bin 36 (eVar 0) ybea,[(0,ybea)]⟩=true↔hAt c v≠cnV g c v) /\
 (yjc g c v ⟨nd,ycrr,[(1,.leaf 3 0)]⟩=true↔ynj g c v) /\
 (yjc g c v ⟨nt,yceu,[(1,.leaf 2 0)]⟩=true↔ynw g c v) /\
 (yjc g c v ⟨ni,ydcq,[(1,.un 19 (eVar 1))]⟩=true↔gTie g c v):=by
 have hvp:v<g.ports.length:=by have:=hg.2.2.1;omega
 have hl:=(h.row v hv).2.2;have b36:∀a b:Int,binP 36 a b=ybs (a != b):=fun a b=>rfl;have b37:∀a b:Int,binP 37 a b=ybs (decide (a<b)):=fun a b=>rfl;have b38:∀a b:Int,binP 38 a b=ybs (decide (a<=b)):=fun a b=>rfl;have b35:∀a b:Int,binP 35 a b=ybs (a==b):=fun a b=>rfl;have b41:∀a b:Bool,binP 41 (ybs a) (ybs b)=ybs (a&&b):=fun a b=>by cases a<;>cases b<;>rfl
 have u19:∀a:Bool,unP 19 (ybs a)=ybs (!a):=fun a=>by cases a<;>rfl
 have e1:ycs g c v (eVar 1) (-1)=ybs (lAt c v==1):=by
  show lAt c v=_;rcases hl with q|q<;>rw[q]<;>rfl
 have aggA:∀(f:Nat->Bool) (x:Ex),(∀q:Nat,q<(g.ports.getD v []).length->ycs g c v x q=ybs (f (ych g v q).1.toNat))->ycs g c v (.agg 20 x) (-1)=ybs ((g.ports.getD v []).all fun l=>f l.1.toNat):=fun f x hx=>by
  rw[<-ybyd];show ygg 20 _=_;congr 1;exact yrp g v _ _ fun q hq=>hx q hq
 have aggS:∀(f:Nat->Bool) (x:Ex),(∀q:Nat,q<(g.ports.getD v []).length->ycs g c v x q=ybs (f (ych g v q).1.toNat))->ycs g c v (.agg 21 x) (-1)=ybs ((g.ports.getD v []).any fun l=>f l.1.toNat):=fun f x hx=>by
  rw[<-ybmp];show ygg 21 _=_;congr 1;exact yrp g v _ _ fun q hq=>hx q hq
 have a1:=aggA (fun u=>decide (hAt c u<=hAt c v)) (.bin 38 (eQ 0) (eVar 0)) fun q hq=>rfl;have a2:=aggA (fun u=>decide (hAt c u<hAt c v)) (.bin 37 (eQ 0) (eVar 0)) fun q hq=>rfl
 have a3:=aggS (fun u=>(hAt c u==hAt c v)&&(lAt c u==lAt c v)) (.bin 41 (.bin 35 (eQ 0) (eVar 0)) (.bin 35 (eQ 1) (eVar 1))) fun q hq=>by
  show binP 41 (binP 35 _ _) (binP 35 _ _)=_;rw[b35,b35,b41];rfl
 refine⟨?_,?_,?_,?_⟩
 .show(binP 36 (hAt c v) (ycs g c v ybea (-1))!=0)=true↔_;rw[ybgb hg,b36,ymn,bne_iff_ne]
 .show(binP 41 (ycs g c v (eVar 1) (-1)) (unP 19 (ycs g c v (.agg 20 (.bin 38 (eQ 0) (eVar 0))) (-1)))!=0)=true↔_;rw[e1,a1,u19,b41,ymn,zQ,beq_iff_eq,zAM];unfold ynj;refine and_congr_right fun _=>?_;rw[Bool.eq_false_iff,Ne,yblz hg hvp (f:=fun u=>decide (hAt c u<=hAt c v))];constructor
  .intro hq;refine zV fun hn=>hq fun u hu=>decide_eq_true ?_;rcases zT (hAt c v) (hAt c u)with q|q
   .exact absurd ⟨u,hu,q⟩ hn
   .exact q
  .rintro⟨u,hu,q⟩ hq;have:=of_decide_eq_true (hq u hu);omega
 .show(binP 41 (unP 19 (ycs g c v (eVar 1) (-1))) (ycs g c v (.agg 20 (.bin 37 (eQ 0) (eVar 0))) (-1))!=0)=true↔_;rw[e1,a2,u19,b41,ymn,zQ,yblz hg hvp (f:=fun u=>decide (hAt c u<hAt c v))];unfold ynw;refine and_congr ?_ ?_
  .rcases hl with q|q<;>rw[q]<;>decide
  .exact forall_congr' fun u=>forall_congr' fun hu=>decide_eq_true_iff
 .show(binP 41 (binP 41 (binP 37 (hAt c v) (g.ids.length:Int)) (ycs g c v (.agg 20 (.bin 38 (eQ 0) (eVar 0))) (-1))) (ycs g c v (.agg 21 (.bin 41 (.bin 35 (eQ 0) (eVar 0)) (.bin 35 (eQ 1) (eVar 1)))) (-1))!=0)=true↔_;rw[a1,a3,b37,b41,b41,ymn,zQ,zQ,yblz hg hvp (f:=fun u=>decide (hAt c u<=hAt c v)),ydbl hg hvp (f:=fun u=>(hAt c u==hAt c v)&&(lAt c u==lAt c v)),decide_eq_true_iff];unfold gTie;rw[and_assoc]
  refine and_congr_right fun _=>and_congr ?_ ?_
  .exact forall_congr' fun u=>forall_congr' fun hu=>decide_eq_true_iff
  .refine exists_congr fun u=>and_congr_right fun _=>?_;rw[zQ,beq_iff_eq,beq_iff_eq]
open Classical in
noncomputable def yko(g:Gr)(c:Conf)(v:Nat):Int:=if hAt c v≠cnV g c v then 0 else if ynj g c v then 1 else if ynw g c v then 2 else if gTie g c v then 3 else -1
theorem ybtc(hg:ybg g)(h:ElC g c)(hv:v<g.ids.length):ygs (ybj nm nh nl nf nd nt ni) g c v=yko g c v:=by
 obtain⟨h1,h2,h3,h4⟩:=ybpm (nf:=nf) (nd:=nd) (nt:=nt) (ni:=ni) hg h hv;unfold ygs ybj yko;simp only[List.findIdx?_cons,List.findIdx?_nil]
 by_cases q1:hAt c v≠cnV g c v
 .rw[if_pos q1,h1.2 q1];rfl
 .rw[if_neg q1,Bool.eq_false_iff.2 fun e=>q1 (h1.1 e)]
  by_cases q2:ynj g c v
  .rw[if_pos q2,h2.2 q2];rfl
  .rw[if_neg q2,Bool.eq_false_iff.2 fun e=>q2 (h2.1 e)]
   by_cases q3:ynw g c v
   .rw[if_pos q3,h3.2 q3];rfl
   .rw[if_neg q3,Bool.eq_false_iff.2 fun e=>q3 (h3.1 e)]
    by_cases q4:gTie g c v
    .rw[if_pos q4,h4.2 q4];rfl
    .rw[if_neg q4,Bool.eq_false_iff.2 fun e=>q4 (h4.1 e)];rfl
theorem ycvi(hg:ybg g)(h:ElC g c)(hv:v<g.ids.length)(hen:yko g c v ≠ -1) :
 ∃ s,yyh (ybj nm nh nl nf nd nt ni) g c v (ygs (ybj nm nh nl nf nd nt ni) g c v).toNat=s/\s.getD 0 0=cnV g c v /\
   ((hAt c v≠cnV g c v/\s.getD 1 0=lAt c v)\/(hAt c v=cnV g c v/\((ynj g c v/\s.getD 1 0=0)\/(ynw g c v/\s.getD 1 0=1)\/(gTie g c v/\s.getD 1 0=1-lAt c v)))):=by
 rw[ybtc hg h hv];obtain⟨h2,h3,h4⟩:=h.row v hv
 obtain⟨x,y,hxy⟩:∃x y,c.getD v []=[x,y]:=by
  match hq:c.getD v [],h2 with
  |[x,y],_=>exact⟨x,y,rfl⟩
 have hx:hAt c v=x:=by unfold hAt;rw[hxy];rfl
 have hy:lAt c v=y:=by unfold lAt;rw[hxy];rfl
 obtain⟨b1,b2⟩:=ydar hg hv fun u hu=>(h.row u hu).2.1.1;refine⟨_,rfl,?_⟩;unfold yyh ynt;rw[hxy]
 have br:∀z:Int,0<=z/\z<=1->yez 2 (ybi g v ⟨nl,2,0,0,0,0⟩) z=z:=fun z hz=>by
  unfold yez;rw[bTB,if_pos ⟨hz.1,hz.2⟩]
 unfold yko at hen ⊢
 by_cases q1:hAt c v≠cnV g c v
 .rw[if_pos q1];show([yez 1 (ybi g v ⟨nh,1,0,0,1,0⟩) (ycs g c v ybea (-1)),y]:List Int).getD 0 0=_/\_;rw[ybgb hg];refine⟨?_,.inl ⟨q1,hy.symm⟩⟩;show yez 1 (ybi g v ⟨nh,1,0,0,1,0⟩) (cnV g c v)=_;unfold yez;rw[bT1,if_pos (by simp only;omega)]
 .have q1':hAt c v=cnV g c v:=Classical.not_not.1 q1;rw[if_neg q1]at hen ⊢
  by_cases q2:ynj g c v
  .rw[if_pos q2];show([x,yez 2 (ybi g v ⟨nl,2,0,0,0,0⟩) 0]:List Int).getD 0 0=_/\_;refine⟨by rw[<-q1',hx];rfl,.inr ⟨q1',.inl ⟨q2,?_⟩⟩⟩
   exact br 0 (by omega)
  .rw[if_neg q2]at hen ⊢
   by_cases q3:ynw g c v
   .rw[if_pos q3];show([x,yez 2 (ybi g v ⟨nl,2,0,0,0,0⟩) 1]:List Int).getD 0 0=_/\_;refine⟨by rw[<-q1',hx];rfl,.inr ⟨q1',.inr (.inl ⟨q3,?_⟩)⟩⟩
    exact br 1 (by omega)
   .rw[if_neg q3]at hen ⊢
    by_cases q4:gTie g c v
    .rw[if_pos q4];show([x,yez 2 (ybi g v ⟨nl,2,0,0,0,0⟩) (unP 19 (ycs g c v (eVar 1) (-1)))]:List Int).getD 0 0=_/\_;refine⟨by rw[<-q1',hx];rfl,.inr ⟨q1',.inr (.inr ⟨q4,?_⟩)⟩⟩
     have e:unP 19 (ycs g c v (eVar 1) (-1))=1-lAt c v:=by
      show ybs (lAt c v==0)=_;rcases h4 with q|q<;>rw[q]<;>rfl
     show yez 2 _ (unP 19 (ycs g c v (eVar 1) (-1)))=_;rw[e];exact br _ (by omega)
    .rw[if_neg q4]at hen;exact absurd rfl hen
end
end
section
structure Stab(g:Gr)(c:Conf)(v:Nat):Prop where
 low:¬Peak g v->lAt c v=0
 one:Peak g v->(∀u,adj g v u->htP g u<htP g v)->lAt c v=1
 two:Peak g v->∀u,adj g v u->htP g u=htP g v->lAt c u≠lAt c v
def yfv(g:Gr)(c:Conf):Prop:=∀v,v<g.ids.length->hAt c v=htP g v
section
variable {nm nh nl nf nd nt ni:ByteArray}{g:Gr}{c:Conf}{u v w s:Nat}
theorem ybex(hg:ybg g):Sh.ybbs (ybj nm nh nl nf nd nt ni) g=true:=by
 have h1:=hg.1;have h2:=hg.2.1;have h3:=hg.2.2.1;simp[Sh.ybbs,ybj,ybi];omega
theorem ydeu:(ybj nm nh nl nf nd nt ni).ok=true:=by kernel_rfl
theorem ycdg(hg:ybg g)(h:ElC g c)(hv:v<g.ids.length):(ybk (ybj nm nh nl nf nd nt ni) g c).testBit v=false↔yko g c v = -1:=by
 unfold ybk;rw[ylu,ybtc hg h hv,decide_eq_true hv,zAO,decide_eq_false_iff_not];unfold yko;split
 .omega
 .split
  .omega
  .split
   .omega
   .split<;>omega
theorem yvr(h:ElC g c)(hv:v<g.ids.length)(hb:s.testBit v=false):(ydk (ybj nm nh nl nf nd nt ni) g c s).getD v []=c.getD v []:=by
 rw[Sh.ymq _ g c s (by rw[h.len];exact hv),hb]
 rfl
theorem ywd(hg:ybg g)(h:ElC g c)(hv:v<g.ids.length)(hb:s.testBit v=true)(hs:subB s (ybk (ybj nm nh nl nf nd nt ni) g c)) :
 hAt (ydk (ybj nm nh nl nf nd nt ni) g c s) v=cnV g c v /\
  ((hAt c v≠cnV g c v/\lAt (ydk (ybj nm nh nl nf nd nt ni) g c s) v=lAt c v)\/(hAt c v=cnV g c v/\((ynj g c v/\lAt (ydk (ybj nm nh nl nf nd nt ni) g c s) v=0)\/(ynw g c v/\lAt (ydk (ybj nm nh nl nf nd nt ni) g c s) v=1)\/(gTie g c v/\lAt (ydk (ybj nm nh nl nf nd nt ni) g c s) v=1-lAt c v)))):=by
 have hen:yko g c v ≠ -1:=fun e=>by
  have:=(ycdg (nm:=nm) (nh:=nh) (nl:=nl) (nf:=nf) (nd:=nd) (nt:=nt) (ni:=ni) hg h hv).2 e;rw[hs v hb]at this;cases this
 obtain⟨t,e1,e2,e3⟩:=ycvi (nm:=nm) (nh:=nh) (nl:=nl) (nf:=nf) (nd:=nd) (nt:=nt) (ni:=ni) hg h hv hen
 have e:(ydk (ybj nm nh nl nf nd nt ni) g c s).getD v []=t:=by
  rw[Sh.ymq _ g c s (by rw[h.len];exact hv),hb,if_pos rfl]
  exact e1
 unfold hAt at *;unfold lAt at *;rw[e];exact⟨e2,e3⟩
theorem ybtx(hg:ybg g)(h:ElC g c)(hv:v<g.ids.length)(hb:(ybk (ybj nm nh nl nf nd nt ni) g c).testBit v=false):hAt c v=cnV g c v/\¬ynj g c v/\¬ynw g c v/\¬gTie g c v:=by
 have e:=(ycdg hg h hv).1 hb;unfold yko at e
 by_cases q1:hAt c v≠cnV g c v
 .rw[if_pos q1]at e;omega
 .rw[if_neg q1]at e
  by_cases q2:ynj g c v
  .rw[if_pos q2]at e;omega
  .rw[if_neg q2]at e
   by_cases q3:ynw g c v
   .rw[if_pos q3]at e;omega
   .rw[if_neg q3]at e
    by_cases q4:gTie g c v
    .rw[if_pos q4]at e;omega
    .exact⟨Classical.not_not.1 q1,q2,q3,q4⟩
theorem ypg(h:Tr g)(hH:yfv g c)(hv:v<g.ids.length):cnV g c v=htP g v:=by
 have:=h.cn_next (c:=c) hv 100 fun u hu=>by
  have:=h.ht_lt (v:=u) (by have:=h.good.2.2.1;omega)
  have:=h.good.2.1;rw[if_pos (by omega)]
  exact hH u hu
 have h2:=h.ht_lt (v:=v) (by have:=h.good.2.2.1;omega)
 have h3:=h.good.2.1;rw[if_pos (by omega)]at this
 exact this
theorem yoz(hg:ybg g)(hH:yfv g c)(hv:v<g.ids.length):ynj g c v↔lAt c v=1/\¬Peak g v:=by
 have hpl:=hg.2.2.1;unfold ynj Peak;refine and_congr_right fun _=>?_;constructor
 .rintro⟨u,hu,q⟩ hp;rw[hH v hv,hH u (by have:=(hg.adj_lt hu).2;omega)]at q
  have:=hp u hu;omega
 .intro hp;refine zV fun hn=>hp fun u hu=>?_;rcases zT (htP g v) (htP g u)with q|q
  .exact absurd ⟨u,hu,by rw[hH v hv,hH u (by have:=(hg.adj_lt hu).2;omega)];exact q⟩ hn
  .exact q
theorem yod(hg:ybg g)(hH:yfv g c)(hv:v<g.ids.length):ynw g c v↔lAt c v=0/\∀u,adj g v u->htP g u<htP g v:=by
 have hpl:=hg.2.2.1;unfold ynw;refine and_congr_right fun _=>forall_congr' fun u=>forall_congr' fun hu=>?_;rw[hH v hv,hH u (by have:=(hg.adj_lt hu).2;omega)]
theorem ysa(h:Tr g)(hH:yfv g c)(hv:v<g.ids.length):gTie g c v↔Peak g v/\∃u,adj g v u/\htP g u=htP g v/\lAt c u=lAt c v:=by
 have hg:=h.good;have hpl:=hg.2.2.1;have hlt:=h.ht_lt (v:=v) (by omega)
 unfold gTie Peak;rw[hH v hv];constructor
 .rintro⟨_,h1,u,hu,h2,h3⟩;exact⟨fun x hx=>by have:=h1 x hx;rwa [hH x (by have:=(hg.adj_lt hx).2;omega)]at this,u,hu,by rwa [hH u (by have:=(hg.adj_lt hu).2;omega)]at h2,h3⟩
 .rintro⟨h1,u,hu,h2,h3⟩;exact⟨by omega,fun x hx=>by rw[hH x (by have:=(hg.adj_lt hx).2;omega)];exact h1 x hx,u,hu,by rw[hH u (by have:=(hg.adj_lt hu).2;omega)];exact h2,h3⟩
theorem Tr.twin(h:Tr g)(hp:Peak g v)(hu:adj g v u)(hw:adj g v w)(eu:htP g u=htP g v)(ew:htP g w=htP g v):u=w:=by
 refine zV fun hne=>?_;obtain⟨lv,lu⟩:=h.good.adj_lt hu;exact h.no_three hp (h.peak_eq hp hu eu) (h.peak_eq hp hw ew) lv lu (h.good.adj_lt hw).2 (h.ne hu) (h.ne hw) hne
theorem yrk(h:Tr g)(hc:ElC g c)(hH:yfv g c)(hv:v<g.ids.length)(hS:Stab g c v):yko g c v = -1:=by
 have e:=ypg h hH hv;unfold yko;rw[if_neg (fun q=>q (by rw[hH v hv,e])),if_neg,if_neg,if_neg]
 .rw[ysa h hH hv];rintro⟨hp,u,hu,e1,e2⟩;exact hS.two hp u hu e1 e2
 .rw[yod h.good hH hv];rintro⟨e1,e2⟩;have:=hS.one (fun u hu=>by have:=e2 u hu;omega) e2
  omega
 .rw[yoz h.good hH hv];rintro⟨e1,e2⟩;have:=hS.low e2;omega
theorem ybwn(h:Tr g)(hc:ElC g c)(hH:yfv g c)(hv:v<g.ids.length)(h2:¬ynj g c v)(h3:¬ynw g c v)(h4:¬gTie g c v):Stab g c v:=by
 rw[yoz h.good hH hv]at h2;rw[yod h.good hH hv]at h3;rw[ysa h hH hv]at h4;have hl:=(hc.row v hv).2.2;refine⟨fun hp=>?_,fun hp hq=>?_,fun hp u hu e1 e2=>h4 ⟨hp,u,hu,e1,e2⟩⟩
 .rcases hl with q|q
  .exact q
  .exact absurd ⟨q,hp⟩ h2
 .rcases hl with q|q
  .exact absurd ⟨q,hq⟩ h3
  .exact q
theorem ybrb(h:Tr g)(hc:ElC g c)(hH:yfv g c)(hv:v<g.ids.length)(hb:s.testBit v=true)(hs:subB s (ybk (ybj nm nh nl nf nd nt ni) g c))(hD:yddc g s):Stab g (ydk (ybj nm nh nl nf nd nt ni) g c s) v:=by
 have hpl:=h.good.2.2.1;have hl:=(hc.row v hv).2.2;have e:=ypg h hH hv;obtain⟨_,hm⟩:=ywd h.good hc hv hb hs
 have other:∀u,adj g v u->lAt (ydk (ybj nm nh nl nf nd nt ni) g c s) u=lAt c u:=fun u hu=>by
  unfold lAt;rw[yvr hc (by have:=(h.good.adj_lt hu).2;omega) (hD v u hu hb)]
 rcases hm with⟨q,_⟩|⟨_,⟨q,e1⟩|⟨q,e1⟩|⟨q,e1⟩⟩
 .exact absurd (by rw[hH v hv,e]) q
 .rw[yoz h.good hH hv]at q;exact⟨fun _=>e1,fun hp=>absurd hp q.2,fun hp=>absurd hp q.2⟩
 .rw[yod h.good hH hv]at q;have hp:Peak g v:=fun u hu=>by have:=q.2 u hu;omega
  exact⟨fun hn=>absurd hp hn,fun _ _=>e1,fun _ u hu e2=>by have:=q.2 u hu;omega⟩
 .rw[ysa h hH hv]at q;obtain⟨hp,u,hu,e2,e3⟩:=q;refine⟨fun hn=>absurd hp hn,fun _ hq=>by have:=hq u hu;omega,fun _ w hw e4=>?_⟩
  have:=h.twin hp hu hw e2 e4;subst this;rw[other u hu,e1,e3];omega
theorem ybwd(h:Tr g)(hc:ElC g c)(hH:yfv g c)(hv:v<g.ids.length)(hb:s.testBit v=false)(hs:subB s (ybk (ybj nm nh nl nf nd nt ni) g c))(hS:Stab g c v):Stab g (ydk (ybj nm nh nl nf nd nt ni) g c s) v:=by
 have hpl:=h.good.2.2.1
 have e0:lAt (ydk (ybj nm nh nl nf nd nt ni) g c s) v=lAt c v:=by
  unfold lAt;rw[yvr hc hv hb]
 refine⟨fun hn=>by rw[e0];exact hS.low hn,fun hp hq=>by rw[e0];exact hS.one hp hq,fun hp u hu e1=>?_⟩
 have hun:u<g.ids.length:=by have:=(h.good.adj_lt hu).2;omega
 have hnb:s.testBit u=false:=by
  cases hbu:s.testBit u with
  |false=>rfl
  | true =>
    exfalso
    have hpu:=h.peak_eq hp hu e1;have back:=h.good.adj_symm hu
    have hSu:Stab g c u:=⟨fun hn=>absurd hpu hn,fun _ hq=>by have:=hq v back;omega,fun _ w hw e2=>by
     have:=h.twin hpu back hw e1.symm e2;subst this;exact fun q=>hS.two hp u hu e1 q.symm⟩
    have:=(ycdg (nm:=nm) (nh:=nh) (nl:=nl) (nf:=nf) (nd:=nd) (nt:=nt) (ni:=ni) h.good hc hun).2 (yrk h hc hH hun hSu);rw[hs u hbu]at this;cases this
 have e2:lAt (ydk (ybj nm nh nl nf nd nt ni) g c s) u=lAt c u:=by
  unfold lAt;rw[yvr hc hun hnb]
 rw[e0,e2];exact hS.two hp u hu e1
def elR(g:Gr)(R r v:Nat)(c:Conf):Prop:=(if htP g v<(r:Int)then hAt c v=htP g v else(r:Int)<=hAt c v)/\(R+1<=r->Stab g c v)
theorem ymv{R r:Nat}(hR:∀v,v<g.ids.length->htP g v<(R:Int))(hr:R<=r)(hall:∀u,u<g.ids.length->elR g R r u c):yfv g c:=fun v hv=>by
 have:=(hall v hv).1;have:=hR v hv;rw[if_pos (by omega)]at *
 assumption
theorem ycsk(h:Tr g){R r:Nat}(hall:∀u,u<g.ids.length->elR g R r u c)(hv:v<g.ids.length):if htP g v<((r+1:Nat):Int)then cnV g c v=htP g v else((r+1:Nat):Int)<=cnV g c v :=
 h.cn_next hv r fun u hu=>(hall u hu).1
theorem ydiu(h:Tr g){R:Nat}(hR:∀v,v<g.ids.length->htP g v<(R:Int)):ByRoundsC (ybp (ybj nm nh nl nf nd nt ni) g) (fun c=>ygr (ybj nm nh nl nf nd nt ni) g c=true) (yddc g) (elR g R) where
 valid:=fun c s hc _ _ _=>Sh.yoa h.good ydeu (ybex h.good) hc s
 stay:=fun c s v r r' hr1 hr2 hV hv hb hs hD hall hP=>by
  have hc:=yje hV;have hv:v<g.ids.length:=hv
  have e:hAt (ydk (ybj nm nh nl nf nd nt ni) g c s) v=hAt c v:=by
   unfold hAt;rw[yvr hc hv hb]
  refine⟨?_,fun hq=>?_⟩
  .have:=hP.1;show if htP g v<(r':Int)then hAt (ydk _ g c s) v=htP g v else(r':Int)<=hAt (ydk _ g c s) v
   rw[e];exact this
  .exact ybwd h hc (ymv hR (r:=r) (by omega) hall) hv hb hs (hP.2 hq)
 move:=fun c s v r hV hv hb hs hD hall=>by
  have hc:=yje hV;have hv:v<g.ids.length:=hv;have e:=(ywd h.good hc hv hb hs).1;refine⟨?_,fun hq=>?_⟩
  .show if htP g v<((r+1:Nat):Int)then hAt (ydk _ g c s) v=htP g v else((r+1:Nat):Int)<=hAt (ydk _ g c s) v
   rw[e];exact ycsk h hall hv
  .exact ybrb h hc (ymv hR (r:=r) (by omega) hall) hv hb hs hD
 rest:=fun c v r hV hv hb hall=>by
  have hc:=yje hV;have hv:v<g.ids.length:=hv;obtain⟨e,h2,h3,h4⟩:=ybtx h.good hc hv hb;refine⟨?_,fun hq=>?_⟩
  .rw[e];exact ycsk h hall hv
  .exact ybwn h hc (ymv hR (r:=r) (by omega) hall) hv h2 h3 h4
 less:=fun r v c hP=>by
  refine⟨?_,fun hq=>hP.2 (by omega)⟩
  have:=hP.1;split at this
  .split
   .exact this
   .rw[this];omega
  .rw[if_neg (by omega)];omega
theorem ycac(hc:ElC g c)(hv:v<g.ids.length){R:Nat}:elR g R 0 v c:=by
 have:=yfy g v;refine⟨?_,fun q=>by omega⟩
 rw[if_neg (by omega)]
 exact(hc.row v hv).2.1.1
def yoi(g:Gr)(c:Conf):Prop:=yfv g c/\∃v,v<g.ids.length/\Peak g v/\lAt c v=1/\∀u,u<g.ids.length->lAt c u=1->u=v
theorem ypn(h:Tr g)(hc:ElC g c)(hH:yfv g c):yoi g c↔∀v,v<g.ids.length->Stab g c v:=by
 have hpl:=h.good.2.2.1;constructor
 .rintro⟨_,p,hp,hpk,hl,huni⟩ v hv
  have peers:∀x,x<g.ids.length->Peak g x->x≠p->adj g p x/\htP g x=htP g p:=fun x hx hxp hne=>by
   have ha:=h.adj_of (by omega) (by omega) (h.peaks_adj hpk hxp (by omega) (by omega) hne)
   have:=hpk x ha;have:=hxp p (h.good.adj_symm ha);exact⟨ha,by omega⟩
  have zero:∀x,x<g.ids.length->x≠p->lAt c x=0:=fun x hx hne=>by
   rcases(hc.row x hx).2.2 with q|q
   .exact q
   .exact absurd (huni x hx q) hne
  refine⟨fun hn=>zero v hv fun e=>hn (e▸hpk),fun hvp hq=>?_,fun hvp u hu e1=>?_⟩
  .by_cases e:v=p
   .rw[e];exact hl
   .obtain⟨ha,he⟩:=peers v hv hvp e;have:=hq p (h.good.adj_symm ha);omega
  .have hun:u<g.ids.length:=by have:=(h.good.adj_lt hu).2;omega
   have hup:=h.peak_eq hvp hu e1
   by_cases e:v=p
   .subst e;rw[hl,zero u hun (fun e2=>h.ne hu e2.symm)];omega
   .by_cases e2:u=p
    .subst e2;rw[hl,zero v hv e];omega
    .exact(h.no_three hvp hup hpk (by omega) (by omega) (by omega) (h.ne hu) e e2).elim
 .intro hS;refine⟨hH,?_⟩;obtain⟨p,hp,hpk⟩:=h.peak_ex
  have fin:∀q,q<g.ids.length->Peak g q->lAt c q=1->(∀x,x<g.ids.length->Peak g x->x≠q->lAt c x=0)->∃v,v<g.ids.length/\Peak g v/\lAt c v=1/\∀u,u<g.ids.length->lAt c u=1->u=v:=fun q hq hqp h1 h0=>by
   refine⟨q,hq,hqp,h1,fun u hu e=>zV fun hne=>?_⟩
   by_cases hup:Peak g u
   .have:=h0 u hu hup hne;omega
   .have:=(hS u hu).low hup;omega
  by_cases hx:∃x,x<g.ids.length/\Peak g x/\x≠p
  .obtain⟨x,hxl,hxp,hne⟩:=hx;have ha:=h.adj_of (by omega) (by omega) (h.peaks_adj hpk hxp (by omega) (by omega) hne)
   have h1:=hpk x ha;have h2:=hxp p (h.good.adj_symm ha);have hd:=(hS p (by omega)).two hpk x ha (by omega)
   rcases(hc.row p (by omega)).2.2 with q|q
   .have hl:lAt c x=1:=by
     rcases(hc.row x hxl).2.2 with q2|q2
     .rw[q,q2]at hd;exact absurd rfl hd
     .exact q2
    refine fin x hxl hxp hl fun y hy hyp hyn=>?_
    by_cases e:y=p
    .rw[e];exact q
    .exact(h.no_three hpk hxp hyp hp (by omega) (by omega) (fun e2=>hne e2.symm) (fun e2=>e e2.symm) (fun e2=>hyn e2.symm)).elim
   .refine fin p (by omega) hpk q fun y hy hyp hyn=>?_
    by_cases e:y=x
    .subst e;rcases(hc.row y hy).2.2 with q2|q2
     .exact q2
     .rw[q,q2]at hd;exact absurd rfl hd
    .exact(h.no_three hpk hxp hyp hp (by omega) (by omega) (fun e2=>hne e2.symm) (fun e2=>hyn e2.symm) (fun e2=>e e2.symm)).elim
  .have only:∀x,x<g.ids.length->Peak g x->x=p:=fun x hxl hxp=>zV fun hne=>hx ⟨x,hxl,hxp,hne⟩;refine fin p (by omega) hpk ((hS p (by omega)).one hpk fun u hu=>?_) fun y hy hyp hyn=>absurd (only y hy hyp) hyn
   have h1:=hpk u hu;rcases zT (htP g u) (htP g p)with q|q
   .exact q
   .have:=only u (by have:=(h.good.adj_lt hu).2;omega) (h.peak_eq hpk hu (by omega))
    exact absurd this.symm (h.ne hu)
theorem ybxv(h:Tr g)(hv:ygr (ybj nm nh nl nf nd nt ni) g c=true):ybk (ybj nm nh nl nf nd nt ni) g c=0↔yoi g c:=by
 have hpl:=h.good.2.2.1;have hc:=yje hv
 have hR:∀v,v<g.ids.length->htP g v<((24:Nat):Int):=fun v hv=>by
  have:=h.ht_lt (v:=v) (by omega)
  have:=h.good.2.1;omega
 constructor
 .intro he;have hs:=(ydiu (nm:=nm) (nh:=nh) (nl:=nl) (nf:=nf) (nd:=nd) (nt:=nt) (ni:=ni) h hR).silent hv (fun v hn=>ycac hc hn) he;have hH:yfv g c:=ymv hR (zG _) (hs 24);exact(ypn h hc hH).2 fun v hn=>(hs 25 v hn).2 (zG _)
 .intro hr;have hH:=hr.1;have hS:=(ypn h hc hH).1 hr;rw[yed];intro i
  by_cases hi:i<g.ids.length
  .exact(ycdg h.good hc hi).2 (yrk h hc hH hi (hS i hi))
  .exact Nat.testBit_lt_two_pow (zAT (Sh.ybxd _ g c) (zBC (by omega) (by omega)))
end
end
section
theorem ybbb{α:Type}(f:α->Int)(p:α->Bool):∀(l:List α) (m:Int),m<=l.foldl (fun m w=>if p w then max m (f w)else m) m/\(∀w∈l,p w=true->f w<=l.foldl (fun m w=>if p w then max m (f w)else m) m)/\∀t,m<=t->(∀w∈l,p w=true->f w<=t)->l.foldl (fun m w=>if p w then max m (f w)else m) m<=t
 |[],m=>⟨zS _,fun w hw=>absurd hw zL,fun t ht _=>ht⟩
 | x :: l,m=>by
   obtain⟨h1,h2,h3⟩:=ybbb f p l (if p x then max m (f x)else m)
   rw[zAH];refine⟨?_,fun w hw hp=>?_,fun t ht hl=>h3 t ?_ fun w hw=>hl w (zH _ hw)⟩
   .refine zBH ?_ h1;split<;>omega
   .rcases List.mem_cons.1 hw with e|hw
    .subst e;refine zBH ?_ h1;rw[if_pos hp];omega
    .exact h2 w hw hp
   .by_cases q:p x=true
    .rw[if_pos q];have:=hl x zJ q;omega
    .rw[if_neg q];exact ht
section
variable {g:Gr}{u v:Nat}
def ynl(g:Gr)(v u:Nat)(m:Int)(l:Int×Int):Int:=if (l.1 != (v:Int))=true then max m (1+rchP g u l.1.toNat)else m
theorem Tr.rch_loop(h:Tr g)(hu:adj g v u):(g.ports.getD u []).foldl (ynl g v u) 1=rchP g v u:=by
 obtain⟨hv,hul⟩:=h.good.adj_lt hu;obtain⟨h1,h2,h3⟩:=ybbb (fun l:Int×Int=>1+rchP g u l.1.toNat) (fun l:Int×Int=>l.1 != (v:Int)) (g.ports.getD u []) 1;refine zBP (h3 _ (h.rch_pos hu) fun l hl hp=>?_) ?_
 .obtain⟨a1,_,a2,_⟩:=ydc h.good hul hl;rw[bne_iff_ne]at hp;exact h.rch_step hu a2 (fun e=>hp (by omega))
 .rcases zT (rchP g v u) 2 with q|q
  .exact zBH (by omega) h1
  .obtain⟨x,hx,hne,e⟩:=h.rch_from hu q;obtain⟨l,hl,el⟩:=yif hx;obtain⟨a1,_⟩:=ydc h.good hul hl;have:=h2 l hl (by rw[bne_iff_ne];intro e;exact hne (by omega))
   rw[el]at this;rw[e];exact this
theorem Tr.rch_less(h:Tr g)(hu:adj g v u){l:Int×Int}(hl:l∈g.ports.getD u [])(hne:l.1≠(v:Int)):rchP g u l.1.toNat<rchP g v u:=by
 obtain⟨hv,hul⟩:=h.good.adj_lt hu;obtain⟨a1,_,a2,_⟩:=ydc h.good hul hl;have:=h.rch_step hu a2 (fun e=>hne (by omega))
 omega
def ypa(s:Int×Int)(x:Int):Int×Int:=(max s.1 x,max s.2 (min x s.1))
theorem ycce{s:Int×Int}{x:Int}(h:s.2<=s.1):ypa s x=step2 s x:=by
 unfold ypa step2;split<;>(try split)<;>(refine Prod.ext ?_ ?_<;>simp only<;>omega)
theorem ybfu:∀(l:List Int) (s:Int×Int),s.2<=s.1->l.foldl ypa s=l.foldl step2 s
 |[],_,_=>rfl
 | x::l,s,h=>by
   rw[zAH,zAH,<-ycce h];exact ybfu l _ (by unfold ypa;simp only;omega)
theorem ycvy(g:Gr)(v:Nat):(((g.ports.getD v []).map fun l=>rchP g v l.1.toNat).foldl ypa (0,0)).2=htP g v:=by
 rw[ybfu _ _ (zS _)];rfl
end
end
section
section
variable {g:Gr}{a b v:Nat}
end
end
section
namespace Sh
open Go Ev
def ybpi:LO:=[o3 (.box 27 (.tmp 0)) 1 0,o3 (.mv (ci' 0)) 2 0,o3 (.mv (ci' 0)) 3 2]
def ybno:LO:=[ld' true 2 1 6 0,cl' 96 [6] 7 1,o3 (.un .not (.tmp 7)) 8 3]
def ycmz:LO:=[o3 (.mv (ci' 0)) 2 0,o3 (.mv (ci' 0)) 3 1]
def ycfc:LO:=[fa' 1 1 1 9 0,ld' false 1 9 10 1,ln' 10 11 3,o3 (.mv (ci' 0)) 12 0]
def ybmu:LO:=[bn' .lss 12 11 13 0]
def yces:LO:=[ix' 1 10 12 14 0,ld' false 1 14 15 1,mv' 15 5 3]
def ycfy:LO:=[mv' 3 16 0,mv' 5 17 0,ln' 17 18 2,bn' .add 16 18 19 7,mv' 19 3 15]
def ycdo:LO:=[o3 (.bin .add (.tmp 12) (ci' 1)) 20 0,mv' 20 12 1]
def ycrs:LO:=[fa' 0 1 1 21 0,ld' false 1 21 22 1,ln' 22 23 3,mv' 3 24 0,o3 (.bin .quo (.tmp 24) (ci' 2)) 25 8,mv' 23 2 7,mv' 25 3 63]
def c122:SC:=(.seq (.reg false ybpi) (.seq (.seq (.reg false ybno) (.cond (.tmp 8) (.seq (.reg false ycmz) .ret) .skip)) (.seq (.seq (.reg false ycfc) (.block 0 (.loop (.seq (.reg false ybmu) (.seq (.cond (.tmp 13) .skip (.exit 0)) (.seq (.block 1 (.seq (.reg false yces) (.reg false ycfy))) (.reg false ycdo))))))) (.seq (.reg false ycrs) .ret))))
theorem ycxc:Fn 122 c122 [.t 2,.t 3]:=fn_0 Tryz.func122 (by kernel_rfl) (by kernel_rfl)
def ybms:LO:=[o3 (.box 27 (.tmp 0)) 1 0,o3 (.mv (.const (.bool false))) 2 0]
def ybmv:LO:=[ld' true 2 1 5 0,cl' 137 [5] 6 1,o3 (.un .not (.tmp 6)) 7 3]
def ycgu:LO:=[o3 (.mv (.const (.bool false))) 2 0]
def yckp:LO:=[ld' true 2 1 9 0,cl' 122 [9] 10 1,mv' 10 8 3,xt' 8 0 11 7,xt' 8 1 12 7,mv' 11 3 15,mv' 12 4 63]
def ycho:LO:=[mv' 4 13 0,mv' 3 14 0,o3 (.bin .sub (.tmp 14) (ci' 1)) 15 2,bn' .eql 13 15 16 7,mv' 16 2 15]
def c136:SC:=(.seq (.reg false ybms) (.seq (.seq (.reg false ybmv) (.cond (.tmp 7) (.seq (.reg false ycgu) .ret) .skip)) (.seq (.reg false yckp) (.seq (.reg false ycho) .ret))))
theorem yctn:Fn 136 c136 [.t 2]:=fn_0 Tryz.func136 (by kernel_rfl) (by kernel_rfl)
def ycdy:LO:=[o3 (.box 27 (.tmp 0)) 3 0,o3 (.mv (ci' 0)) 6 0]
def ycpc:LO:=[o3 (.mv (ci' 1)) 7 0]
def ycid:LO:=[fa' 1 1 3 10 0,ld' false 1 10 11 1,mv' 2 12 0,ix' 1 11 12 13 7,ld' false 1 13 14 15,ln' 14 15 31,o3 (.mv (ci' 0)) 16 0]
def ybgd:LO:=[bn' .lss 16 15 17 0]
def ybrw:LO:=[ix' 2 14 16 18 0,ld' true 2 18 19 1,o3 (.alloc 95 1 [.i .i64 0,.i .i64 0]) 9 0,o0 (.store 2 (.tmp 9) (.tmp 19)) 7]
def ybtv:LO:=[fa' 0 1 9 20 0,ld' false 1 20 21 1,mv' 1 22 0,bn' .neq 21 22 23 7]
def ycgy:LO:=[mv' 7 24 0,ld' true 2 3 25 0,mv' 2 26 0,fa' 0 1 9 27 0,ld' false 1 27 28 8,cl' 142 [25,26,28] 29 30,o3 (.bin .add (ci' 1) (.tmp 29)) 30 62,o3 (.mm true (.tmp 24) (.tmp 30)) 31 127,mv' 31 7 255]
def ybvl:LO:=[o3 (.bin .add (.tmp 16) (ci' 1)) 32 0,mv' 32 16 1]
def ycrz:LO:=[mv' 7 33 0,mv' 33 6 1]
def c142:SC:=(.seq (.reg false ycdy) (.seq (.reg false ycpc) (.seq (.seq (.reg false ycid) (.block 0 (.loop (.seq (.reg false ybgd) (.seq (.cond (.tmp 17) .skip (.exit 0)) (.seq (.block 1 (.seq (.reg false ybrw) (.seq (.reg false ybtv) (.cond (.tmp 23) (.reg false ycgy) .skip)))) (.reg false ybvl))))))) (.seq (.reg false ycrz) .ret))))
theorem ycwj:Fn 142 c142 [.t 6]:=fn_0 Tryz.func142 (by kernel_rfl) (by kernel_rfl)
def ydhu:LO:=[o3 (.box 27 (.tmp 0)) 1 0,o3 (.mv (.const (.slice none 0 0))) 2 0]
def ydfb:LO:=[fa' 0 1 1 10 0,ld' false 1 10 11 1,ln' 11 12 3,o3 (.mk 3 1 8 [.i .i64 0] (.tmp 12) (.tmp 12)) 13 7,mv' 13 3 15]
def ydfv:LO:=[fa' 1 1 1 14 0,ld' false 1 14 15 1,ln' 15 16 3,o3 (.mv (ci' 0)) 17 0]
def yczb:LO:=[bn' .lss 17 16 18 0]
def ydhp:LO:=[mv' 17 19 0,ix' 1 15 17 20 0,ld' false 1 20 21 2,mv' 19 4 7,mv' 21 5 15]
def ydic:LO:=[o3 (.mv (ci' 0)) 6 0]
def ydcp:LO:=[mv' 5 22 0,ln' 22 23 1,o3 (.mv (ci' 0)) 24 0]
def ycxu:LO:=[bn' .lss 24 23 25 0]
def ydfm:LO:=[ix' 2 22 24 26 0,ld' true 2 26 27 1,o3 (.alloc 95 1 [.i .i64 0,.i .i64 0]) 8 0,o0 (.store 2 (.tmp 8) (.tmp 27)) 7]
def ydgn:LO:=[ld' true 2 1 28 0,mv' 4 29 0,fa' 0 1 8 30 0,ld' false 1 30 31 4,cl' 142 [28,29,31] 32 15,mv' 32 9 31]
def yckg:LO:=[mv' 3 33 0,mv' 4 34 0,mv' 3 35 0,mv' 4 36 0,ix' 1 35 36 37 12,ld' false 1 37 38 28,mv' 9 39 0,mv' 6 40 0,o3 (.mm false (.tmp 39) (.tmp 40)) 41 192,o3 (.mm true (.tmp 38) (.tmp 41)) 42 508,ix' 1 33 34 43 1023,o0 (.store 1 (.tmp 43) (.tmp 42)) 2047]
def ycnh:LO:=[mv' 6 44 0,mv' 9 45 0,o3 (.mm true (.tmp 44) (.tmp 45)) 46 3,mv' 46 6 7]
def ycgt:LO:=[o3 (.bin .add (.tmp 24) (ci' 1)) 47 0,mv' 47 24 1]
def ycga:LO:=[o3 (.bin .add (.tmp 17) (ci' 1)) 48 0,mv' 48 17 1]
def ycma:LO:=[mv' 3 49 0,mv' 49 2 1]
def c91:SC:=(.seq (.reg false ydhu) (.seq (.reg false ydfb) (.seq (.seq (.reg false ydfv) (.block 0 (.loop (.seq (.reg false yczb) (.seq (.cond (.tmp 18) .skip (.exit 0)) (.seq (.block 1 (.seq (.reg false ydhp) (.seq (.reg false ydic) (.seq (.reg false ydcp) (.block 2 (.loop (.seq (.reg false ycxu) (.seq (.cond (.tmp 25) .skip (.exit 2)) (.seq (.block 3 (.seq (.reg false ydfm) (.seq (.reg false ydgn) (.seq (.reg false yckg) (.reg false ycnh))))) (.reg false ycgt)))))))))) (.reg false ycga))))))) (.seq (.reg false ycma) .ret))))
theorem ydhy:Fn 91 c91 [.t 2]:=fn_0 Tryz.func91 (by kernel_rfl) (by kernel_rfl)
def ydhv:LO:=[o3 (.box 27 (.tmp 0)) 2 0,o3 (.box 90 (.tmp 1)) 3 0,o3 (.mv (.const (.int .u32 0))) 4 0]
def ydcl:LO:=[ld' true 2 2 8 0,cl' 109 [8] 9 1,o3 (.alloc 40 1 [.i .u32 0]) 5 0,o0 (.store 1 (.tmp 5) (.tmp 9)) 7]
def yddw:LO:=[ld' true 2 2 10 0,cl' 120 [10] 11 1]
def ydbx:LO:=[mv' 12 6 0]
def ydga:LO:=[o3 (.alloc 95 1 [.i .i64 0,.i .i64 0]) 7 0,o0 (.store 2 (.tmp 7) (.tmp 13)) 1]
def ydap:LO:=[ld' false 1 3 14 0,mv' 6 15 0,o3 (.call (.tmp 14) [(.tmp 15)]) 16 3,ld' false 1 3 17 0,fa' 0 1 7 18 0,ld' false 1 18 19 16,o3 (.call (.tmp 17) [(.tmp 19)]) 20 63,bn' .lss 16 20 21 127]
def ydgw:LO:=[ld' false 1 5 22 0,mv' 6 23 0,o3 (.bin .shl (.const (.int .u32 1)) (.tmp 23)) 24 2,bn' .andNot 22 24 25 7,o0 (.store 1 (.tmp 5) (.tmp 25)) 15]
def ydcx:LO:=[ld' false 1 5 26 0,mv' 26 4 1]
def c81:SC:=(.seq (.reg false ydhv) (.seq (.reg false ydcl) (.seq (.seq (.reg false yddw) (.block 0 (.range (.tmp 11) [12,13] (.seq (.reg false ydbx) (.reg false ydga)) (.block 1 (.seq (.reg true ydap) (.cond (.tmp 21) (.reg true ydgw) .skip)))))) (.seq (.reg false ydcx) .ret))))
theorem ydcy:Fn 81 c81 [.t 4]:=fn_0 Tryz.func81 (by kernel_rfl) (by kernel_rfl)
def c5_0:LO:=[o3 (.box 24 (.tmp 0)) 3 0,o3 (.mv (.const (.bool false))) 6 0]
def c5_1:LO:=[ld' true 6 3 15 0,o3 (.call (.func 21) [(.tmp 15),(ci' 10)]) 16 1,o3 (.alloc 27 1 [.a (.slice none 0 0),.a (.slice none 0 0)]) 7 0,o0 (.store 2 (.tmp 7) (.tmp 16)) 7]
def c5_2:LO:=[ld' true 2 7 17 0,cl' 25 [] 18 0,mv' 1 19 0,cl' 24 [17,18,19] 20 7,mv' 20 8 15]
def c5_3:LO:=[cl' 23 [] 22 0,ld' true 2 7 23 0,ld' true 2 7 24 0,cl' 33 [24] 25 5,o3 (.field false 0 1 (.tmp 25)) 26 13,mv' 8 27 0,mv' 2 28 0,o3 (.call (.func 26) [(.tmp 28),(ci' 120)]) 29 77,cl' 22 [22,23,26,27,29] 30 255,mv' 30 21 511,xt' 21 0 31 1023,xt' 21 1 32 1023,xt' 21 2 33 1023,mv' 31 9 2047,mv' 32 10 12287,mv' 33 11 32767]
def c5_4:LO:=[mv' 11 34 0,o3 (.un .not (.tmp 34)) 35 1,mv' 35 36 3,⟨.load true 2 (.tmp 7),some 37,some (36,false),7⟩,⟨.call (.func 33) [(.tmp 37)],some 38,some (36,false),15⟩,⟨.load true 2 (.tmp 7),some 39,some (36,false),7⟩,⟨.call (.func 34) [(.tmp 39)],some 40,some (36,false),63⟩,⟨.seq true [false,true,true,false,false] (.tmp 38) (.tmp 40),some 41,some (36,false),127⟩,o3 (.pick (.tmp 36) (.const (.bool true)) (.tmp 41)) 42 255]
def c5_5:LO:=[o3 (.mv (.const (.bool false))) 6 0]
def c5_6:LO:=[o3 (.mv (.const (.slice none 0 0))) 12 0]
def c5_7:LO:=[o3 (.mv (ci' 0)) 13 0]
def c5_8:LO:=[mv' 13 43 0,mv' 9 44 0,ln' 44 45 2,bn' .lss 43 45 46 7]
def ydkt:LO:=[mv' 12 49 0,ld' true 2 7 50 0,mv' 9 51 0,mv' 13 52 0,ix' 1 51 52 53 12,ld' false 1 53 54 28,cl' 35 [50,54] 55 62,o3 (.bslice 4 1 1 [.b false] [(0,1,(.tmp 55))]) 56 126,o3 (.app 4 1 1 (.tmp 49) (.tmp 56)) 57 255,mv' 57 12 511]
def c5_9:LO:=[mv' 13 47 0,o3 (.bin .add (.tmp 47) (ci' 1)) 48 1,mv' 48 13 3]
def ydku:LO:=[cl' 23 [] 58 0,cl' 37 [58] 59 1,ld' true 2 7 60 0,mv' 9 61 0,mv' 9 62 0,ln' 62 63 16,o3 (.bin .sub (.tmp 63) (ci' 1)) 64 48,ix' 1 61 64 65 120,ld' false 1 65 66 248,cl' 36 [59,60,66] 67 511,o3 (.bin .eql (.tmp 67) (.const (.int .u32 0))) 68 1023,mv' 68 14 2047]
def ydjz:LO:=[cl' 30 [] 69 0,mv' 69 70 1,⟨.mv (.tmp 12),some 71,some (70,true),3⟩,⟨.mv (.tmp 10),some 72,some (70,true),3⟩,⟨.load true 2 (.tmp 7),some 73,some (70,true),3⟩,⟨.call (.func 33) [(.tmp 73)],some 74,some (70,true),19⟩,⟨.mv (.tmp 14),some 75,some (70,true),3⟩,⟨.call (.func 38) [(.tmp 71),(.tmp 72),(.tmp 74),(.tmp 75)],some 76,some (70,true),127⟩,o3 (.pick (.tmp 70) (.tmp 76) (.const (.bool false))) 77 255,mv' 77 6 511]
def c5:SC:=(.seq (.reg false c5_0) (.seq (.reg false c5_1) (.seq (.reg true c5_2) (.seq (.reg true c5_3) (.seq (.seq (.reg true c5_4) (.cond (.tmp 42) (.seq (.reg false c5_5) .ret) .skip)) (.seq (.reg false c5_6) (.seq (.seq (.reg false c5_7) (.block 0 (.loop (.seq (.seq (.reg false c5_8) (.cond (.tmp 46) .skip (.exit 0))) (.seq (.block 1 (.reg true ydkt)) (.reg false c5_9)))))) (.seq (.reg true ydku) (.seq (.reg false ydjz) .ret)))))))))
def c6_0:LO:=[o3 (.box 24 (.tmp 0)) 3 0,o3 (.mv (.const (.bool false))) 6 0]
def c6_1:LO:=[ld' true 6 3 13 0,o3 (.call (.func 21) [(.tmp 13),(ci' 10)]) 14 1,o3 (.alloc 27 1 [.a (.slice none 0 0),.a (.slice none 0 0)]) 7 0,o0 (.store 2 (.tmp 7) (.tmp 14)) 7]
def c6_2:LO:=[cl' 23 [] 15 0,cl' 37 [15] 16 1,o3 (.alloc 58 1 [.a (.string (ByteArray.mk #[])),.a (.slice none 0 0),.a (.slice none 0 0)]) 8 0,o0 (.store 3 (.tmp 8) (.tmp 16)) 7]
def c6_3:LO:=[cl' 23 [] 18 0,ld' true 2 7 19 0,ld' true 2 7 20 0,cl' 33 [20] 21 5,o3 (.field false 0 1 (.tmp 21)) 22 13,ld' true 2 7 23 0,cl' 25 [] 24 13,mv' 1 25 0,cl' 24 [23,24,25] 26 237,mv' 2 27 0,o3 (.call (.func 26) [(.tmp 27),(ci' 60)]) 28 1005,cl' 22 [18,19,22,26,28] 29 2047,mv' 29 17 4095,xt' 17 0 30 8191,xt' 17 1 31 8191,xt' 17 2 32 8191,mv' 30 9 16383,mv' 31 10 98303,mv' 32 11 262143]
def c6_4:LO:=[o3 (.mv (ci' 0)) 12 0]
def c6_5:LO:=[mv' 12 33 0,mv' 9 34 0,ln' 34 35 2,bn' .lss 33 35 36 7]
def c6_7:LO:=[ld' true 3 8 39 0,ld' true 2 7 40 0,mv' 9 41 0,mv' 12 42 0,ix' 1 41 42 43 12,ld' false 1 43 44 28,cl' 36 [39,40,44] 45 63,o3 (.bin .eql (.tmp 45) (.const (.int .u32 0))) 46 127,ld' true 2 7 47 0,mv' 9 48 0,mv' 12 49 0,ix' 1 48 49 50 1536,ld' false 1 50 51 3584,cl' 35 [47,51] 52 8063,o3 (.beq true (.tmp 46) (.tmp 52)) 53 16383]
def c6_8:LO:=[o3 (.mv (.const (.bool false))) 6 0]
def c6_6:LO:=[mv' 12 37 0,o3 (.bin .add (.tmp 37) (ci' 1)) 38 1,mv' 38 12 3]
def c6_9:LO:=[cl' 30 [] 54 0,mv' 54 55 1,⟨.mv (.tmp 11),some 56,some (55,true),3⟩,o3 (.pick (.tmp 55) (.tmp 56) (.const (.bool false))) 57 7,mv' 57 6 15]
def c6:SC:=(.seq (.reg false c6_0) (.seq (.reg false c6_1) (.seq (.reg false c6_2) (.seq (.reg true c6_3) (.seq (.seq (.reg false c6_4) (.block 0 (.loop (.seq (.seq (.reg false c6_5) (.cond (.tmp 36) .skip (.exit 0))) (.seq (.block 1 (.seq (.reg true c6_7) (.cond (.tmp 53) (.seq (.reg false c6_8) .ret) .skip))) (.reg false c6_6)))))) (.seq (.reg false c6_9) .ret))))))
def c4_0:LO:=[o3 (.box 24 (.tmp 0)) 3 0,o3 (.mv (.const (.bool false))) 6 0]
def c4_1:LO:=[ld' true 6 3 16 0,o3 (.call (.func 21) [(.tmp 16),(ci' 10)]) 17 1,o3 (.alloc 27 1 [.a (.slice none 0 0),.a (.slice none 0 0)]) 7 0,o0 (.store 2 (.tmp 7) (.tmp 17)) 7]
def c4_2:LO:=[cl' 23 [] 19 0,ld' true 2 7 20 0,ld' true 2 7 21 0,cl' 25 [] 22 1,mv' 1 23 0,cl' 24 [21,22,23] 24 29,mv' 2 25 0,o3 (.call (.func 26) [(.tmp 25),(ci' 80)]) 26 125,o3 (.call (.func 22) [(.tmp 19),(.tmp 20),(ci' 3),(.tmp 24),(.tmp 26)]) 27 255,mv' 27 18 511,xt' 18 0 28 1023,xt' 18 1 29 1023,xt' 18 2 30 1023,mv' 28 8 2047,mv' 29 9 12287,mv' 30 10 32767]
def c4_3:LO:=[o3 (.mv (ci' 0)) 11 0]
def c4_4:LO:=[mv' 11 31 0,mv' 8 32 0,ln' 32 33 2,bn' .lss 31 33 34 7]
def c4_6:LO:=[mv' 9 37 0,mv' 11 38 0,ix' 5 37 38 39 3,fa' 2 1 39 40 7,ld' false 1 40 41 15,o3 (.bin .sub (.tmp 41) (ci' 1)) 42 31,mv' 42 12 63]
def c4_7:LO:=[o3 (.mv (ci' 0)) 13 0]
def c4_8:LO:=[mv' 13 43 0,fa' 1 1 7 44 0,ld' false 1 44 45 2,ln' 45 46 6,bn' .lss 43 46 47 15,mv' 47 48 31,⟨.mv (.tmp 12),some 49,some (48,true),63⟩,⟨.bin .geq (.tmp 49) (ci' 0),some 50,some (48,true),127⟩,o3 (.pick (.tmp 48) (.tmp 50) (.const (.bool false))) 51 255]
def ydki:LO:=[mv' 8 54 0,mv' 11 55 0,ix' 1 54 55 56 3,ld' false 1 56 57 7,ln' 57 58 15,fa' 1 1 7 59 0,ld' false 1 59 60 32,ln' 60 61 96,bn' .neq 58 61 62 255,mv' 62 63 511,⟨.mv (.tmp 8),some 64,some (63,false),1023⟩,⟨.mv (.tmp 11),some 65,some (63,false),1023⟩,⟨.idx 1 (.tmp 64) (.tmp 65),some 66,some (63,false),4095⟩,⟨.load false 1 (.tmp 66),some 67,some (63,false),8191⟩,⟨.mv (.tmp 13),some 68,some (63,false),1023⟩,⟨.idx 1 (.tmp 67) (.tmp 68),some 69,some (63,false),32767⟩,⟨.load false 1 (.tmp 69),some 70,some (63,false),65535⟩,⟨.len (.tmp 70),some 71,some (63,false),131071⟩,⟨.bin .neq (.tmp 71) (ci' 1),some 72,some (63,false),262143⟩,o3 (.pick (.tmp 63) (.const (.bool true)) (.tmp 72)) 73 524287]
def ydiq:LO:=[o3 (.mv (.const (.bool false))) 6 0]
def ydjn:LO:=[mv' 8 74 0,mv' 11 75 0,ix' 1 74 75 76 3,ld' false 1 76 77 7,mv' 13 78 0,ix' 1 77 78 79 31,ld' false 1 79 80 63,o3 (.idx 1 (.tmp 80) (ci' 0)) 81 127,ld' false 1 81 82 255,ld' true 2 7 83 0,mv' 13 84 0,cl' 32 [83,84] 85 1536,mv' 82 14 4095,mv' 85 15 8191]
def ydkx:LO:=[mv' 15 86 0,mv' 12 87 0,bn' .leq 86 87 88 3,mv' 88 89 7,⟨.mv (.tmp 14),some 90,some (89,true),15⟩,⟨.mv (.tmp 15),some 91,some (89,true),15⟩,⟨.bin .neq (.tmp 90) (.tmp 91),some 92,some (89,true),63⟩,o3 (.pick (.tmp 89) (.tmp 92) (.const (.bool false))) 93 127,mv' 93 94 255,⟨.mv (.tmp 15),some 95,some (94,false),511⟩,⟨.mv (.tmp 12),some 96,some (94,false),511⟩,⟨.bin .gtr (.tmp 95) (.tmp 96),some 97,some (94,false),2047⟩,⟨.mv (.tmp 97),some 98,some (94,false),4095⟩,⟨.mv (.tmp 14),some 99,some (98,true),8191⟩,⟨.mv (.tmp 12),some 100,some (98,true),8191⟩,⟨.bin .add (.tmp 100) (ci' 1),some 101,some (98,true),24575⟩,⟨.bin .lss (.tmp 99) (.tmp 101),some 102,some (98,true),65535⟩,⟨.pick (.tmp 98) (.tmp 102) (.const (.bool false)),some 103,some (94,false),131071⟩,o3 (.pick (.tmp 94) (.const (.bool true)) (.tmp 103)) 104 262143]
def ydky:LO:=[o3 (.mv (.const (.bool false))) 6 0]
def c4_9:LO:=[mv' 13 52 0,o3 (.bin .add (.tmp 52) (ci' 1)) 53 1,mv' 53 13 3]
def c4_5:LO:=[mv' 11 35 0,o3 (.bin .add (.tmp 35) (ci' 1)) 36 1,mv' 36 11 3]
def ydjl:LO:=[cl' 30 [] 105 0,mv' 105 106 1,⟨.mv (.tmp 10),some 107,some (106,true),3⟩,o3 (.pick (.tmp 106) (.tmp 107) (.const (.bool false))) 108 7,mv' 108 6 15]
def c4:SC:=(.seq (.reg false c4_0) (.seq (.reg false c4_1) (.seq (.reg true c4_2) (.seq (.seq (.reg false c4_3) (.block 0 (.loop (.seq (.seq (.reg false c4_4) (.cond (.tmp 34) .skip (.exit 0))) (.seq (.block 1 (.seq (.reg false c4_6) (.seq (.reg false c4_7) (.block 2 (.loop (.seq (.seq (.reg false c4_8) (.cond (.tmp 51) .skip (.exit 2))) (.seq (.block 3 (.seq (.seq (.reg true ydki) (.cond (.tmp 73) (.seq (.reg false ydiq) .ret) .skip)) (.seq (.reg true ydjn) (.seq (.reg false ydkx) (.cond (.tmp 104) (.seq (.reg false ydky) .ret) .skip))))) (.reg false c4_9)))))))) (.reg false c4_5)))))) (.seq (.reg false ydjl) .ret)))))
def c3_0:LO:=[o3 (.box 24 (.tmp 0)) 2 0,o3 (.mv (.const (.bool false))) 4 0]
def c3_1:LO:=[ld' true 6 2 14 0,o3 (.call (.func 21) [(.tmp 14),(ci' 10)]) 15 1,o3 (.alloc 27 1 [.a (.slice none 0 0),.a (.slice none 0 0)]) 5 0,o0 (.store 2 (.tmp 5) (.tmp 15)) 7]
def c3_2:LO:=[cl' 23 [] 17 0,ld' true 2 5 18 0,ld' true 2 5 19 0,cl' 25 [] 20 1,mv' 1 21 0,cl' 24 [19,20,21] 22 29,o3 (.call (.func 26) [(.const (.slice none 0 0)),(ci' 12)]) 23 61,o3 (.call (.func 22) [(.tmp 17),(.tmp 18),(ci' 4),(.tmp 22),(.tmp 23)]) 24 127,mv' 24 16 255,xt' 16 0 25 511,xt' 16 1 26 511,xt' 16 2 27 511,mv' 25 6 1023,mv' 26 7 6143,mv' 27 8 16383]
def c3_3:LO:=[mv' 8 28 0,o3 (.un .not (.tmp 28)) 29 1]
def c3_4:LO:=[o3 (.mv (.const (.bool false))) 4 0]
def c3_5:LO:=[ld' true 2 5 30 0,mv' 6 31 0,mv' 6 32 0,ln' 32 33 4,o3 (.bin .sub (.tmp 33) (ci' 1)) 34 12,ix' 1 31 34 35 30,ld' false 1 35 36 62,cl' 27 [30,36] 37 127,mv' 37 9 255,o3 (.mv (ci' 24)) 10 511]
def c3_6:LO:=[o3 (.mv (ci' 0)) 11 0]
def c3_7:LO:=[mv' 11 38 0,fa' 1 1 5 39 0,ld' false 1 39 40 2,ln' 40 41 6,bn' .lss 38 41 42 15]
def c3_9:LO:=[mv' 10 45 0,ld' true 2 5 46 0,mv' 11 47 0,cl' 28 [46,47] 48 6,o3 (.mm false (.tmp 45) (.tmp 48)) 49 15,mv' 49 10 31]
def c3_8:LO:=[mv' 11 43 0,o3 (.bin .add (.tmp 43) (ci' 1)) 44 1,mv' 44 11 3]
def ydkz:LO:=[o3 (.mv (ci' 0)) 12 0]
def ydja:LO:=[o3 (.mv (ci' 0)) 13 0]
def ydks:LO:=[mv' 13 50 0,fa' 1 1 5 51 0,ld' false 1 51 52 2,ln' 52 53 6,bn' .lss 50 53 54 15]
def ydkj:LO:=[mv' 9 57 0,mv' 13 58 0,cl' 29 [57,58] 59 3,ld' true 2 5 60 0,mv' 13 61 0,cl' 28 [60,61] 62 31,mv' 10 63 0,bn' .eql 62 63 64 127,o3 (.beq true (.tmp 59) (.tmp 64)) 65 255]
def ydje:LO:=[o3 (.mv (.const (.bool false))) 4 0]
def ydjc:LO:=[mv' 9 66 0,mv' 13 67 0,cl' 29 [66,67] 68 3]
def ydid:LO:=[mv' 12 69 0,o3 (.bin .add (.tmp 69) (ci' 1)) 70 1,mv' 70 12 3]
def ydju:LO:=[mv' 13 55 0,o3 (.bin .add (.tmp 55) (ci' 1)) 56 1,mv' 56 13 3]
def ydjj:LO:=[cl' 30 [] 71 0,mv' 71 72 1,⟨.mv (.tmp 12),some 73,some (72,true),3⟩,⟨.bin .eql (.tmp 73) (ci' 1),some 74,some (72,true),7⟩,⟨.mv (.tmp 74),some 75,some (72,true),15⟩,⟨.mv (.tmp 12),some 76,some (75,false),31⟩,⟨.bin .eql (.tmp 76) (ci' 2),some 77,some (75,false),63⟩,⟨.mv (.tmp 77),some 78,some (75,false),127⟩,⟨.load true 2 (.tmp 5),some 79,some (78,true),255⟩,⟨.mv (.tmp 9),some 80,some (78,true),255⟩,⟨.call (.func 31) [(.tmp 79),(.tmp 80)],some 81,some (78,true),1023⟩,⟨.mv (.tmp 9),some 82,some (78,true),255⟩,⟨.bin .and (.tmp 81) (.tmp 82),some 83,some (78,true),4095⟩,⟨.mv (.tmp 9),some 84,some (78,true),255⟩,⟨.bin .eql (.tmp 83) (.tmp 84),some 85,some (78,true),16383⟩,⟨.pick (.tmp 78) (.tmp 85) (.const (.bool false)),some 86,some (75,false),32767⟩,⟨.pick (.tmp 75) (.const (.bool true)) (.tmp 86),some 87,some (72,true),65535⟩,o3 (.pick (.tmp 72) (.tmp 87) (.const (.bool false))) 88 131071,mv' 88 4 262143]
def c3:SC:=(.seq (.reg false c3_0) (.seq (.reg false c3_1) (.seq (.reg true c3_2) (.seq (.seq (.reg false c3_3) (.cond (.tmp 29) (.seq (.reg false c3_4) .ret) .skip)) (.seq (.reg true c3_5) (.seq (.seq (.reg false c3_6) (.block 0 (.loop (.seq (.seq (.reg false c3_7) (.cond (.tmp 42) .skip (.exit 0))) (.seq (.block 1 (.reg false c3_9)) (.reg false c3_8)))))) (.seq (.reg false ydkz) (.seq (.seq (.reg false ydja) (.block 2 (.loop (.seq (.seq (.reg false ydks) (.cond (.tmp 54) .skip (.exit 2))) (.seq (.block 3 (.seq (.seq (.reg true ydkj) (.cond (.tmp 65) (.seq (.reg false ydje) .ret) .skip)) (.seq (.reg false ydjc) (.cond (.tmp 68) (.reg false ydid) .skip)))) (.reg false ydju)))))) (.seq (.reg false ydjj) .ret)))))))))
def c7_0:LO:=[o3 (.box 24 (.tmp 0)) 2 0,o3 (.mv (.const (.bool false))) 4 0]
def c7_1:LO:=[ld' true 6 2 20 0,o3 (.call (.func 21) [(.tmp 20),(ci' 10)]) 21 1,o3 (.alloc 27 1 [.a (.slice none 0 0),.a (.slice none 0 0)]) 5 0,o0 (.store 2 (.tmp 5) (.tmp 21)) 7]
def c7_2:LO:=[fa' 1 1 5 22 0,ld' false 1 22 23 1,ln' 23 24 3,mv' 24 6 7]
def c7_3:LO:=[mv' 1 25 0,mv' 6 26 0,cl' 39 [25,26] 27 3,mv' 27 1 7]
def c7_4:LO:=[mv' 6 28 0,o3 (.mk 3 1 8 [.i .i64 0] (.tmp 28) (.tmp 28)) 29 1,mv' 29 7 3]
def c7_5:LO:=[o3 (.mv (ci' 0)) 8 0]
def c7_6:LO:=[mv' 8 30 0,mv' 6 31 0,bn' .lss 30 31 32 3]
def c7_8:LO:=[mv' 7 35 0,mv' 8 36 0,mv' 8 37 0,mv' 1 38 0,bn' .add 37 38 39 12,mv' 6 40 0,bn' .rem 39 40 41 60,ix' 1 35 36 42 127,o0 (.store 1 (.tmp 42) (.tmp 41)) 255]
def c7_7:LO:=[mv' 8 33 0,o3 (.bin .add (.tmp 33) (ci' 1)) 34 1,mv' 34 8 3]
def c7_9:LO:=[ld' true 2 5 44 0,mv' 7 45 0,cl' 40 [44,45] 46 3,mv' 46 43 7,xt' 43 0 47 15,xt' 43 1 48 15,o3 (.alloc 27 1 [.a (.slice none 0 0),.a (.slice none 0 0)]) 9 0,o0 (.store 2 (.tmp 9) (.tmp 47)) 95,mv' 48 10 255]
def ydjm:LO:=[cl' 23 [] 50 0,ld' true 2 5 51 0,ld' true 2 5 52 0,cl' 25 [] 53 1,o3 (.call (.func 24) [(.tmp 52),(.tmp 53),(.const (.slice none 0 0))]) 54 13,o3 (.call (.func 26) [(.const (.slice none 0 0)),(ci' 12)]) 55 29,o3 (.call (.func 22) [(.tmp 50),(.tmp 51),(ci' 4),(.tmp 54),(.tmp 55)]) 56 63,mv' 56 49 127,xt' 49 0 57 255,xt' 49 1 58 255,xt' 49 2 59 255,mv' 57 11 511,mv' 58 12 3071,mv' 59 13 8191]
def ydjq:LO:=[cl' 23 [] 61 0,ld' true 2 9 62 0,ld' true 2 9 63 0,cl' 25 [] 64 1,o3 (.call (.func 24) [(.tmp 63),(.tmp 64),(.const (.slice none 0 0))]) 65 13,o3 (.call (.func 26) [(.const (.slice none 0 0)),(ci' 12)]) 66 29,o3 (.call (.func 22) [(.tmp 61),(.tmp 62),(ci' 4),(.tmp 65),(.tmp 66)]) 67 63,mv' 67 60 127,xt' 60 0 68 255,xt' 60 1 69 255,xt' 60 2 70 255,mv' 68 14 511,mv' 69 15 3071,mv' 70 16 8191]
def ydkf:LO:=[mv' 10 71 0,o3 (.bin .neq (.tmp 71) (ci' 0)) 72 1,mv' 72 73 3,⟨.mv (.tmp 13),some 74,some (73,false),7⟩,⟨.un .not (.tmp 74),some 75,some (73,false),15⟩,o3 (.pick (.tmp 73) (.const (.bool true)) (.tmp 75)) 76 31,mv' 76 77 63,⟨.mv (.tmp 16),some 78,some (77,false),127⟩,⟨.un .not (.tmp 78),some 79,some (77,false),255⟩,o3 (.pick (.tmp 77) (.const (.bool true)) (.tmp 79)) 80 511]
def ydil:LO:=[o3 (.mv (.const (.bool false))) 4 0]
def ydiz:LO:=[ld' true 2 5 81 0,mv' 11 82 0,mv' 11 83 0,ln' 83 84 4,o3 (.bin .sub (.tmp 84) (ci' 1)) 85 12,ix' 1 82 85 86 30,ld' false 1 86 87 62,cl' 27 [81,87] 88 127,ld' true 2 9 89 0,mv' 14 90 0,mv' 14 91 0,ln' 91 92 1024,o3 (.bin .sub (.tmp 92) (ci' 1)) 93 3072,ix' 1 90 93 94 7680,ld' false 1 94 95 15872,cl' 27 [89,95] 96 32767,mv' 88 17 65535,mv' 96 18 131071]
def ydix:LO:=[o3 (.mv (ci' 0)) 19 0]
def ydjw:LO:=[mv' 19 97 0,mv' 6 98 0,bn' .lss 97 98 99 3]
def ydkl:LO:=[mv' 17 102 0,mv' 19 103 0,cl' 29 [102,103] 104 3,mv' 18 105 0,mv' 7 106 0,mv' 19 107 0,ix' 1 106 107 108 48,ld' false 1 108 109 112,cl' 29 [105,109] 110 255,o3 (.beq true (.tmp 104) (.tmp 110)) 111 511]
def ydka:LO:=[o3 (.mv (.const (.bool false))) 4 0]
def ydjh:LO:=[mv' 19 100 0,o3 (.bin .add (.tmp 100) (ci' 1)) 101 1,mv' 101 19 3]
def ydkg:LO:=[cl' 30 [] 112 0,mv' 112 113 1,⟨.mv (.tmp 17),some 114,some (113,true),3⟩,⟨.bin .neq (.tmp 114) (.const (.int .u32 0)),some 115,some (113,true),7⟩,o3 (.pick (.tmp 113) (.tmp 115) (.const (.bool false))) 116 15,mv' 116 4 31]
def c7:SC:=(.seq (.reg false c7_0) (.seq (.reg false c7_1) (.seq (.reg false c7_2) (.seq (.reg false c7_3) (.seq (.reg false c7_4) (.seq (.seq (.reg false c7_5) (.block 0 (.loop (.seq (.seq (.reg false c7_6) (.cond (.tmp 32) .skip (.exit 0))) (.seq (.block 1 (.reg false c7_8)) (.reg false c7_7)))))) (.seq (.reg false c7_9) (.seq (.reg true ydjm) (.seq (.reg true ydjq) (.seq (.seq (.reg false ydkf) (.cond (.tmp 80) (.seq (.reg false ydil) .ret) .skip)) (.seq (.reg true ydiz) (.seq (.seq (.reg false ydix) (.block 2 (.loop (.seq (.seq (.reg false ydjw) (.cond (.tmp 99) .skip (.exit 2))) (.seq (.block 3 (.seq (.reg true ydkl) (.cond (.tmp 111) (.seq (.reg false ydka) .ret) .skip))) (.reg false ydjh)))))) (.seq (.reg false ydkg) .ret)))))))))))))
end Sh
end
section
def yfz(g:Gr)(k:Nat):Nat:=((g.ports.take k).map zBA).sum
theorem ypb{g:Gr}{k:Nat}(h:k<g.ports.length):yfz g (k+1)=yfz g k+(g.ports.getD k []).length:=by
 unfold yfz;rw[zI h,zBQ,List.sum_append,Sh.getD_at h];simp
theorem yop{g:Gr}(hg:ybg g):∀k,k<=g.ports.length->yfz g k<=24*k
 |0,_=>by simp[yfz]
 | k+1,h=>by
   rw[ypb (by omega)]
   have:=yop hg k (by omega)
   have:=hg.deg_lt (v:=k);omega
theorem ybfj(g:Gr):yfz g g.ports.length=ygf g:=by unfold yfz ygf;rw[zAB]
def ybgl(g:Gr):Nat:=ygf g/2
namespace Sh
open Ev Go.RowKit
def yctf(g:Gr):List SV:=if ygb g=true then[.i .i64 g.ports.length,.i .i64 (ybgl g)]else[.i .i64 0,.i .i64 0]
theorem ybzh(n:Nat):((n:Nat):Int).tdiv 2=((n/2:Nat):Int):=by
 rw[Int.tdiv_eq_ediv_of_nonneg (by omega)]
 omega
theorem ybrs{g:Gr}(hI:GrI g):Returns zZ 122 [grV g] (.tp (yctf g)):=by
 refine Returns.of (ycxc _ _ ?_);have hV:=yva hI;unfold yctf;cases hv:ygb g with
 | false =>
   rw[hv]at hV;simp only[grV]at hV;simp only[c122,ybpi,ybno,ycmz,grV,clash,go_sem,zA,zB,zC,↓reduceIte];refine hV.use ?_;simp only[ybh,clash,go_sem,zA,zB,↓reduceIte];exact Sim.refl _
 | true =>
   have hg:=(yid g).1 hv;have h24:=hg.2.1;have hpl:=hg.2.2.1;obtain⟨n,hn⟩:∃n,g.ports.length=n:=⟨_,rfl⟩;rw[hv]at hV;simp only[grV]at hV;rw[hn]at h24 hpl;simp only[c122,ybpi,ybno,ycfc,grV,clash,go_sem,zA,zB,zC,↓reduceIte];refine hV.use ?_;simp only[ybh,ybe,hn,clash,go_sem,zA,zB,↓reduceIte,reduceCtorEq];refine ybn (σ:=Nat) (fun k=>⟨[(12,.i .i64 k),(11,.i .i64 n),(10,ybe g.ports),(3,.i .i64 (yfz g k:Nat)),(1,.pt (1,0) 0 0)],[(1,.one (some ⟨27,true,2,1,fun _=>[yw g.ids,ybe g.ports]⟩))]⟩) (fun k=>k<=n) (fun k=>n-k) 0 (zW _) ?_ ?_
   .refine yh [] [] [] ?_;simp only[ybe,hn,allQ,live,yc,yba,zU,go_sem,zA,↓reduceIte,reduceCtorEq];rfl
   intro k hk
   by_cases hlt:k<n
   .have t1:decide ((k:Int)<(n:Int))=true:=decide_eq_true (by omega)
    have hs:=ypb (g:=g) (k:=k) (by omega)
    have hb:=yop hg k (by omega)
    have hd:=hg.deg_lt (v:=k);obtain⟨d,hdd⟩:∃d,(g.ports.getD k []).length=d:=⟨_,rfl⟩;rw[hdd]at hs hd;have e:(yfz g k:Int)+(d:Int)=((yfz g (k+1):Nat):Int):=by rw[hs];omega
    simp only[ybmu,yces,ycfy,ycdo,ybe,ybd,hn,t1,hdd,e,clash,go_sem,zA,zB,↓reduceIte,reduceCtorEq];refine⟨by omega,ikw (by omega) (by omega),ikw (by omega) (by omega),?_⟩
    refine yu (k+1) (by omega) (by omega) ?_
    refine yh [] [] [] ?_;simp only[allQ,live,yc,yba,go_sem,zA,↓reduceIte,reduceCtorEq];omega
   .obtain rfl:k=n:=by omega
    have t1:decide ((k:Int)<(k:Int))=false:=decide_eq_false (by omega)
    have hb:=yop hg k (by omega)
    have e:=ybfj g;rw[hn]at e;have e2:=ybzh (yfz g k);simp only[ybmu,ycrs,ybe,yw,hn,hpl,t1,e2,clash,go_sem,zA,zB,zD,↓reduceIte,reduceCtorEq];unfold ybgl;rw[<-e];exact⟨⟨by decide,ikw (by omega) (by omega)⟩,Sim.refl _⟩
theorem ybmr{g:Gr}(hI:GrI g):Returns zZ 136 [grV g] (.b (yhi g)):=by
 refine Returns.of (yctn _ _ ?_);have hC:=ybuh hI;have hS:=ybrs hI;unfold yhi;cases hcn:ygq g with
 | false =>
   rw[hcn]at hC;simp only[grV]at hC;simp only[c136,ybms,ybmv,ycgu,grV,clash,go_sem,zA,zB,zC,↓reduceIte];refine hC.use ?_;simp only[ybh,clash,go_sem,zB,↓reduceIte];exact Sim.refl _
 | true =>
   have hv:=ybfn hcn;have hg:=(yid g).1 hv;have h24:=hg.2.1;rw[hcn]at hC;unfold yctf at hS;rw[if_pos hv]at hS;simp only[grV]at hC hS;simp only[c136,ybms,ybmv,yckp,ycho,grV,clash,go_sem,zA,zB,zC,↓reduceIte];refine hC.use ?_;simp only[ybh,clash,go_sem,zA,zB,↓reduceIte,reduceCtorEq];refine hS.use ?_;simp only[go_sem,zA,↓reduceIte];refine⟨ikw (by omega) (by omega),?_⟩
   have e:(((ybgl g:Nat):Int)==(g.ports.length:Int)-1)=decide (ygf g/2+1=g.ports.length):=by
    rw[zAY,beq_iff_eq,decide_eq_true_iff];unfold ybgl;omega
   rw[<-e];exact Sim.refl _
end Sh
end
section
theorem Tr.rch_le{g:Gr}(h:Tr g){v u:Nat}(hu:adj g v u):1<=rchP g v u/\rchP g v u<=24:=by
 obtain⟨w,hw,_,e⟩:=h.rch_ex hu;have:=h.lt_n hw (h.good.adj_lt hu).1;have:=h.good.2.1;have:=h.rch_pos hu;omega
def htS(g:Gr)(v i:Nat):Int×Int:=(((g.ports.getD v []).take i).map fun l=>rchP g v l.1.toNat).foldl ypa (0,0)
theorem ybhl{g:Gr}{v i:Nat}(hi:i<(g.ports.getD v []).length):htS g v (i+1)=ypa (htS g v i) (rchP g v ((g.ports.getD v []).getD i (0,0)).1.toNat):=by
 unfold htS;rw[zI hi,zBQ,zY,Sh.getD_at hi];rfl
theorem ybtw(g:Gr)(v:Nat):(htS g v (g.ports.getD v []).length).2=htP g v:=by
 unfold htS;rw[zAB];exact ycvy g v
theorem ybpf{g:Gr}(h:Tr g){v:Nat}(hv:v<g.ports.length):∀i,i<=(g.ports.getD v []).length->(0<=(htS g v i).2/\(htS g v i).2<=(htS g v i).1)/\(htS g v i).1<=24
 |0,_=>by simp[htS]
 | i+1,hi=>by
   have ih:=ybpf h hv i (by omega)
   have hm:(g.ports.getD v []).getD i (0,0)∈g.ports.getD v []:=by rw[Sh.getD_at (show i<_ by omega)];exact zN _
   have hr:=h.rch_le (ydc h.good hv hm).2.2.1;rw[ybhl (by omega)]
   unfold ypa;simp only;omega
theorem Tr.ht_le{g:Gr}(h:Tr g){v:Nat}(hv:v<g.ports.length):0<=htP g v/\htP g v<=24:=by
 have:=ybpf h hv _ (zG _);rw[<-ybtw g v];omega
def rchS(g:Gr)(v u i:Nat):Int:=((g.ports.getD u []).take i).foldl (ynl g v u) 1
theorem ybuk{g:Gr}{v u i:Nat}(hi:i<(g.ports.getD u []).length):rchS g v u (i+1)=ynl g v u (rchS g v u i) ((g.ports.getD u []).getD i (0,0)):=by
 unfold rchS;rw[zI hi,zY,Sh.getD_at hi];rfl
namespace Sh
open Ev Go.RowKit
theorem ybat{g:Gr}(h:Tr g):∀(k v u:Nat),adj g v u->(rchP g v u).toNat<=k->Returns zZ 142 [grV g,.i .i64 v,.i .i64 u] (.i .i64 (rchP g v u))
 |0,v,u,hu,hk=>by have:=h.rch_pos hu;omega
 | k + 1,v,u,hu,hk=>by
   refine Returns.of (ycwj _ _ ?_);have ih:=ybat h k;obtain⟨hv,hul⟩:=h.good.adj_lt hu;have h24:=h.good.2.1;have hlo:=h.rch_loop hu;have hrs:∀i,rchS g v u i=((g.ports.getD u []).take i).foldl (ynl g v u) 1:=fun _=>rfl;have hsu:=fun i=>ybuk (g:=g) (v:=v) (u:=u) (i:=i);have hle:=h.rch_le hu;obtain⟨L,hL⟩:∃L,g.ports.getD u []=L:=⟨_,rfl⟩;have hdeg:=h.good.deg_lt (v:=u)
   have hadj:∀l∈L,0<=l.1/\l.1.toNat<g.ports.length/\adj g u l.1.toNat:=fun l hl=>by
    obtain⟨a,b,c,_⟩:=ydc h.good hul (by rw[hL];exact hl)
    exact⟨a,b,c⟩
   have hless:∀l∈L,l.1≠(v:Int)->rchP g u l.1.toNat<rchP g v u:=fun l hl=>h.rch_less hu (by rw[hL];exact hl)
   rw[hL]at hlo hdeg hrs;simp only[hL]at hsu;obtain⟨d,hd⟩:∃d,L.length=d:=⟨_,rfl⟩;obtain⟨S,hS⟩:∃S:Nat->Int,(fun i=>rchS g v u i)=S:=⟨_,rfl⟩;have hS':∀i,rchS g v u i=S i:=fun i=>by rw[<-hS]
   simp only[hS']at hsu hrs;rw[hd]at hdeg hsu;have hS0:S 0=1:=by rw[hrs];rfl
   have hSd:S d=rchP g v u:=by rw[hrs,<-hd,zAB,hlo]
   rw[<-hSd]at hless hle ⊢;simp only[grV]at ih;simp only[c142,ycdy,ycpc,ycid,grV,ybe,ybd,hL,hd,clash,go_sem,zA,zB,zC,↓reduceIte,reduceCtorEq];refine⟨⟨by omega,by omega⟩,?_⟩
   refine ybn (σ:=Nat) (fun i=>⟨[(16,.i .i64 i),(15,.i .i64 d),(14,ybd L),(7,.i .i64 (S i)),(1,.i .i64 v),(2,.i .i64 u),(3,.pt (3,0) 0 0)],[(3,.one (some ⟨27,true,2,1,fun _=>[yw g.ids,ybe g.ports]⟩))]⟩) (fun i=>i<=d) (fun i=>d-i) 0 (zW _) ?_ ?_
   .refine yh [] [] [] ?_;simp only[ybe,ybd,hd,hS0,allQ,live,yc,zU,go_sem,zA,↓reduceIte,reduceCtorEq]
   intro i hi
   by_cases hlt:i<d
   .have t1:decide ((i:Int)<(d:Int))=true:=decide_eq_true (by omega)
    have hm:L.getD i (0,0)∈L:=by rw[getD_at (show i<L.length by omega)];exact zN _
    have hss:=hsu i hlt;obtain⟨l,hl⟩:∃l,L.getD i (0,0)=l:=⟨_,rfl⟩;rw[hl]at hm hss;obtain⟨a1,a2,a3⟩:=hadj l hm
    by_cases hlv:l.1=(v:Int)
    .have t2:(l.1 != (v:Int))=false:=by rw[hlv];simp
     have e:S (i+1)=S i:=by
      rw[hss];unfold ynl;rw[if_neg (by rw[t2];decide)]
     simp only[ybgd,ybrw,ybtv,ybvl,ybd,hd,hl,t1,t2,splice,clash,go_sem,zA,zB,zD,zC,↓reduceIte,reduceCtorEq];refine⟨by omega,ikw (by omega) (by omega),?_⟩
     refine yu (i+1) (by omega) (by omega) ?_
     refine yh [] [] [] ?_;simp only[e,allQ,live,yc,yba,go_sem,zA,↓reduceIte,reduceCtorEq];omega
    .have t2:(l.1 != (v:Int))=true:=by rw[bne_iff_ne];exact hlv
     have hlr:=hless l hm hlv;have hlb:=h.rch_le a3;have hR:=ih u l.1.toNat a3 (by rw[<-hSd]at hk;omega)
     rw[zAS a1]at hR
     have e:S (i+1)=max (S i) (1+rchP g u l.1.toNat):=by
      rw[hss];unfold ynl;rw[if_pos t2]
     obtain⟨r,hr⟩:∃r,rchP g u l.1.toNat=r:=⟨_,rfl⟩;rw[hr]at hR e hlb;simp only[ybgd,ybrw,ybtv,ycgy,ybvl,ybd,hd,hl,t1,t2,splice,clash,go_sem,zA,zB,zD,zC,↓reduceIte,reduceCtorEq];refine⟨by omega,hR.use ?_⟩
     simp only[ybh,clash,go_sem,zA,zB,↓reduceIte,reduceCtorEq];refine⟨ikw (by omega) (by omega),ikw (by omega) (by omega),?_⟩
     refine yu (i+1) (by omega) (by omega) ?_
     refine yh [] [] [] ?_;simp only[e,allQ,live,yc,yba,go_sem,zA,↓reduceIte,reduceCtorEq];omega
   .obtain rfl:i=d:=by omega
    have t1:decide ((i:Int)<(i:Int))=false:=decide_eq_false (by omega)
    simp only[ybgd,ycrz,t1,clash,go_sem,zA,zB,↓reduceIte,reduceCtorEq];exact Sim.refl _
set_option maxHeartbeats 1000000 in
theorem ybda{g:Gr}(h:Tr g):Returns zZ 91 [grV g] (yw (mapR g.ports.length (htP g))):=by
 refine Returns.of (ydhy _ _ ?_);have hg:=h.good;have h24:=hg.2.1;have hpl:=hg.2.2.1;obtain⟨n,hn⟩:∃n,g.ports.length=n:=⟨_,rfl⟩;rw[hn]at h24 hpl ⊢;simp only[c91,ydhu,ydfb,ydfv,grV,yw,ybe,hpl,hn,clash,go_sem,zA,zB,zD,zC,↓reduceIte,reduceCtorEq];refine⟨⟨by omega,by omega,by omega⟩,?_⟩
 refine ybn (σ:=Nat) (fun v=>⟨[(17,.i .i64 v),(16,.i .i64 n),(15,ybe g.ports),(3,.os (13,0) 0 n true),(1,.pt (1,0) 0 0)],[(13,.one (some ⟨3,false,1,n,fun j=>[.i .i64 (if j<v then htP g j else 0)]⟩)),(1,.one (some ⟨27,true,2,1,fun _=>[yw g.ids,ybe g.ports]⟩))]⟩) (fun v=>v<=n) (fun v=>n-v) 0 (zW _) ?_ ?_
 .refine yh [] [] [] ?_;simp only[yw,ybe,hpl,hn,zAI,allQ,live,yc,zU,go_sem,zA,↓reduceIte,reduceCtorEq]
 intro v hv
 by_cases hlt:v<n
 .have t1:decide ((v:Int)<(n:Int))=true:=decide_eq_true (by omega)
  have hend:=ybtw g v;have hsu:=fun i=>ybhl (g:=g) (v:=v) (i:=i);have hsl:=ybpf h (v:=v) (by omega)
  have hdeg:=hg.deg_lt (v:=v);have hadj:=fun(l:Int×Int) (hl:l∈g.ports.getD v [])=>ydc hg (by omega) hl
  obtain⟨L,hL⟩:∃L,g.ports.getD v []=L:=⟨_,rfl⟩;obtain⟨d,hd⟩:∃d,L.length=d:=⟨_,rfl⟩;rw[hL,hd]at hend hdeg hsl;rw[hL]at hadj;simp only[hL,hd]at hsu;obtain⟨S,hS⟩:∃S:Nat->Int×Int,(fun i=>htS g v i)=S:=⟨_,rfl⟩;have hS':∀i,htS g v i=S i:=fun i=>by rw[<-hS]
  have hS0:S 0=(0,0):=by rw[<-hS'];rfl
  simp only[hS']at hsu hsl hend;simp only[yczb,ydhp,ydic,ydcp,ybe,ybd,hn,hL,hd,t1,clash,go_sem,zA,zB,↓reduceIte,reduceCtorEq];refine⟨by omega,?_⟩
  refine ybn (σ:=Nat) (fun i=>⟨[(24,.i .i64 i),(23,.i .i64 d),(22,ybd L),(6,.i .i64 (S i).1),(4,.i .i64 v),(17,.i .i64 v),(16,.i .i64 n),(15,ybe g.ports),(3,.os (13,0) 0 n true),(1,.pt (1,0) 0 0)],[(13,.one (some ⟨3,false,1,n,fun j=>[.i .i64 (if j<v then htP g j else if j=v then(S i).2 else 0)]⟩)),(1,.one (some ⟨27,true,2,1,fun _=>[yw g.ids,ybe g.ports]⟩))]⟩) (fun i=>i<=d) (fun i=>d-i) 0 (zW _) ?_ ?_
  .refine yh [] [] [] ?_;simp only[yw,ybe,ybd,hn,hd,hS0,allQ,live,yc,yba,zU,go_sem,zA,↓reduceIte,reduceCtorEq];intro j hj;split
   .rfl
   .split<;>rfl
  intro i hi
  by_cases hlti:i<d
  .have t2:decide ((i:Int)<(d:Int))=true:=decide_eq_true (by omega)
   have hm:L.getD i (0,0)∈L:=by rw[getD_at (show i<L.length by omega)];exact zN _
   have hss:=hsu i hlti;have hb:=hsl i hi;obtain⟨l,hl⟩:∃l,L.getD i (0,0)=l:=⟨_,rfl⟩;rw[hl]at hm hss;obtain⟨a1,a2,a3,_⟩:=hadj l hm;have hR:=ybat h _ v l.1.toNat a3 (zG _);have hrb:=h.rch_le a3;rw[zAS a1]at hR;obtain⟨r,hr⟩:∃r,rchP g v l.1.toNat=r:=⟨_,rfl⟩;rw[hr]at hR hss hrb;have e1:(S (i+1)).1=max (S i).1 r:=by rw[hss];rfl
   have e2:(S (i+1)).2=max (S i).2 (min r (S i).1):=by rw[hss];rfl
   simp only[grV]at hR;have i0:(if v<v then htP g v else if v=v then(S i).2 else 0)=(S i).2:=by rw[if_neg (zBV v),if_pos rfl]
   have i1:(if v=v then(S i).2 else 0)=(S i).2:=if_pos rfl
   simp only[ycxu,ydfm,ydgn,ybd,hd,hl,t2,splice,clash,go_sem,zA,zB,zD,zC,↓reduceIte,reduceCtorEq];refine⟨by omega,hR.use ?_⟩
   simp only[ybh,yckg,ycnh,ycgt,splice,clash,<-e1,<-e2,go_sem,zA,zB,↓reduceIte,reduceCtorEq];refine⟨⟨by omega,by omega⟩,by omega,⟨by omega,by omega⟩,by omega,ikw (by omega) (by omega),?_⟩
   refine yu (i+1) (by omega) (by omega) ?_
   refine yh [] [] [] ?_;simp only[yw,ybe,ybd,hn,allQ,live,yc,yba,go_sem,zA,↓reduceIte,reduceCtorEq];refine⟨by omega,fun j hj=>?_⟩
   by_cases q:j=v
   .subst q;simp only[if_pos,if_neg (zBV j)];simp only[go_sem,live,yc,go_sem,reduceCtorEq]
   .simp only[if_neg q];simp only[go_sem,live,yc,go_sem,reduceCtorEq]
  .obtain rfl:i=d:=by omega
   have t2:decide ((i:Int)<(i:Int))=false:=decide_eq_false (by omega)
   simp only[ycxu,ycga,t2,clash,go_sem,zA,zB,↓reduceIte,reduceCtorEq];refine⟨ikw (by omega) (by omega),?_⟩
   refine yu (v+1) (by omega) (by omega) ?_
   refine yh [] [] [] ?_;simp only[yw,ybe,ybd,hn,allQ,live,yc,yba,go_sem,zA,↓reduceIte,reduceCtorEq];refine⟨by omega,fun j hj=>?_⟩
   by_cases q:j<v
   .rw[if_pos q,if_pos (by omega)]
   .rw[if_neg q]
    by_cases q2:j=v
    .rw[if_pos q2,if_pos (by omega),q2,hend]
    .rw[if_neg q2,if_neg (by omega)]
 .obtain rfl:v=n:=by omega
  have t1:decide ((v:Int)<(v:Int))=false:=decide_eq_false (by omega)
  simp only[yczb,ycma,t1,clash,go_sem,zA,zB,↓reduceIte,reduceCtorEq];rw[yjy];refine yhz fun j hj=>?_;rw[gmR _ _ _ _ hj,if_pos hj]
end Sh
end
section
section
variable {g:Gr}{t u v:Nat}
end
end
section
section
variable {g:Gr}{t u v a:Nat}
end
end
section
def pkL(f:Nat->Int)(v:Nat)(s:Nat)(l:Int×Int):Nat:=if f v<f l.1.toNat then difB s (2^v)else s
def pkV(f:Nat->Int)(g:Gr)(s v:Nat):Nat:=(g.ports.getD v []).foldl (pkL f v) s
def yia(f:Nat->Int)(g:Gr):Nat:=(zF g.ports.length).foldl (pkV f g) (2^g.ports.length-1)
section
variable {g:Gr}{f:Nat->Int}
theorem ybfz{v i:Nat}:∀(ls:List (Int×Int)) (s:Nat),(ls.foldl (pkL f v) s).testBit i=true↔s.testBit i=true/\(i=v->∀l∈ls,f l.1.toNat<=f v)
 |[],s=>⟨fun h=>⟨h,fun _ _ hl=>nomatch hl⟩,fun h=>h.1⟩
 | l :: ls,s=>by
   rw[zAH,ybfz ls]
   have hb:(pkL f v s l).testBit i=true↔s.testBit i=true/\(i=v->f l.1.toNat<=f v):=by
    unfold pkL
    by_cases q:f v<f l.1.toNat
    .rw[if_pos q,ygw,zQ,zAM,zBF,decide_eq_false_iff_not];exact and_congr Iff.rfl ⟨fun h e=>absurd e.symm h,fun h e=>by have:=h e.symm;omega⟩
    .rw[if_neg q];exact⟨fun h=>⟨h,fun _=>by omega⟩,fun h=>h.1⟩
   rw[hb];constructor
   .rintro⟨⟨h1,h2⟩,h3⟩;refine⟨h1,fun e x hx=>?_⟩;rcases List.mem_cons.1 hx with r|r
    .rw[r];exact h2 e
    .exact h3 e x r
   .rintro⟨h1,h2⟩;exact⟨⟨h1,fun e=>h2 e l zJ⟩,fun e x hx=>h2 e x (zH _ hx)⟩
theorem ybfs{i:Nat}:∀(vs:List Nat) (s:Nat),(vs.foldl (pkV f g) s).testBit i=true↔s.testBit i=true/\(i∈vs->∀l∈g.ports.getD i [],f l.1.toNat<=f i)
 |[],s=>⟨fun h=>⟨h,fun hl=>nomatch hl⟩,fun h=>h.1⟩
 | v :: vs,s=>by
   rw[zAH,ybfs vs];have hb:(pkV f g s v).testBit i=true↔s.testBit i=true/\(i=v->∀l∈g.ports.getD v [],f l.1.toNat<=f v):=ybfz _ _;rw[hb];constructor
   .rintro⟨⟨h1,h2⟩,h3⟩;refine⟨h1,fun hm=>?_⟩;rcases List.mem_cons.1 hm with r|r
    .subst r;exact h2 rfl
    .exact h3 r
   .rintro⟨h1,h2⟩;exact⟨⟨h1,fun e=>by subst e;exact h2 zJ⟩,fun hm=>h2 (zH _ hm)⟩
theorem yrm(hg:ybg g){v:Nat}:(yia f g).testBit v=true↔v<g.ports.length/\∀u,adj g v u->f u<=f v:=by
 unfold yia;rw[ybfs,Nat.testBit_two_pow_sub_one,decide_eq_true_iff,zBS];constructor
 .rintro⟨h1,h2⟩;refine⟨h1,fun u hu=>?_⟩;obtain⟨l,hl,e⟩:=yif hu;rw[<-e];exact h2 h1 l hl
 .rintro⟨h1,h2⟩;exact⟨h1,fun _ l hl=>h2 _ (ydc hg h1 hl).2.2.1⟩
end
end
section
namespace Sh
open Go Ev Go.RowKit
section
variable {m:Mem}{F:AM}
theorem row_of{z bk p n cp N e zz:Nat}{Tb:Ev.T Value}{L:Nat->List Value}(h1:m.b.get bk=some (.cells Tb N e zz))(h2:0<n)(h3:p+n*z<=N)(h4:∀a,a<n->(L a).length=z)(h5:∀a,a<n->∀j,j<z->Tb.get (p+a*z+j)=(L a)[j]?) :
 rowOf m z (.slice (some ⟨bk,p,none⟩) n cp)=some (ybz L n,[bk]):=by
 have hl:=ycy h4;show(bif zCB n 0 then _ else _)=_;rw[show zCB n 0=false by cases n with|zero=>omega|succ n=>rfl]
 simp only[cond_false];rw[h1];simp only;rw[zAJ h3];simp only[cond_true]
 have hg:=ygi (T:=Tb) (L:=ybz L n) (o:=p) (fun j hj=>by
  rw[hl]at hj;rcases zAU z with hz|hz
  .subst hz;omega
  .have hd:=Nat.div_add_mod j z;have hm:=Nat.mod_lt j hz;have hk:j/z<n:=Nat.div_lt_of_lt_mul (by rwa [zBX]at hj)
   have e1:j=j/z*z+j%z:=by rw[zBX];exact hd.symm
   rw[e1,yfd h4 _ _ hk hm,<-Nat.add_assoc];exact h5 _ hk _ hm)
 rw[hl]at hg;rw[hg]
theorem row_zero{u:Value}(h:Z0 u)(z:Nat):rowOf m z u=some ([],[]):=by
 rcases h with rfl|⟨b,o,c,rfl⟩
 .rfl
 .rfl
theorem in64{n:Int}(h:I64 n):inI64 n=true:=by
 unfold I64 at h;unfold inI64;split
 .rename_i k;exact zAJ (by simp only[Int.ofNat_eq_natCast]at h;omega)
 .rename_i k;exact zAJ (by omega)
theorem ypw{a b:Int}(ha:I64 a)(hb:I64 b):∀{l:List Value}{r:List (Int×Int)},pairsOf l=some r->pairsOf (l++[.int .i64 a,.int .i64 b])=some (r++[(a,b)])
 | [],r,h=>by
   cases h
   show(bif inI64 a&&inI64 b then _ else _)=_;rw[in64 ha,in64 hb];rfl
 | .int .i64 x :: .int .i64 y::l,r,h=>by
   unfold pairsOf at h;split at h
   .rename_i r' hr
    rw[Bool.cond_eq_ite]at h;split at h
    .rename_i hc
     cases h
     show(match pairsOf (l++[.int .i64 a,.int .i64 b])with|some r=>bif inI64 x&&inI64 y then some ((x,y)::r)else none|none=>none)=_
     rw[ypw ha hb hr];simp only[hc,cond_true];rfl
    .cases h
   .cases h
theorem ybik(hF:Le F m.b.get){ls:List (Int×Int)}{u:Value}(h:RV F om0 (ybd ls) u)(hI:∀l∈ls,I64 l.1/\I64 l.2):linksOf m u=some ls:=by
 unfold linksOf;rcases h.sl_inv with⟨h0,hz⟩|⟨bk,p,cp,T,N,e,zz,L,rfl,g1,g2,g3,g4,g5,g6,g7⟩
 .rw[row_zero hz];have:ls=[]:=zO h0;subst this;rfl
 .rcases zAU ls.length with h0|h0
  .have:ls=[]:=zO h0;subst this;rfl
  .rw[row_of (hF _ _ g1) h0 g3 g4 g5]
   have:∀n,n<=ls.length->pairsOf (ybz L n)=some (ls.take n):=by
    intro n
    induction n with
    |zero=>intro _;rfl
    | succ n ih =>
      intro hn;have hn':n<ls.length:=by omega
      have hl:=g6 n hn'
      have e1:L n=[.int .i64 ls[n].1,.int .i64 ls[n].2]:=by
       have e0:ls.getD n (0,0)=ls[n]:=by simp[zAC,hn']
       rw[e0]at hl;obtain⟨x,y,e2,hx,hy⟩:=rvl2 hl;rw[e2,hx.int_inv,hy.int_inv]
      show pairsOf (ybz L n++L n)=_;rw[e1,zI hn'];have:=hI ls[n] (zN hn');exact ypw this.1 this.2 (ih (by omega))
   simp only;rw[this _ (zG _),zAB]
theorem yblo{α β:Type}{f:α->Option β}:∀{l:List α}{r:List β},l.length=r.length->(∀(k:Nat) x y,l[k]?=some x->r[k]?=some y->f x=some y)->mapO f l=some r
 |[],[],_,_=>rfl
 | x::l,y::r,hl,h=>by
   unfold mapO;rw[h 0 x y rfl rfl];simp only;rw[yblo (by simpa using hl) fun k a b h1 h2=>h (k+1) a b (by simpa using h1) (by simpa using h2)]
 |[],_::_,hl,_=>by simp at hl
 |_::_,[],hl,_=>by simp at hl
theorem ybmy{L:Nat->List Value}{n:Nat}(h:∀a,a<n->(L a).length=1){k:Nat}(hk:k<n):(ybz L n)[k]?=(L k)[0]?:=by
 have:=yfd h k 0 hk (by omega)
 simpa using this
theorem ybjq{ids:SV}{P:List (List (Int×Int))}{u:Value}(h:RV F om0 (.rf [ids,ybe P]) u)(hI:∀ls∈P,∀l∈ls,I64 l.1/\I64 l.2) :
 ∃A v us,u = .pointer (some A)/\∀m:Mem,Le F m.b.get->graphOf m A=some ⟨v,us,P⟩:=by
 obtain⟨bk,p,T,N,e,zz,L,rfl,h1,h2,h3,h4,_⟩:=h.rf_inv;cases h4 with
 | cons a0 b0 =>
   cases b0 with
   | cons a1 b1 =>
     rename_i u0 _ u1 _
     cases b1
     have hbox:∀m:Mem,Le F m.b.get->boxPorts m ⟨bk,p,none⟩=some u1:=fun m hF=>by
      unfold boxPorts;simp only;rw[hF _ _ h1];simp only;rw[show Nat.blt (p+1) N=true from zAJ (show p+1+1<=N by simp at h2;omega)]
      simp only[cond_true];exact h3 1 (by simp)
     have fin:∀(us:List Value) (ft:List Nat),(∀m:Mem,Le F m.b.get->rowOf m 1 u1=some (us,ft))->us.length=P.length->(∀(k:Nat) x y,us[k]?=some x->P[k]?=some y->RV F om0 (ybd y) x) ->
      ∃A v us,Value.pointer (some ⟨bk,p,none⟩) = .pointer (some A)/\∀m:Mem,Le F m.b.get->graphOf m A=some ⟨v,us,P⟩:=fun us ft hr hl hx=>by
      refine⟨_,u1,us,rfl,fun m hF=>?_⟩;unfold graphOf;rw[hbox m hF];show ob (rowOf m 1 u1) _=_;rw[hr m hF];show ob (mapO (linksOf m) us) _=_;rw[yblo hl fun k x y q1 q2=>ybik hF (hx k x y q1 q2) (hI y (List.mem_of_getElem? q2))];rfl
     rcases a1.sl_inv with⟨k0,hz⟩|⟨bk',p',cp,T',N',e',zz',L',rfl,g1,g2,g3,g4,g5,g6,g7⟩
     .have:P=[]:=zO k0;subst this;exact fin [] [] (fun m _=>row_zero hz 1) rfl (fun k x y q _=>by simp at q)
     .rcases zAU P.length with h0|h0
      .have:P=[]:=zO h0;subst this;exact fin [] [] (fun m _=>rfl) rfl (fun k x y q _=>by simp at q)
      .refine fin (ybz L' P.length) [bk'] (fun m hF=>row_of (hF _ _ g1) h0 g3 g4 g5) (by rw[ycy g4,Nat.mul_one]) fun k x y q1 q2=>?_
       have hk:k<P.length:=(List.getElem?_eq_some_iff.1 q2).1;rw[ybmy g4 hk]at q1;have hl:=g6 k hk;have e0:P.getD k []=y:=by simp[zAC,q2]
       rw[e0]at hl;obtain⟨v,e1,hv⟩:=rvl1 hl;rw[e1]at q1;cases q1
       exact hv
end
def yei(P:List (List (Int×Int)))(k:Nat):El:=(flatAt 0 P).getD k ⟨0,0,0⟩
def ybmk(P:List (List (Int×Int))):ItS:=⟨(flatAt 0 P).length,fun k=>[.i .i64 (yei P k).v,.ag [.i .i64 (yei P k).a,.i .i64 (yei P k).b]],[],fun _ _=>True,fun _ o=>o⟩
theorem ycap{ids:SV}{P:List (List (Int×Int))}(hI:∀ls∈P,∀l∈ls,I64 l.1/\I64 l.2):ItC zZ 158 [.rf [ids,ybe P]] (ybmk P):=by
 intro lo F ω s f m us hc hr _;obtain⟨u,rfl,hu⟩:=rvl1 hr
 have hu0:RV F om0 (.rf [ids,ybe P]) u:=by
  obtain⟨bk,p,T,N,e,zz,L,rfl,h1,h2,h3,h4,h5⟩:=hu.rf_inv;exact .rf h1 h2 h3 h4 h5
 obtain⟨A,v,vs,rfl,hg⟩:=ybjq hu0 hI;have el0:∀k,k<(flatAt 0 P).length->(flatAt 0 P)[k]?=some (yei P k):=fun k hk=>by simp[yei,zAC,hk]
 refine⟨⟨(flatAt 0 P).length,fun k=>[(yei P k).v0,(yei P k).v1],fun _ m=>graphOf m A=some ⟨v,vs,P⟩,fun _ m=>m,fun _ _ M w M' w'=>M'=M/\w'=w⟩,⟨yvv.1,fun k m hk hw _=>Grow.refl hw,?_,?_⟩,rfl,fun F' ω' s' f' m' k hF _ hc' hk _=>⟨hg m' (hF.trans hc'.sub),fun hk=>⟨.cons .i (.cons (.ag (.cons .i (.cons .i .nil))) .nil),hc'⟩⟩⟩
 .rintro k φ M w m M' w' hk hw hR hs hp ⟨rfl,rfl⟩;exact Good.refl hR hs
 .intro l St Stop φ M w cap' hread hgrow hyield h0 hcap;obtain⟨box,rfl,hbox⟩:=ygj hcap;refine CallsIn.mono (yvv.2 l A ⟨v,vs,P⟩ (fun pre φ' M' w'=>φ.le φ'/\(∃post,flatAt 0 P=pre++post)/\St pre.length φ' M' w') Stop φ M w box ?_ ?_ ?_ ⟨φ.le_refl,⟨_,rfl⟩,h0⟩ hbox) ?_
  .rintro pre φ' M' w' ⟨_,_,hst⟩;exact(hread _ _ _ _ hst).2
  .rintro pre φ' M' w' w'' ⟨h1,h2,hst⟩ hb;exact⟨h1,h2,hgrow _ _ _ _ _ hst hb⟩
  .rintro pre x post φ' M' w' ⟨h1,_,hst⟩ hfl;have hfl:flatAt 0 P=pre++x::post:=hfl;have hk:pre.length<(flatAt 0 P).length:=by rw[hfl];simp
   have ex:yei P pre.length=x:=by
    have:=el0 _ hk;rw[hfl,List.getElem?_append_right (zG _)]at this
    simpa using this.symm
   obtain⟨fn,tmps,asg,bd,hy1,hy2⟩:=hyield pre.length φ' M' w' [x.v0,x.v1] hk hst (by
    show VRL φ' [(yei P pre.length).v0,(yei P pre.length).v1] _;rw[ex];exact .cons (.simple rfl) (.cons (VR.atomA (v:=x.v1) rfl) .nil))
   refine⟨fn,tmps,asg,bd,hy1,hy2.mono ?_⟩
   .rintro e w'' (⟨he,φ'',M'',h3,_,h4⟩|h)
    .refine .inl ⟨he,φ'',M'',h3,Phi.le_trans h1 h3,⟨post,by rw[hfl];simp⟩,?_⟩
     rw[zAD];exact h4 M'' w'' ⟨rfl,rfl⟩
    .exact .inr h
  .rintro e w' ⟨h1,(⟨φ',M',_,_,hst⟩|h)⟩
   .exact⟨h1,.inl ⟨φ',M',hst⟩⟩
   .exact⟨h1,.inr h⟩
end Sh
end
section
namespace Sh
open Go Ev
def ycmm:LO:=[o3 (.box 27 (.tmp 0)) 1 0,o3 (.mv (.const (.nilFunc))) 2 0]
def ycob:LO:=[o3 (.mkfn 158 [] [(.tmp 1)]) 3 0,mv' 3 2 1]
def c120:SC:=(.seq (.reg false ycmm) (.seq (.reg false ycob) .ret))
theorem yczd:Fn 120 c120 [.t 2]:=fn_0 Tryz.func120 (by kernel_rfl) (by kernel_rfl)
end Sh
end
section
open Ev
theorem ybbj:∀(ps:List (List (Int×Int))) (v:Nat) (x:El),x∈flatAt v ps->v<=x.v/\x.v<v+ps.length/\(x.a,x.b)∈ps.getD (x.v-v) []
 |[],_,_,h=>absurd h zL
 | ls::l,v,x,h=>by
   rcases List.mem_append.1 h with h|h
   .obtain⟨y,hy,rfl⟩:=List.mem_map.1 h;refine⟨zG _,by simp,?_⟩
    simp only[zBI,List.getD_cons_zero];exact hy
   .obtain⟨h1,h2,h3⟩:=ybbj l (v+1) x h;refine⟨by omega,by simp only[zM];omega,?_⟩
    have e:x.v-v=(x.v-(v+1))+1:=by omega
    rw[e,List.getD_cons_succ];exact h3
theorem ybon{g:Gr}{k:Nat}(hk:k<g.ports.length):flatAt 0 (g.ports.take (k+1))=flatAt 0 (g.ports.take k)++(g.ports.getD k []).map fun x=>(⟨k,x.1,x.2⟩:El):=by
 have h:=ykz (ps:=g.ports) (k:=k) (ls:=g.ports.getD k []) (by simp[zAC,hk])
 rw[<-h];unfold yfl;rw[zAB]
theorem ybbn{α:Type}{g:Gr}(f:α->El->α)(a:α):∀k,k<=g.ports.length->(flatAt 0 (g.ports.take k)).foldl f a=(zF k).foldl (fun a v=>(g.ports.getD v []).foldl (fun a l=>f a ⟨v,l.1,l.2⟩) a) a
 |0,_=>by simp[flatAt]
 | k+1,hk=>by
   rw[ybon (by omega),zY,ybbn f a k (by omega),zAZ,zY,List.foldl_map]
   rfl
theorem ybzs{α:Type}{g:Gr}(f:α->El->α)(a:α):(flatAt 0 g.ports).foldl f a=(zF g.ports.length).foldl (fun a v=>(g.ports.getD v []).foldl (fun a l=>f a ⟨v,l.1,l.2⟩) a) a:=by
 have:=ybbn (g:=g) f a g.ports.length (zG _)
 rwa [zAB]at this
theorem ybwf{g:Gr}(hg:ybg g){k:Nat}(hk:k<(flatAt 0 g.ports).length):(Sh.yei g.ports k).v<g.ports.length/\((Sh.yei g.ports k).a,(Sh.yei g.ports k).b)∈g.ports.getD (Sh.yei g.ports k).v []:=by
 have hm:Sh.yei g.ports k∈flatAt 0 g.ports:=by unfold Sh.yei;rw[Sh.getD_at hk];exact zN hk
 obtain⟨_,h2,h3⟩:=ybbj _ _ _ hm;exact⟨by omega,by simpa using h3⟩
theorem ybuf{α:Type}{g:Gr}(f:α->El->α)(a:α){k:Nat}(hk:k<(flatAt 0 g.ports).length):((flatAt 0 g.ports).take (k+1)).foldl f a=f (((flatAt 0 g.ports).take k).foldl f a) (Sh.yei g.ports k):=by
 rw[zI hk,zY];unfold Sh.yei;rw[Sh.getD_at hk];rfl
theorem ybpe{g:Gr}(hg:ybg g):∀ls∈g.ports,∀l∈ls,I64 l.1/\I64 l.2:=fun ls hls l hl=>by
 obtain⟨v,hv,e⟩:=zAG hls;have h24:=hg.2.1;have:g.ports.getD v []=ls:=by simp[zAC,hv,e]
 obtain⟨h1,h2,_,h4,h5⟩:=ydc hg hv (by rw[this];exact hl)
 exact⟨Sh.ygk (by omega),Sh.ygk (by omega)⟩
end
section
namespace Sh
open Ev Go.RowKit
theorem ybod{g:Gr}:Returns zZ 120 [grV g] (.fn 158 [] [.rf [yw g.ids,ybe g.ports]]):=by
 refine Returns.of (yczd _ _ ?_);simp only[c120,ycmm,ycob,grV,clash,go_sem,zA,zB,zD,zC,↓reduceIte,reduceCtorEq];exact Sim.refl _
end Sh
end
section
def pkEl(f:Nat->Int)(s:Nat)(e:Ev.El):Nat:=if f e.v<f e.a.toNat then difB s (2^e.v)else s
theorem ybix(f:Nat->Int)(g:Gr):(Ev.flatAt 0 g.ports).foldl (pkEl f) (2^g.ports.length-1)=yia f g:=by
 rw[ybzs];rfl
namespace Sh
open Ev Go.RowKit
theorem yqj(o:Own)(n:Nat):∀l:List SV,allP (pok [] o n) l
 |[]=>trivial
 |v::l=>⟨by rw[ybdg];trivial,yqj o n l⟩
theorem ygu(o:Own)(n:Nat):∀l:List SV,l.map (yda [] o n)=l
 |[]=>rfl
 |v::l=>by rw[zBD,ysj,ygu o n l]
set_option maxHeartbeats 1000000 in
theorem ybvz{g:Gr}(hg:ybg g){f:Nat->Int}{h:FuncId}{cp:List SV}(hcp4:cp.any (owned 4)=false)(hf:∀v,v<g.ports.length->Returns zZ h (.i .i64 v::cp) (.i .i64 (f v))) :
 Returns zZ 81 [grV g,.fn h [] cp] (.i .u32 (yia f g)):=by
 refine Returns.of (ydcy _ _ ?_);have hcp:=ykm hcp4;have hA:=ybsi hg;have hLk:=ybod (g:=g);have h24:=hg.2.1;have hpl:=hg.2.2.1;have hpk:=ybix f g;rw[hpl]at hA;obtain⟨n,hn⟩:∃n,g.ports.length=n:=⟨_,rfl⟩;rw[hn]at hA h24 hpl hf hpk;obtain⟨A,hAe⟩:∃A,2^n-1=A:=⟨_,rfl⟩;have hAl:A<2^24:=by rw[<-hAe];have:2^n<=2^24:=zBC (by omega) h24;have:=Nat.two_pow_pos n;omega
 rw[hAe]at hA hpk;obtain⟨S,hS⟩:∃S:Nat->Nat,(fun k=>((flatAt 0 g.ports).take k).foldl (pkEl f) A)=S:=⟨_,rfl⟩;have hS0:S 0=A:=by rw[<-hS];rfl
 have hSn:S (flatAt 0 g.ports).length=yia f g:=by rw[<-hS,<-hpk];simp
 have hSs:∀k,k<(flatAt 0 g.ports).length->S (k+1)=pkEl f (S k) (yei g.ports k):=fun k hk=>by rw[<-hS];exact ybuf (pkEl f) A hk
 have hSl:∀k,k<=(flatAt 0 g.ports).length->S k<2^24:=fun k=>by
  induction k with
  |zero=>intro _;rw[hS0];exact hAl
  | succ k ih =>
    intro hk;rw[hSs k hk];unfold pkEl;split
    .exact ywy (ih (by omega))
    .exact ih (by omega)
 rw[<-hSn];simp only[grV]at hA hLk;simp only[c81,ydhv,ydcl,yddw,grV,clash,go_sem,zA,zB,zC,↓reduceIte,reduceCtorEq];refine hA.use ?_;simp only[ybh,splice,clash,go_sem,zA,zB,zC,↓reduceIte];refine hLk.use ?_
 refine ybzo (ycap (ybpe hg)) [(2,0),(3,0),(5,0)] (fun i (_:Unit)=>⟨[(11,.fn 158 [] [.rf [yw g.ids,ybe g.ports]]),(2,.pt (2,0) 0 0),(3,.pt (3,0) 0 0),(5,.pt (5,0) 0 0)],
  [(2,.one (some ⟨27,true,2,1,fun _=>[yw g.ids,ybe g.ports]⟩)),(3,.one (some ⟨90,true,1,1,fun _=>[.fn h [] cp]⟩)),(5,.one (some ⟨40,true,1,1,fun _=>[.i .u32 (S i)]⟩))]⟩) (fun i _=>i<=(flatAt 0 g.ports).length) () (zW _) ⟨fun _ h=>absurd h zL,fun _ h=>absurd h zL⟩ ?_ (fun _=>rfl) ?_ ?_ ?_
 .refine yh [] [] [] ?_;simp only[hS0,ydq _ hcp4,ydn _ hcp4,allQ,live,yc,go_sem,zA,↓reduceIte,reduceCtorEq];intro _ _;refine⟨yqj _ _ cp,?_⟩;rw[ygu];exact Sim.refl _
 .intro i _ hi _;refine⟨trivial,?_⟩;simp only[go_sem,allQ,go_sem,zA]
 .intro i _ hi hlti;have hlti:i<(flatAt 0 g.ports).length:=hlti;obtain⟨e1,e2⟩:=ybwf hg hlti;have hs:=hSs i hlti;have hb:=hSl i hi;obtain⟨E,hE⟩:∃E,yei g.ports i=E:=⟨_,rfl⟩;rw[hE]at hs e1 e2;obtain⟨a1,a2,_⟩:=ydc hg e1 e2;have a1:0<=E.a:=a1;have a2:E.a.toNat<g.ports.length:=a2;have f1:=hf E.v (by omega)
  have f2:=hf E.a.toNat (by omega)
  rw[zAS a1]at f2;obtain⟨a,ha⟩:∃a,S i=a:=⟨_,rfl⟩;rw[ha]at hs hb;refine⟨_,rfl,?_⟩;simp only[ybmk];obtain⟨x,hx⟩:∃x,f E.v=x:=⟨_,rfl⟩;obtain⟨y,hy⟩:∃y,f E.a.toNat=y:=⟨_,rfl⟩;rw[hx]at f1;rw[hy]at f2;simp only[ydbx,ydga,ydap,ha,hE,splice,hcp,clash,go_sem,zA,zB,zC,↓reduceIte,reduceCtorEq];refine f1.use ?_;simp only[ybh,hcp,clash,go_sem,zA,zB,zD,↓reduceIte,reduceCtorEq];refine f2.use ?_
  by_cases q:x<y
  .have z1:decide (x<y)=true:=decide_eq_true q;have e:S (i+1)=difB a (2^E.v):=by rw[hs];unfold pkEl;rw[hx,hy,if_pos q]
   have sh:=yqp (v:=E.v) (by omega)
   have an:=u32_andNot (a:=a) (b:=2^E.v) (by omega) (Nat.pow_lt_pow_right (by omega) (by omega))
   simp only[IntKind.bits,Int.toNat_natCast]at sh an;simp only[ydgw,splice,z1,sh,an,clash,go_sem,zA,zB,↓reduceIte,reduceCtorEq]
   repeat (first|refine⟨by omega,?_⟩|refine⟨by decide,?_⟩)
   refine yea [] [] [] ?_;simp only[e,ydq _ hcp4,ydn _ hcp4,allQ,live,yc,go_sem,zA,↓reduceIte,reduceCtorEq];intro _ _;refine⟨yqj _ _ cp,?_⟩;rw[ygu];exact Sim.refl _
  .have z1:decide (x<y)=false:=decide_eq_false q;have e:S (i+1)=a:=by rw[hs];unfold pkEl;rw[hx,hy,if_neg q]
   simp only[z1,go_sem,↓reduceIte]
   repeat (first|refine⟨by omega,?_⟩|refine⟨by decide,?_⟩)
   refine yea [] [] [] ?_;simp only[e,ydq _ hcp4,ydn _ hcp4,allQ,live,yc,go_sem,zA,↓reduceIte,reduceCtorEq];intro _ _;refine⟨yqj _ _ cp,?_⟩;rw[ygu];exact Sim.refl _
 .intro _ _;simp only[ydcx,ybmk,clash,go_sem,zA,zB,↓reduceIte,reduceCtorEq];exact Sim.refl _
end Sh
end
section
abbrev Ptr:=Nat->Option Nat
def Mt(p:Ptr)(x:Nat):Prop:=∃y,p x=some y/\p y=some x
inductive Mv (g:Gr) (p:Ptr) (v:Nat):Option Nat->Prop
 |accept (u:Nat):p v=none->adj g v u->p u=some v->Mv g p v (some u)
 |propose (u:Nat):p v=none->adj g v u->p u=none->(∀x,adj g v x->p x≠some v)->Mv g p v (some u)
 |withdraw (u w:Nat):p v=some u->p u=some w->w≠v->Mv g p v none
structure PtI(g:Gr)(p:Ptr)(I:Nat->Prop):Prop where
 nb:∀v u,p v=some u->adj g v u
 fresh:∀v u,p v=some u->¬I v->p u=none\/p u=some v\/Mt p u
open Classical in
noncomputable def lv(A B C:Prop):Nat:=if A then 0 else if B then 1 else if C then 0 else 2
noncomputable def lft(p:Ptr)(I:Nat->Prop)(u v:Nat):Nat:=lv (p u=some v/\p v=some u) ((p u=some v/\¬I u)\/(p v=some u/\¬I v)) (Mt p u\/Mt p v)
section
variable {g:Gr}{p:Ptr}{I:Nat->Prop}{v:Nat}{t:Option Nat}
end
end
section
section
variable {g:Gr}{p:Ptr}{I:Nat->Prop}{v:Nat}{t:Option Nat}
end
open Classical in
noncomputable def oldN(g:Gr)(p:Ptr)(I:Nat->Prop):Nat:=((zF g.ports.length).map fun x=>if I x/\p x≠none then 1 else 0).sum
open Classical in
noncomputable def lftN(g:Gr)(p:Ptr)(I:Nat->Prop):Nat:=((zF g.ports.length).map fun x=>((g.ports.getD x []).map fun l=>lft p I x l.1.toNat).sum).sum
open Classical in
end
section
section
variable {g:Gr}{p:Ptr}{I:Nat->Prop}{v w:Nat}{t t':Option Nat}
noncomputable def potN(g:Gr)(p:Ptr)(I:Nat->Prop):Nat:=2*oldN g p I+lftN g p I
open Classical in
end
end
section
def ycjl:Ex:=.bin 35 (eQ 0) (.leaf 17 0)
def yckl:Ex:=.bin 35 (eQ 0) ybpp
def ydek:Ex:=.bin 41 (.bin 41 (.bin 35 (.leaf 11 0) (eVar 0)) (.bin 36 (eQ 0) ybpp)) (.bin 36 (eQ 0) (.leaf 17 0))
def ydei(nm p a b w:ByteArray):ProgT:=⟨nm,[⟨p,3,0,0,0,0⟩],[⟨a,.bin 41 (.bin 35 (eVar 0) ybpp) (.agg 21 ycjl),[(0,.agg 23 ycjl)]⟩,⟨b,.bin 41 (.bin 35 (eVar 0) ybpp) (.agg 21 yckl),[(0,.agg 23 yckl)]⟩,⟨w,.agg 21 ydek,[(0,ybpp)]⟩]⟩
def pAt(c:Conf)(v:Nat):Int:=(c.getD v []).getD 0 0
def toP(g:Gr)(c:Conf):Ptr:=fun v=>if v<g.ports.length/\0<=pAt c v then some ((g.ports.getD v []).getD (pAt c v).toNat (0,0)).1.toNat else none
structure MtC(g:Gr)(c:Conf):Prop where
 len:c.length=g.ids.length
 row:∀v,v<g.ids.length->(c.getD v []).length=1/\(-1<=pAt c v/\pAt c v<(g.ports.getD v []).length)
section
variable {nm np na nb nw:ByteArray}{g:Gr}{c:Conf}{u v s:Nat}
end
end
section
theorem ybav{α:Type}[DecidableEq α]:∀{l1 l2:List α},l1.Nodup->(∀x∈l1,x∈l2)->l1.length<=l2.length
 |[],_,_,_=>zW _
 | a::t,l2,hn,hs=>by
   have hn:=List.nodup_cons.1 hn;have h1:=hs a zJ;have:=ybav (l1:=t) (l2:=l2.erase a) hn.2 fun y hy=>(zAR fun e=>hn.1 (by rw[<-e];exact hy)).2 (hs y (zH _ hy))
   rw[zAK h1]at this;have:=zAN h1;simp only[zM];omega
def kcEx:Ex:=.agg 21 (.bin 35 (eQ 0) (eVar 0))
def ybnl(nm c r:ByteArray):ProgT:=⟨nm,[⟨c,1,0,0,1,0⟩],[⟨r,kcEx,[(0,.agg 27 (eQ 0))]⟩]⟩
def ybym(c:Conf)(v:Nat):Int:=(c.getD v []).getD 0 0
def ydjr(g:Gr)(c:Conf)(v:Nat):Prop:=∃u,adj g v u/\ybym c u=ybym c v
structure KcC(g:Gr)(c:Conf):Prop where
 len:c.length=g.ids.length
 row:∀v,v<g.ids.length->(c.getD v []).length=1/\(0<=ybym c v/\ybym c v<=g.ids.length)
section
variable {nm nc nr:ByteArray}{g:Gr}{c:Conf}{u v s:Nat}
def kcR(g:Gr)(r v:Nat)(c:Conf):Prop:=1<=r->¬ydjr g c v
structure KcJ(nm nc nr:ByteArray)(g:Gr)(c:Conf)(k:Cnt):Prop where
 inv:RInvC (ybp (ybnl nm nc nr) g) (fun c=>ygr (ybnl nm nc nr) g c=true) (kcR g) c k
 moves:k.moves+popP (ybk (ybnl nm nc nr) g c)<=g.ids.length
end
end
section
def ylp(ls:List (Int×Int))(b:Int):Bool:=ls.any fun l=>decide (l.1=b)
namespace Sh
open Ev Go.RowKit
theorem ybii{ids:List Int}{ports:List (List (Int×Int))}{a b:Nat}(ha:a<ports.length)(hl:(ports.getD a []).length<=100000) :
 Returns zZ 128 [.ag [yw ids,ybe ports],.i .i64 a,.i .i64 b] (.b (ylp (ports.getD a []) b)):=by
 refine Returns.of (ycwb _ _ ?_);obtain⟨n,hn⟩:∃n,ports.length=n:=⟨_,rfl⟩;obtain⟨L,hL⟩:∃L,ports.getD a []=L:=⟨_,rfl⟩;rw[hL]at hl ⊢;obtain⟨m,hm⟩:∃m,L.length=m:=⟨_,rfl⟩;simp only[c128,ycif,ycrn,go_sem,zB,zC,↓reduceIte];refine ybn (σ:=Nat) (fun k=>⟨[(7,.i .i64 k),(3,.pt (3,0) 0 0),(1,.i .i64 a),(2,.i .i64 b)],[(3,.one (some ⟨27,true,2,1,fun _=>[yw ids,ybe ports]⟩))]⟩) (fun k=>k<=m/\∀j,j<k->(L.getD j (0,0)).1≠b) (fun k=>m-k) 0 ⟨zW _,fun j hj=>absurd hj (zAI j)⟩ ?_ ?_
 .refine yh [] [] [] ?_;simp only[go_sem,allQ,live,yc,zU,go_sem,zA,↓reduceIte,reduceCtorEq]
 .rintro k ⟨hk,hno⟩;simp only[ychr,ycip,ychy,ycjs,ycpg,ybe,ybd,hn,hL,hm,go_sem,zA,zB,zD,↓reduceIte,reduceCtorEq];refine⟨⟨by omega,by omega⟩,fun hlt=>⟨⟨by omega,by omega⟩,⟨by omega,by omega⟩,fun he=>?_,fun hne=>⟨ikw (by omega) (by omega),?_⟩⟩,fun hge=>?_⟩
  .have hk':k<L.length:=by omega
   have:ylp L b=true:=List.any_eq_true.2 ⟨L[k],zN _,by rw[getD_at hk']at he;exact decide_eq_true he⟩
   rw[this];exact Sim.refl _
  .refine yu (k+1) ⟨by omega,fun j hj=>?_⟩ (by omega) ?_
   .by_cases q:j=k
    .rw[q];exact hne
    .exact hno j (by omega)
   refine yh [] [] [] ?_;simp only[allQ,live,yc,yba,go_sem,zA,↓reduceIte,reduceCtorEq];omega
  .have:ylp L b=false:=List.any_eq_false.2 fun l hl he=>by
    obtain⟨j,hj,rfl⟩:=zAG hl;have:=hno j (by omega)
    rw[getD_at hj]at this;exact this (of_decide_eq_true he)
   rw[this];exact Sim.refl _
end Sh
end
section
namespace Sh
open Go Ev
theorem Cm.ct{P:Program}{g:FuncId}{args:List SV}{Q:SV->Own->Prop}{R:SV->Prop}(h:Cm P g [] [] args Q)(hq:∀r o',Q r o'->vok o' 5 r/\R (view o' 5 r)):Ct P g args R:=by
 intro G m us hw hle hargs
 have hc0:Conc m.next G om0 ⟨[],[]⟩ ⟨0,.leaf⟩ (enterM m) :=
  ⟨hw,zG _,zG _,hle,fun β b h=>(by cases h),fun β _=>rfl,fun β γ k z k' z' h=>(by cases h),fun β k z h=>(by cases h),fun t v hv=>(by cases hv)⟩
 obtain⟨v,m1,r,o',F',ω',s0,t2,hrv,l1,l2,_,_,hQ⟩:=h m.next G om0 ⟨0,.leaf⟩ (enterM m) us hc0 hargs
 obtain⟨r3,r4⟩:=hq r o' hQ
 have hs0:ybr P (.call g us m) (.call v m1):=by
  obtain⟨n,b,l⟩:=m;exact ybr.relow s0
 have hm1:m.next<=m1.low:=t2.low
 have hold:∀{i x},m.b.get i=some x->i<m.next:=fun {i x} q=>hw i x q
 have hview:∀H:AM,Le F' H->(∀β k z,ω' β=some (some (k,z))->∀b,m1.b.get k=some b->H k=some b)->RV H om0 (view o' 5 r) v:=fun H h1 h2=>yiw t2 h1 h2 hrv r3
 have hs1:ybr P (.call g us m) (.call v ⟨m1.next,ygn m.b m1.b,m1.low⟩):=by
  intro hwm;obtain⟨ext,hcall⟩:=hs0 hwm
  have hget:∀{i x},(ygn m.b m1.b).get i=some x->m.b.get i=some x\/m1.b.get i=some x:=fun {i x} q=>by
   rw[yct]at q;split at q
   .rename_i y hy;cases q;exact .inl hy
   .exact .inr q
  refine⟨⟨ext.next,fun i b hq=>?_,fun i b h1 h2 hq=>?_,fun i b hq=>?_⟩,fun φ M w args' hR hs ha hf=>?_⟩
  .rcases hget hq with q|q
   .exact .inl ⟨b,q⟩
   .exact ext.dom i b q
  .rcases hget hq with q|q
   .exact q
   .exact ext.old i b h1 h2 q
  .rcases hget hq with q|q
   .exact zAT (hold q) ext.next
   .exact ext.wf i b q
  .refine(hcall φ M w args' hR hs ha hf).mono ?_;rintro e' w' ⟨v',rfl,φ',M',hgd,hv⟩;refine⟨v',rfl,φ',M',⟨hgd.le,hgd.out,hgd.rel,fun i b hq=>?_,hgd.frame,hgd.wg⟩,hv⟩;rcases hget hq with q|q
   .have hi:=hold q;rw[hgd.frame i (fun z=>by omega) (.inr (zAT hi hm1))]
    exact hs i b q
   .exact hgd.sub i b q
 have hnone:∀{i},m.next<=i->m.b.get i=none:=fun {i} q=>by
  cases hh:m.b.get i with
  |none=>rfl
  |some x=>have:=hold hh;omega
 refine⟨_,_,view o' 5 r,hs1,hm1,fun i b hq=>?_,r4,hview _ (fun i b hq=>?_) (fun β k z hk b hq=>?_)⟩
 .show(ygn m.b m1.b).get i=some b;rw[yct,hq]
 .unfold frsh;rcases l2 i b hq with q|q
  .rw[if_neg (by have:=hold (hle i b q);omega)];exact q
  .rw[if_pos q];show(ygn m.b m1.b).get i=some b;rw[yct,hnone q];exact t2.sub i b hq
 .unfold frsh;have:=(t2.apart β k z hk).2.1;rw[if_pos this];show(ygn m.b m1.b).get k=some b;rw[yct,hnone this];exact hq
theorem Cm.weak {P:Program}{g:FuncId}{o:Own}{args:List SV}{Q R:SV->Own->Prop}(h:Cm P g [] o args Q)
 (hq:∀r o',Q r o'->∃r2 o2,Weak [] ⟨[(0,r)],o'⟩ ⟨[(0,r2)],o2⟩/\(cln (live o2) 5 r2=true/\allQ (fun p=>yco (live o2) p.2) o2)/\R r2 o2):Cm P g [] o args R:=by
 intro lo G ω f m us hc hargs;obtain⟨v,m1,r,o',F',ω',s0,t2,hrv,l1,l2,_,_,hQ⟩:=h lo G ω f m us hc hargs;obtain⟨r2,o2,hw,hcl,hR⟩:=hq r o' hQ
 have t3:Conc lo F' ω' ⟨[(0,r)],o'⟩ ⟨1,tOf [v]⟩ m1:=⟨t2.wf,t2.low,t2.nxt,t2.sub,t2.own,t2.dom,t2.inj,t2.apart,fun t x hx=>by
  unfold look at hx;split at hx
  .rename_i e
   cases hx
   exact⟨v,by rw[yca];simp[<-e],hrv⟩
  .cases hx⟩
 obtain⟨ω2,F2,k1,k2,k3,_⟩:=hw lo F' ω' _ m1 t3;obtain⟨u,q1,q2⟩:=k3.fr 0 r2 rfl
 have e:u=v:=by
  rw[yca]at q1
  simpa using q1.symm
 subst e
 exact⟨u,m1,r2,o2,F2,ω2,s0,⟨k3.wf,k3.low,k3.nxt,k3.sub,k3.own,k3.dom,k3.inj,k3.apart,fun t x hx=>(by cases hx)⟩,q2,fun x b hx=>k1 x b (l1 x b hx),fun x b hx=>by
  rcases k2 x b hx with z|z
  .exact l2 x b z
  .exact .inr z,fun β hβ=>absurd hβ zL,⟨hcl.1,hcl.2,trivial⟩,hR⟩
end Sh
end
section
structure NetR where
 n:Int
 links:List Int
 weights:List Int
 ids:List Int
 apart:Bool
 back:Bool
def NetR.ok(x:NetR):Prop:=Sh.inK .i64 x.n/\(∀k,Sh.inK .i64 (x.links.getD k 0))/\(∀k,Sh.inK .i64 (x.weights.getD k 0))/\(∀k,Sh.inK .i64 (x.ids.getD k 0))
theorem ybef(a r:Nat)(hr:r<=256):((zF r).map fun i=>(((a+i)%256:Nat):Int)).Nodup:=by
 unfold List.Nodup;rw[zAW];refine List.Pairwise.imp_of_mem (R:=(· < ·)) (fun {i j} hi hj h=>?_) List.pairwise_lt_range;have hi:=List.mem_range.1 hi;have hj:=List.mem_range.1 hj;intro e;omega
theorem ybgh{a r:Nat}{l:List Int}(hr:r<=256)(h:∀i,i<r->(((a+i)%256:Nat):Int)∈l):r<=l.length:=by
 have:=List.Nodup.length_le_of_subset (ybef a r hr) (l₂:=l) fun x hx=>by
  obtain⟨i,hi,rfl⟩:=List.mem_map.1 hx;exact h i (List.mem_range.1 hi)
 simpa using this
namespace Sh
open Ev Go.RowKit
def netC(x:NetR):List SV:=[.i .i64 x.n,yw x.links,yw x.weights,yw x.ids,.b x.apart,.b x.back]
theorem wrap64_in(z:Int):inK .i64 (IntKind.wrap .i64 z):=by
 unfold inK;have e1:IntKind.i64.min = -9223372036854775808:=rfl;have e2:IntKind.i64.max=9223372036854775807:=rfl;have h1:=Int.emod_nonneg z (show(18446744073709551616:Int)≠0 by decide)
 have h2:=Int.emod_lt_of_pos z (show(0:Int)<18446744073709551616 by decide)
 rw[e1,e2]
 have e:IntKind.wrap .i64 z=if z%18446744073709551616>=9223372036854775808 then z%18446744073709551616-18446744073709551616 else z%18446744073709551616:=by
  show(if (true&&decide (z%18446744073709551616>=9223372036854775808))=true then z%18446744073709551616-18446744073709551616 else z%18446744073709551616)=_
  simp only[zAO,decide_eq_true_eq]
 rw[e];split<;>omega
theorem yboq{x:NetR}(hx:x.ok){most:Nat}(hm:1<=most/\most<=24) :
 Cm zZ 75 [] [] [.ag (netC x),.i .i64 most] fun r o=>∃ids:List Int,(1<=ids.length/\ids.length<=most/\(ids.length:Int)=1+ycu (IntKind.wrap .i64 (x.n-1)) most)/\(∀y∈ids,0<=y/\y<=255)/\ids.Nodup/\r = .ag [.os (148,0) 0 ids.length true,.os (17,0) 0 ids.length true] /\
  o=[(17,.one (some ⟨71,false,1,ids.length,fun _=>[.a (.slice none 0 0)]⟩)),(148,.one (some ⟨3,false,1,ids.length,fun k=>[.i .i64 (ids.getD k 0)]⟩))]:=by
 refine yczn [] [] _ _ _ ?_;obtain⟨hx1,hx2,hx3,hx4⟩:=hx;have hin:=yhw (v:=IntKind.wrap .i64 (x.n-1)) (m:=(most:Int)) (by omega)
 obtain⟨k,hk⟩:∃k:Nat,ycu (IntKind.wrap .i64 (x.n-1)) most=k:=zAL hin.1;have hW:=yhl (IntKind.wrap .i64 (x.n-1)) most (by omega) (wrap64_in _)
 rw[hk]at hW hin;obtain⟨n,hn⟩:∃n:Nat,(1:Int)+(k:Int)=(n:Int):=⟨1+k,by omega⟩
 have hn1:1<=n/\n<=most/\(n:Int)=1+ycu (IntKind.wrap .i64 (x.n-1)) most:=by omega
 simp only[c75,ydcz,yden,netC,go_sem,zA,zB,zD,zC,↓reduceIte,reduceCtorEq];refine hW.use ?_;simp only[ybh,ydcj,ydgc,hn,clash,go_sem,zA,zB,zC,↓reduceIte,reduceCtorEq];refine⟨ikw (by omega) (by omega),⟨by omega,by omega,by omega⟩,?_⟩
 refine ybn (σ:=List Int) (fun l=>⟨[(7,.i .i64 l.length),(5,.i .i64 n),(2,.pt (2,0) 0 0),(6,.pt (6,0) 0 0),(4,.pt (4,0) 0 0)],
  [(2,.one (some ⟨24,true,6,1,fun _=>netC x⟩)),(4,.one (some ⟨27,true,2,1,fun _=>[.a (.slice none 0 0),.a (.slice none 0 0)]⟩)),
   (6,.one (some ⟨27,true,2,1,fun _=>[.os (148,0) 0 l.length true,.os (17,0) 0 n true]⟩)),(17,.one (some ⟨71,false,1,n,fun _=>[.a (.slice none 0 0)]⟩)),
   (148,.one (some ⟨3,false,1,l.length,fun k=>[.i .i64 (l.getD k 0)]⟩))]⟩)
  (fun l=>l.length<=n/\(∀y∈l,0<=y/\y<=255)/\l.Nodup) (fun l=>n-l.length) [] ⟨zW _,fun y hy=>(zL hy).elim,List.nodup_nil⟩ ?_ ?_
 .refine yh [] [148] [] ?_;simp only[netC,allQ,live,yc,zU,go_sem,zA,zAA,↓reduceIte,reduceCtorEq];exact fun i _=>⟨(148,0),rfl,rfl,rfl⟩
 .rintro l ⟨hl,hl2,hl3⟩;obtain⟨v,hv⟩:∃v,l.length=v:=⟨_,rfl⟩;rw[hv]at hl;have hA:=at_ret x.ids v;have hi2:=yhw (v:=atP x.ids v) (m:=256) (by omega)
  obtain⟨a,ha⟩:∃a:Nat,ycu (atP x.ids v) 256=a:=zAL hi2.1;have hW2:=yhl (atP x.ids v) 256 (by omega) (hx4 v)
  rw[ha]at hW2 hi2;simp only[ydfj,ydfa,ydgg,ycnc,netC,hv,splice,clash,go_sem,zA,zB,zD,↓reduceIte,reduceCtorEq];refine⟨fun hlt=>?_,fun hge=>?_⟩
  .refine hA.use ?_;simp only[ybh,clash,go_sem,zA,zB,↓reduceIte,reduceCtorEq];refine hW2.use ?_
   refine ybn (σ:=Nat×Nat) (fun q=>⟨[(9,.i .i64 q.2),(8,.i .i64 ((a+q.1)%256:Nat)),(7,.i .i64 v),(5,.i .i64 n),(2,.pt (2,0) 0 0),(6,.pt (6,0) 0 0),(4,.pt (4,0) 0 0)],
    [(2,.one (some ⟨24,true,6,1,fun _=>netC x⟩)),(4,.one (some ⟨27,true,2,1,fun _=>[.a (.slice none 0 0),.a (.slice none 0 0)]⟩)),
     (6,.one (some ⟨27,true,2,1,fun _=>[.os (148,0) 0 v true,.os (17,0) 0 n true]⟩)),(17,.one (some ⟨71,false,1,n,fun _=>[.a (.slice none 0 0)]⟩)),
     (148,.one (some ⟨3,false,1,v,fun k=>[.i .i64 (l.getD k 0)]⟩))]⟩)
    (fun q=>q.2<=v/\(∀i,i<q.1->(((a+i)%256:Nat):Int)∈l)/\q.1<=256/\∀j,j<q.2->l.getD j 0≠(((a+q.1)%256:Nat):Int)) (fun q=>(v-q.1)*(v+2)+(v-q.2)) (0,0) ⟨zW _,fun i hi=>absurd hi (zAI i),by omega,fun j hj=>absurd hj (zAI j)⟩ ?_ ?_
   .refine yh [] [] [] ?_;simp only[netC,allQ,live,yc,yba,zU,go_sem,zA,↓reduceIte,reduceCtorEq];rw[Nat.mod_eq_of_lt (by omega)]
   .rintro⟨r,u⟩ ⟨hu,hr,hr256,hno⟩;obtain⟨b,hb⟩:∃b,(a+r)%256=b:=⟨_,rfl⟩;have hb256:b<256:=by omega
    simp only[ydhj,ydgt,ycpw,ycgf,ycex,ydgm,netC,hb,splice,clash,go_sem,zA,zB,zD,zC,↓reduceIte,reduceCtorEq];have hu:u<=v:=hu;have hr:∀i,i<r->(((a+i)%256:Nat):Int)∈l:=hr;have hr256:r<=256:=hr256;have hno:∀j,j<u->l.getD j 0≠(b:Int):=fun j hj=>by rw[<-hb];exact hno j hj
    have hrv:r<=v:=by rw[<-hv];exact ybgh hr256 hr
    refine⟨fun hlt2=>⟨⟨by omega,by omega⟩,by omega,fun he=>⟨ikw (by omega) (by omega),by decide,ikw (by omega) (by omega),?_⟩,fun hne=>⟨ikw (by omega) (by omega),?_⟩⟩,fun hge2=>?_⟩
    .have hmem:(b:Int)∈l:=by
      rw[<-he,getD_at (show u<l.length by omega)]
      exact zN _
     have hr':∀i,i<r+1->(((a+i)%256:Nat):Int)∈l:=fun i hi=>by
      by_cases q:i=r
      .rw[q,hb];exact hmem
      .exact hr i (by omega)
     have hrv':r+1<=v:=by rw[<-hv];exact ybgh (by omega) hr'
     refine yu (r+1,0) ⟨zW _,hr',by show r+1<=256;omega,fun j hj=>absurd hj (zAI j)⟩ ?_ ?_
     .show(v-(r+1))*(v+2)+(v-0)<(v-r)*(v+2)+(v-u);obtain⟨m,hm⟩:∃m,v-r=m+1:=⟨v-r-1,by omega⟩
      rw[show v-(r+1)=m by omega,hm,Nat.succ_mul]
      generalize m*(v+2)=z
      omega
     .refine yh [] [] [] ?_;simp only[allQ,live,yc,yba,zU,go_sem,zA,↓reduceIte,reduceCtorEq];refine⟨by omega,?_⟩
      rw[Int.tmod_eq_emod_of_nonneg (by omega)]
      omega
    .refine yu (r,u+1) ⟨by show u+1<=v;omega,hr,hr256,fun j hj=>?_⟩ ?_ ?_
     .show l.getD j 0≠(((a+r)%256:Nat):Int);rw[hb]
      by_cases q:j=u
      .rw[q];exact hne
      .exact hno j (by have:j<u+1:=hj;omega)
     .show(v-r)*(v+2)+(v-(u+1))<(v-r)*(v+2)+(v-u)
      generalize (v-r)*(v+2)=z
      omega
     .refine yh [] [] [] ?_;simp only[hb,allQ,live,yc,yba,go_sem,zA,↓reduceIte,reduceCtorEq];omega
    .obtain rfl:u=v:=by omega
     refine⟨⟨by omega,by omega⟩,ikw (by omega) (by omega),?_⟩
     have hno':(b:Int)∉l:=fun hm=>by
      obtain⟨j,hj,e⟩:=zAG hm;exact hno j (by omega) (by rw[getD_at hj,e])
     refine yu (l++[(b:Int)]) ⟨by rw[zAD,zBB];omega,fun y hy=>?_,?_⟩ (by rw[zAD,zBB];omega) ?_
     .rcases List.mem_append.1 hy with hy|hy
      .exact hl2 y hy
      .rw[List.mem_singleton.1 hy];omega
     .rw[zBK];exact⟨hl3,by simp,fun y hy z hz=>by rw[List.mem_singleton.1 hz];exact fun e=>hno' (e▸hy)⟩
     refine yh [(148,fun i=>(48,i))] [] [] ?_;simp only[zAD,hv,allQ,live,yc,yba,go_sem,zA,↓reduceIte,reduceCtorEq];refine⟨by omega,fun i hi=>?_⟩
     rw[ybjo,hv]
     by_cases q:i<u
     .simp only[if_pos q];simp only[live,yc,go_sem,reduceCtorEq]
     .obtain rfl:i=u:=by omega
      simp only[if_neg q,zBI];simp only[live,yc,go_sem,↓reduceIte,reduceCtorEq]
  .obtain rfl:v=n:=by omega
   simp only[yhj,go_sem];refine⟨.ag [.os (148,0) 0 v true,.os (17,0) 0 v true],[(17,.one (some ⟨71,false,1,v,fun _=>[.a (.slice none 0 0)]⟩)),(148,.one (some ⟨3,false,1,v,fun k=>[.i .i64 (l.getD k 0)]⟩))],?_,?_,l,by rw[hv];exact hn1,hl2,hl3,by rw[hv],by rw[hv]⟩
   .refine yh [] [] [] ?_;simp only[allQ,live,yc,go_sem,zA,↓reduceIte,reduceCtorEq]
   .simp only[yco,yfe,allQ,live,go_sem,zA,↓reduceIte]
theorem ybzx{x:NetR}(hx:x.ok){most:Nat}(hm:1<=most/\most<=24) :
 Cm zZ 75 [] [] [.ag (netC x),.i .i64 most] fun r o=>∃ids:List Int,(1<=ids.length/\ids.length<=most/\(ids.length:Int)=1+ycu (IntKind.wrap .i64 (x.n-1)) most)/\(∀y∈ids,0<=y/\y<=255)/\ids.Nodup/\r = .ag [yw ids,.os (17,0) 0 ids.length true] /\
  o=[(17,.one (some ⟨71,false,1,ids.length,fun _=>[.a (.slice none 0 0)]⟩))] :=
 (yboq hx hm).weak fun r o' ⟨ids,h1,h2,h3,e1,e2⟩=>by
   subst e1 e2;obtain⟨v,hv⟩:∃v,ids.length=v:=⟨_,rfl⟩;refine⟨.ag [yw ids,.os (17,0) 0 ids.length true],[(17,.one (some ⟨71,false,1,ids.length,fun _=>[.a (.slice none 0 0)]⟩))],?_,?_,ids,h1,h2,h3,rfl,rfl⟩
   .refine yh [] [] [(148,0)] ?_;simp only[yw,hv,allQ,live,yc,go_sem,zA,↓reduceIte,reduceCtorEq]
   .simp only[yco,yfe,allQ,live,go_sem,↓reduceIte]
end Sh
end
section
def yis(back:Bool)(g:Gr)(a b:Nat)(w:Int):Gr:=if a=b\/ylp (g.ports.getD a []) b=true then g else ycc back g a b w
namespace Sh
open Ev Go.RowKit
def rowO(l:List (Int×Int)):OB:=⟨95,false,2,l.length,fun k=>[.i .i64 (l.getD k (0,0)).1,.i .i64 (l.getD k (0,0)).2]⟩
def yfn(ports:List (List (Int×Int))):Own:=[(211,.one (some ⟨71,false,1,ports.length,fun v=>[.os (212,v) 0 (ports.getD v []).length true]⟩)),
 (212,.many fun v=>if v<ports.length then some (rowO (ports.getD v []))else none)]
def ysu(g:Gr):SV:=.ag [yw g.ids,.os (211,0) 0 g.ports.length true]
theorem yig{i n:Nat}{x b:OB}(h:(if i<n then some x else none)=some b):i<n/\b=x:=by
 split at h
 .cases h;exact⟨by assumption,rfl⟩
 .cases h
theorem ybu(back:Bool)(L:List (Int×Int))(x:Int×Int):(addL back L x).length=L.length+1:=by
 unfold addL;cases back<;>simp
theorem ybbw(L:List (Int×Int))(x:Int×Int){k:Nat}(hk:k<L.length+1):(if k<L.length then[SV.i .i64 (L.getD k (0,0)).1,SV.i .i64 (L.getD k (0,0)).2]else zBT 2 (zBU ((k-L.length)*2) [SV.i .i64 x.1,SV.i .i64 x.2]))=[SV.i .i64 ((addL false L x).getD k (0,0)).1,SV.i .i64 ((addL false L x).getD k (0,0)).2]:=by
 show _=[SV.i .i64 ((L++[x]).getD k (0,0)).1,SV.i .i64 ((L++[x]).getD k (0,0)).2];rw[ybjo]
 by_cases h:k<L.length
 .rw[if_pos h,if_pos h]
 .obtain rfl:k=L.length:=by omega
  rw[if_neg h,if_neg h,if_pos rfl,zBI];rfl
theorem ynh(L:List (Int×Int))(x:Int×Int)(k:Nat):(if k<1 then zBT 2 (zBU (k*2) [SV.i .i64 x.1,SV.i .i64 x.2])else[SV.i .i64 (L.getD (k-1) (0,0)).1,SV.i .i64 (L.getD (k-1) (0,0)).2])=[SV.i .i64 ((addL true L x).getD k (0,0)).1,SV.i .i64 ((addL true L x).getD k (0,0)).2]:=by
 show _=[SV.i .i64 ((x::L).getD k (0,0)).1,SV.i .i64 ((x::L).getD k (0,0)).2];cases k with
 |zero=>rfl
 |succ k=>rw[if_neg (by omega)];rfl
theorem cells_one(L:List (Int×Int))(h:L.length=0)(x:Int×Int){k:Nat}(hk:k<1):zBT 2 (zBU (k*2) [SV.i .i64 x.1,SV.i .i64 x.2])=[SV.i .i64 ((addL true L x).getD k (0,0)).1,SV.i .i64 ((addL true L x).getD k (0,0)).2]:=by
 obtain rfl:k=0:=by omega
 rfl
theorem yiq {n:Nat}{o:Own}{P':List (List (Int×Int))}(hl:P'.length=n) (A:Nat->Nm) {R:Nat->List SV}(h11:lookO o (211,0)=some ⟨71,false,1,n,R⟩) (hR:∀v,v<n->R v=[.os (A v) 0 (P'.getD v []).length true])
 (hA:∀v,v<n->∃q,lookO o (A v)=some ⟨95,false,2,(P'.getD v []).length,q⟩/\∀k,k<(P'.getD v []).length->q k=[.i .i64 ((P'.getD v []).getD k (0,0)).1,.i .i64 ((P'.getD v []).getD k (0,0)).2])
 (hi:∀u v,u<n->v<n->A u=A v->u=v) (h0:∀v,v<n->A v≠(211,0)) :
 ∃r o',Weak [(211,0)] ⟨[(0,.tp [])],o⟩ ⟨[(0,r)],o'⟩/\(cln (live o') 5 r=true/\allQ (fun p=>yco (live o') p.2) o'/\allQ (fun β=>live o' β=true) [(211,0)])/\r = .tp []/\o'=yfn P':=by
 subst hl
 have hsome:∀i,(if i<P'.length then some (rowO (P'.getD i []))else none).isSome=true->i<P'.length:=fun i h=>by
  by_cases q:i<P'.length
  .exact q
  .rw[if_neg q]at h;cases h
 have hlive:∀i,i<P'.length->live (yfn P') (212,i)=true:=fun i hi=>by
  show(if i<P'.length then some (rowO (P'.getD i []))else none).isSome=true
  rw[if_pos hi];rfl
 refine⟨.tp [],yfn P',ybdc [(212,A)] [] [] trivial ⟨.inr ⟨.inr fun e=>⟨rfl,rfl⟩,.inr fun j hj e=>?_,trivial⟩,.inr ⟨.inr fun i hi' e=>?_,.inr fun i hi' j hj e=>⟨rfl,?_⟩,trivial⟩,trivial⟩ ⟨?_,trivial⟩ ⟨?_,fun i b hb=>?_,trivial⟩ ⟨⟨rfl,rfl,rfl⟩,trivial⟩,⟨rfl,⟨?_,?_,trivial⟩,rfl,trivial⟩,rfl,rfl⟩
 .exact absurd e.symm (h0 j (hsome j hj))
 .exact absurd e (h0 i (hsome i hi'))
 .exact hi i j (hsome i hi') (hsome j hj) e
 .exact⟨_,rfl,.inl ⟨trivial,Sim.refl _,rfl⟩⟩
 .refine⟨_,h11,⟨rfl,rfl,rfl,rfl,rfl⟩,fun i hi'=>?_⟩;have hi':i<P'.length:=hi';show telL _ _ _ _ _ (R i) _;rw[hR i hi'];refine⟨.inl ⟨by simp only[go_sem],Sim.refl _,?_⟩,rfl,trivial⟩
  show(live (yfn P') (212,i) && !(List.elem 212 []))=true;rw[hlive i hi'];rfl
 .obtain⟨hi',rfl⟩:=yig hb;obtain⟨q,q1,q2⟩:=hA i hi';refine⟨_,q1,⟨rfl,rfl,rfl,rfl,rfl⟩,fun k hk=>?_⟩;show telL _ _ _ _ _ (q k) _;rw[q2 k hk];exact⟨.inl ⟨trivial,Sim.refl _,rfl⟩,rfl,.inl ⟨trivial,Sim.refl _,rfl⟩,rfl,trivial⟩
 .intro k hk;have:live (yfn P') (212,k)=true:=hlive k hk;simp only[yfn,List.all_cons,List.all_nil,Bool.and_true]at this ⊢;exact this
 .intro i b hb k hk;obtain⟨hi',rfl⟩:=yig hb;rfl
section
variable {x:NetR}{g:Gr}{a b:Nat}{w:Int}
theorem ycwm (ha:a<g.ports.length)(hb:b<g.ports.length)(hn:g.ports.length<=24)(hd:∀v,(g.ports.getD v []).length<=1000) :
 Cm zZ 76 [(211,0)] (yfn g.ports) [.ag (netC x),ysu g,.i .i64 a,.i .i64 b,.i .i64 w] fun r o=>r = .tp []/\o=yfn (yis x.back g a b w).ports:=by
 refine ycwk [(211,0)] [] _ _ _ ?_;obtain⟨O2,hO2⟩:∃O,yfn (yis x.back g a b w).ports=O:=⟨_,rfl⟩;rw[hO2]
 by_cases hab:a=b
 .subst hab;have hP:yis x.back g a a w=g:=if_pos (.inl rfl);rw[hP]at hO2;simp only[c76,yczg,ycvb,netC,ysu,yfn,yhj,go_sem,zA,zB,zC,↓reduceIte,reduceCtorEq];subst hO2;exact yiq rfl (fun v=>(212,v)) rfl (fun v hv=>rfl) (fun v hv=>⟨_,if_pos hv,fun k hk=>rfl⟩) (fun u v _ _ e=>congrArg Prod.snd e) (fun v _ e=>by cases e)
 .have hne:((a:Int)==(b:Int))=false:=by rw[beq_eq_false_iff_ne];omega
  have hL:=ybii (ids:=g.ids) (ports:=g.ports) (b:=b) ha (by have:=hd a;omega)
  simp only[c76,yczg,ycvb,netC,ysu,yfn,hne,clash,go_sem,zA,zB,zC,↓reduceIte,reduceCtorEq];refine .inl ⟨fun q hq=>by rw[if_pos hq];exact⟨zG _,fun k hk=>by simp only[rowO,go_sem]⟩,hL.useS ?_ ?_⟩
  .refine⟨ysb ⟨Sim.refl _,?_,trivial⟩,Sim.refl _,Sim.refl _,trivial⟩;refine yjo fun q hq=>?_;rw[if_pos hq];simp only[rowO,ybd,go_sem];exact⟨Sim.refl _,trivial⟩
  cases hlk:ylp (g.ports.getD a []) b with
  | true =>
    have hP:yis x.back g a b w=g:=if_pos (.inr hlk);rw[hP]at hO2;simp only[ybh,clash,yhj,go_sem,zA,zB,↓reduceIte];subst hO2;exact yiq rfl (fun v=>(212,v)) rfl (fun v hv=>rfl) (fun v hv=>⟨_,if_pos hv,fun k hk=>rfl⟩) (fun u v _ _ e=>congrArg Prod.snd e) (fun v _ e=>by cases e)
  | false =>
    have hP:yis x.back g a b w=ycc x.back g a b w:=if_neg (fun q=>by rcases q with q|q;exact hab q;rw[hlk]at q;cases q)
    rw[hP]at hO2;subst hO2;have hba:¬b=a:=fun e=>hab e.symm;have hlen:(ycc x.back g a b w).ports.length=g.ports.length:=by simp[ycc]
    have hat:=ydp x.back g w ha hb;obtain⟨G',hG'⟩:∃G,(ycc x.back g a b w).ports=G:=⟨_,rfl⟩;rw[hG']at hlen ⊢;have hat:∀v,G'.getD v []=if v=b then addL x.back (g.ports.getD b []) (a,w)else if v=a then addL x.back (g.ports.getD a []) (b,w)else g.ports.getD v []:=fun v=>by rw[<-hG'];exact hat v
    clear hG' hP
    obtain⟨x1,x2,x3,x4,x5,back⟩:=x;have hda:=hd a;have hdb:=hd b;cases back with
    | false =>
      simp only[ybh,clash,ybje,yblc,ydfk,rowO,if_pos ha,if_pos hb,hab,hba,yhj,and_false,go_sem,zA,zB,zD,zC,↓reduceIte,reduceCtorEq];refine⟨⟨by omega,by omega⟩,by omega,⟨by omega,by omega⟩,by decide,⟨by omega,by omega⟩,by omega,⟨by omega,by omega⟩,by decide,⟨by omega,by omega⟩,by omega,by decide,⟨by omega,by omega⟩,by omega,by decide,?_⟩
      refine yiq hlen (fun v=>if v=b then(74,0)else if v=a then(66,0)else(212,v)) rfl (fun v hv=>?_) (fun v hv=>?_) (fun u v _ _ e=>?_) (fun v _ e=>?_)
      .rw[hat v]
       by_cases q:v=b
       .simp only[if_pos q,ybu]
       .by_cases q2:v=a
        .simp only[if_neg q,if_pos q2,ybu]
        .simp only[if_neg q,if_neg q2]
      .rw[hat v]
       by_cases q:v=b
       .simp only[if_pos q,ybu];exact⟨_,rfl,fun k hk=>ybbw _ (_,_) hk⟩
       .by_cases q2:v=a
        .simp only[if_neg q,if_pos q2,ybu];exact⟨_,rfl,fun k hk=>ybbw _ (_,_) hk⟩
        .simp only[if_neg q,if_neg q2];refine⟨fun k=>[.i .i64 ((g.ports.getD v []).getD k (0,0)).1,.i .i64 ((g.ports.getD v []).getD k (0,0)).2],?_,fun k hk=>rfl⟩;show(if v=b then none else if v=a then none else if v<g.ports.length then some _ else none)=some _
         rw[if_neg q,if_neg q2,if_pos hv]
      .by_cases q:u=b<;>by_cases q2:u=a<;>by_cases q3:v=b<;>by_cases q4:v=a<;>simp[q,q2,q3,q4,hab]at e ⊢<;>omega
      .by_cases q:v=b<;>by_cases q2:v=a<;>simp[q,q2,hab]at e
    | true =>
      by_cases hza:(g.ports.getD a []).length=0
      .by_cases hzb:(g.ports.getD b []).length=0
       .simp only[ybh,clash,ybje,yblc,ybww,ybud,rowO,if_pos ha,if_pos hb,hba,yhj,and_false,hza,hzb,go_sem,zA,zB,zD,zC,zBE,↓reduceIte,reduceCtorEq]
        repeat' apply zBJ
        all_goals first|omega|decide|skip
        refine yiq hlen (fun v=>if v=b then(45,0)else if v=a then(33,0)else(212,v)) rfl (fun v hv=>?_) (fun v hv=>?_) (fun u v _ _ e=>?_) (fun v _ e=>?_)
        .rw[hat v]
         by_cases q:v=b
         .simp only[if_pos q,ybu,hzb,zAF]
         .by_cases q2:v=a
          .simp only[if_neg q,if_pos q2,ybu,hza,zAF]
          .simp only[if_neg q,if_neg q2]
        .rw[hat v]
         by_cases q:v=b
         .simp only[if_pos q,ybu,hzb,zAF];exact⟨_,rfl,fun k hk=>cells_one _ hzb (_,_) hk⟩
         .by_cases q2:v=a
          .simp only[if_neg q,if_pos q2,ybu,hza,zAF];exact⟨_,rfl,fun k hk=>cells_one _ hza (_,_) hk⟩
          .simp only[if_neg q,if_neg q2];refine⟨fun k=>[.i .i64 ((g.ports.getD v []).getD k (0,0)).1,.i .i64 ((g.ports.getD v []).getD k (0,0)).2],?_,fun k hk=>rfl⟩;show(if v<g.ports.length then some _ else none)=some _
           rw[if_pos hv]
        .by_cases q:u=b<;>by_cases q2:u=a<;>by_cases q3:v=b<;>by_cases q4:v=a<;>simp[q,q2,q3,q4,hab]at e ⊢<;>omega
        .by_cases q:v=b<;>by_cases q2:v=a<;>simp[q,q2,hab]at e
       .simp only[ybh,clash,ybje,yblc,ybww,ybud,rowO,if_pos ha,if_pos hb,hba,yhj,and_false,hza,hzb,go_sem,zA,zB,zD,zC,zBE,↓reduceIte,reduceCtorEq]
        repeat' apply zBJ
        all_goals first|omega|decide|skip
        refine yiq hlen (fun v=>if v=b then(51,0)else if v=a then(33,0)else(212,v)) rfl (fun v hv=>?_) (fun v hv=>?_) (fun u v _ _ e=>?_) (fun v _ e=>?_)
        .rw[hat v]
         by_cases q:v=b
         .simp only[if_pos q,ybu,zX]
         .by_cases q2:v=a
          .simp only[if_neg q,if_pos q2,ybu,hza,zAF,zX]
          .simp only[if_neg q,if_neg q2]
        .rw[hat v]
         by_cases q:v=b
         .simp only[if_pos q,ybu];exact⟨_,congrArg some (congrArg (fun n=>OB.mk _ _ _ n _) (zX _ _)),fun k hk=>ynh _ (_,_) k⟩
         .by_cases q2:v=a
          .simp only[if_neg q,if_pos q2,ybu,hza,zAF];exact⟨_,rfl,fun k hk=>cells_one _ hza (_,_) hk⟩
          .simp only[if_neg q,if_neg q2];refine⟨fun k=>[.i .i64 ((g.ports.getD v []).getD k (0,0)).1,.i .i64 ((g.ports.getD v []).getD k (0,0)).2],?_,fun k hk=>rfl⟩;show(if v<g.ports.length then some _ else none)=some _
           rw[if_pos hv]
        .by_cases q:u=b<;>by_cases q2:u=a<;>by_cases q3:v=b<;>by_cases q4:v=a<;>simp[q,q2,q3,q4,hab]at e ⊢<;>omega
        .by_cases q:v=b<;>by_cases q2:v=a<;>simp[q,q2,hab]at e
      .by_cases hzb:(g.ports.getD b []).length=0
       .simp only[ybh,clash,ybje,yblc,ybww,ybud,rowO,if_pos ha,if_pos hb,hba,yhj,and_false,hza,hzb,go_sem,zA,zB,zD,zC,zBE,↓reduceIte,reduceCtorEq]
        repeat' apply zBJ
        all_goals first|omega|decide|skip
        refine yiq hlen (fun v=>if v=b then(45,0)else if v=a then(39,0)else(212,v)) rfl (fun v hv=>?_) (fun v hv=>?_) (fun u v _ _ e=>?_) (fun v _ e=>?_)
        .rw[hat v]
         by_cases q:v=b
         .simp only[if_pos q,ybu,hzb,zAF,zX]
         .by_cases q2:v=a
          .simp only[if_neg q,if_pos q2,ybu,zX]
          .simp only[if_neg q,if_neg q2]
        .rw[hat v]
         by_cases q:v=b
         .simp only[if_pos q,ybu,hzb,zAF];exact⟨_,rfl,fun k hk=>cells_one _ hzb (_,_) hk⟩
         .by_cases q2:v=a
          .simp only[if_neg q,if_pos q2,ybu];exact⟨_,congrArg some (congrArg (fun n=>OB.mk _ _ _ n _) (zX _ _)),fun k hk=>ynh _ (_,_) k⟩
          .simp only[if_neg q,if_neg q2];refine⟨fun k=>[.i .i64 ((g.ports.getD v []).getD k (0,0)).1,.i .i64 ((g.ports.getD v []).getD k (0,0)).2],?_,fun k hk=>rfl⟩;show(if v<g.ports.length then some _ else none)=some _
           rw[if_pos hv]
        .by_cases q:u=b<;>by_cases q2:u=a<;>by_cases q3:v=b<;>by_cases q4:v=a<;>simp[q,q2,q3,q4,hab]at e ⊢<;>omega
        .by_cases q:v=b<;>by_cases q2:v=a<;>simp[q,q2,hab]at e
       .simp only[ybh,clash,ybje,yblc,ybww,ybud,rowO,if_pos ha,if_pos hb,hba,yhj,and_false,hza,hzb,go_sem,zA,zB,zD,zC,↓reduceIte,reduceCtorEq]
        repeat' apply zBJ
        all_goals first|omega|decide|skip
        refine yiq hlen (fun v=>if v=b then(51,0)else if v=a then(39,0)else(212,v)) rfl (fun v hv=>?_) (fun v hv=>?_) (fun u v _ _ e=>?_) (fun v _ e=>?_)
        .rw[hat v]
         by_cases q:v=b
         .simp only[if_pos q,ybu,zX]
         .by_cases q2:v=a
          .simp only[if_neg q,if_pos q2,ybu,zX]
          .simp only[if_neg q,if_neg q2]
        .rw[hat v]
         by_cases q:v=b
         .simp only[if_pos q,ybu];exact⟨_,congrArg some (congrArg (fun n=>OB.mk _ _ _ n _) (zX _ _)),fun k hk=>ynh _ (_,_) k⟩
         .by_cases q2:v=a
          .simp only[if_neg q,if_pos q2,ybu];exact⟨_,congrArg some (congrArg (fun n=>OB.mk _ _ _ n _) (zX _ _)),fun k hk=>ynh _ (_,_) k⟩
          .simp only[if_neg q,if_neg q2];refine⟨fun k=>[.i .i64 ((g.ports.getD v []).getD k (0,0)).1,.i .i64 ((g.ports.getD v []).getD k (0,0)).2],?_,fun k hk=>rfl⟩;show(if v<g.ports.length then some _ else none)=some _
           rw[if_pos hv]
        .by_cases q:u=b<;>by_cases q2:u=a<;>by_cases q3:v=b<;>by_cases q4:v=a<;>simp[q,q2,q3,q4,hab]at e ⊢<;>omega
        .by_cases q:v=b<;>by_cases q2:v=a<;>simp[q,q2,hab]at e
end
end Sh
end
section
theorem ybil{back:Bool}{g:Gr}{a b:Nat}{w:Int}(hg:ybg g)(ha:a<g.ports.length)(hb:b<g.ports.length)(hw:1<=w/\w<=15):ybg (yis back g a b w)/\(yis back g a b w).ids=g.ids/\(yis back g a b w).ports.length=g.ports.length:=by
 unfold yis
 by_cases h:a=b\/ylp (g.ports.getD a []) b=true
 .rw[if_pos h];exact⟨hg,rfl,rfl⟩
 .rw[if_neg h];refine⟨ybaq hg ha hb (fun e=>h (.inl e)) hw fun l hl e=>h (.inr (List.any_eq_true.2 ⟨l,hl,decide_eq_true e⟩)),rfl,by simp[ycc]⟩
theorem ybst{back:Bool}{g:Gr}{a b:Nat}{w:Int}(ha:a<g.ports.length)(hb:b<g.ports.length){m:Nat}(h:Tre g m):Tre (yis back g a b w) m:=by
 unfold yis;split
 .exact h
 .exact h.add ha hb
theorem ybvo{back:Bool}{g:Gr}{a b:Nat}{w:Int}(ha:a<g.ports.length)(hb:b<g.ports.length)(hab:a≠b):adj (yis back g a b w) a b:=by
 unfold yis;split
 .rename_i h
  rcases h with h|h
  .exact absurd h hab
  .obtain⟨l,hl,e⟩:=List.any_eq_true.1 h;exact yku.2 ⟨l,hl,of_decide_eq_true e⟩
 .exact ybeg ha hb hab
theorem ybfl:∀(l:List Nat) (i x:Nat) (h:i<l.length),(l.set i x).sum+l[i]=l.sum+x
 |a::l,0,x,_=>by simp;omega
 | a::l,i+1,x,h=>by
   have:=ybfl l i x (by simpa using h)
   simp only[List.set_cons_succ,List.sum_cons,List.getElem_cons_succ];omega
theorem ybiv{back:Bool}{g:Gr}{a b:Nat}{w:Int}(ha:a<g.ports.length)(hb:b<g.ports.length)(hab:a≠b):ygf (ycc back g a b w)=ygf g+2:=by
 unfold ygf ycc;simp only[List.map_set,Sh.ybu];have h1:=ybfl (g.ports.map zBA) a ((g.ports.getD a []).length+1) (by simpa using ha)
 have h2:=ybfl ((g.ports.map zBA).set a ((g.ports.getD a []).length+1)) b ((g.ports.getD b []).length+1) (by simpa using hb)
 rw[List.getElem_set_ne hab,zAP,<-Sh.getD_at hb (d:=[])]at h2;rw[zAP,<-Sh.getD_at ha (d:=[])]at h1;omega
def WtF(x:NetR)(g:Gr):Prop:=∀v l,l∈g.ports.getD v []->∃i,l.2=1+ycu (atP x.weights i) 15
theorem yccp{x:NetR}{back:Bool}{g:Gr}{a b:Nat}{w:Int}(ha:a<g.ports.length)(hb:b<g.ports.length)(hw:∃i,w=1+ycu (atP x.weights i) 15)(h:WtF x g):WtF x (yis back g a b w):=by
 unfold yis;split
 .exact h
 .intro v l hl;rw[ydp back g w ha hb]at hl;split at hl
  .rcases yee.1 hl with rfl|hl
   .exact hw
   .exact h _ _ hl
  .split at hl
   .rcases yee.1 hl with rfl|hl
    .exact hw
    .exact h _ _ hl
   .exact h _ _ hl
structure TreeTo(x:NetR)(v:Nat)(g:Gr):Prop where
 tre:Tre g v
 wt:WtF x g
 none_:∀u,v<=u->g.ports.getD u []=[]
 count:ygf g+2=2*v
theorem yof(ids:List Int)(v:Nat):(bare ids).ports.getD v []=[]:=by
 unfold bare;rw[zAV,List.getElem?_replicate];split<;>rfl
theorem TreeTo.zero(x:NetR)(ids:List Int):TreeTo x 1 (bare ids):=by
 refine⟨fun v h0 h1=>by omega,fun v l hl=>?_,fun u _=>yof ids u,?_⟩
 .rw[yof]at hl;exact absurd hl zL
 .have:ygf (bare ids)=0:=by
   unfold ygf bare;simp
  omega
theorem TreeTo.succ{x:NetR}{v:Nat}{g:Gr}(hg:ybg g)(h:TreeTo x v g)(hv:v<g.ports.length)(h1:1<=v){a:Nat}(ha:a<v){w:Int}(hw:∃i,w=1+ycu (atP x.weights i) 15):TreeTo x (v+1) (yis x.back g a v w):=by
 have hadj:=ybvo (back:=x.back) (g:=g) (a:=a) (b:=v) (w:=w) (by omega) (by omega) (by omega)
 have hno:¬(a=v\/ylp (g.ports.getD a []) v=true):=by
  rintro(e|e)
  .omega
  .obtain⟨l,hl,e⟩:=List.any_eq_true.1 e;have e:=of_decide_eq_true e;have:adj g v a:=hg.adj_symm (yku.2 ⟨l,hl,e⟩);obtain⟨l',hl',_⟩:=yku.1 this;rw[h.none_ v (zG _)]at hl';exact absurd hl' zL
 have e:yis x.back g a v w=ycc x.back g a v w:=by unfold yis;rw[if_neg hno]
 refine⟨fun u h0 hu=>?_,yccp (by omega) hv hw h.wt,fun u hu=>?_,?_⟩
 .by_cases q:u=v
  .subst q;exact⟨a,ha,hadj⟩
  .exact ybst (by omega) hv h.tre u h0 (by omega)
 .rw[e,ydp x.back g w (by omega) hv,if_neg (by omega),if_neg (by omega)]
  exact h.none_ u (by omega)
 .rw[e,ybiv (by omega) hv (by omega)]
  have:=h.count;omega
namespace Sh
open Ev Go.RowKit
theorem ycby{n:Nat}{P:List (List (Int×Int))}{f:SV->SV}(hf:∀k z,f (.i k z) = .i k z){i:Nat}(hi:i<n):(match (if i<n then some (rowO (P.getD i []))else none)with|some b=>some (⟨b.e,b.bx,b.z,b.n,fun k=>(b.g k).map f⟩:OB)|none=>none)=some (rowO (P.getD i [])):=by
 rw[if_pos hi];simp[rowO,hf]
theorem ycxf{x:NetR}(hx:x.ok){most:Nat}(hm:1<=most/\most<=24) :
 Cm zZ 21 [] [] [.ag (netC x),.i .i64 most] fun r o=>∃g,ybg g/\TreeTo x g.ports.length g/\(g.ports.length<=most/\(g.ports.length:Int)=1+ycu (IntKind.wrap .i64 (x.n-1)) most)/\r=ysu g/\o=yfn g.ports:=by
 refine yczm [] [75,76] _ _ _ ?_;have hN:=ybzx hx hm;obtain⟨hx1,hx2,hx3,hx4⟩:=hx;simp only[netC]at hN;simp only[c21,ydec,ydcd,netC,go_sem,zA,zB,zC,↓reduceIte,reduceCtorEq];refine yfr hN [(17,117)] 0 [2,4] [2,4] ?_ ?_
 .simp only[okN,yco,yfe,yej,ydu,allQ,live,yc,go_sem,zA,zB,zAA,↓reduceIte,reduceCtorEq]
 rintro r o' ⟨ids,h1,h2,h3,rfl,rfl⟩;obtain⟨n,hn⟩:∃n,ids.length=n:=⟨_,rfl⟩;rw[hn]at h1;simp only[hn,yrl,ynr,nuF,nu,difN,yej,ydu,Fam.ren,OB.ren,dim,ybxe,yvo,ymy,go_sem,zA,zB,zC,zAA,↓reduceIte];simp only[ydge,go_sem]
 refine ybn (σ:=Nat×Gr) (fun q=>⟨[(6,.i .i64 q.1),(5,.pt (5,0) 0 0),(2,.pt (2,0) 0 0),(4,.pt (4,0) 0 0)],
  (5,.one (some ⟨27,true,2,1,fun _=>[yw q.2.ids,.os (211,0) 0 n true]⟩))::(2,.one (some ⟨24,true,6,1,fun _=>netC x⟩))::(4,.one (some ⟨27,true,2,1,fun _=>[.a (.slice none 0 0),.a (.slice none 0 0)]⟩))::yfn q.2.ports⟩)
  (fun q=>ybg q.2/\q.2.ports.length=n/\TreeTo x q.1 q.2/\1<=q.1/\q.1<=n) (fun q=>n-q.1) (1,bare ids) ⟨ybsx (by omega) (by omega) h2 h3,by simp[bare,hn],TreeTo.zero x ids,by omega,by omega⟩ ?_ ?_
 .refine yh [(211,fun i=>(117,i))] [212] [] ?_;have b1:(bare ids).ids=ids:=rfl;have b2:(bare ids).ports.length=n:=by simp[bare,hn]
  have b3:∀v,(bare ids).ports.getD v []=[]:=yof ids;simp only[netC,yfn,rowO,b1,b2,b3,zBR,allQ,live,yc,yba,go_sem,zA,zAA,↓reduceIte,reduceCtorEq];refine⟨rfl,fun i hi=>⟨(212,i),rfl,rfl,by simp[hi]⟩,fun i b hb=>?_⟩
  obtain⟨_,rfl⟩:=yig hb;exact⟨rfl,rfl⟩
 .rintro⟨v,g⟩ ⟨hg,hgn,htr,hv1,hvn⟩;have hg:ybg g:=hg;have hgn:g.ports.length=n:=hgn;have htr:TreeTo x v g:=htr;have hv1:1<=v:=hv1;have hvn:v<=n:=hvn
  by_cases hlt:v<n
  .have ht:decide ((v:Int)<(n:Int))=true:=decide_eq_true (by omega)
   have hv2:(v:Int)-1=((v-1:Nat):Int):=by omega
   have hA1:=at_ret x.links (v-1);have hA2:=at_ret x.weights (v-1);have hi1:=yhw (v:=atP x.links (v-1)) (m:=(v:Int)) (by omega)
   have hi2:=yhw (v:=atP x.weights (v-1)) (m:=15) (by omega)
   have hW1:=yhl (atP x.links (v-1)) v (by omega) (hx2 _)
   have hW2:=yhl (atP x.weights (v-1)) 15 (by omega) (hx3 _)
   obtain⟨a,ha⟩:∃a:Nat,ycu (atP x.links (v-1)) v=a:=zAL hi1.1;obtain⟨w,hw⟩:∃w:Int,ycu (atP x.weights (v-1)) 15=w:=⟨_,rfl⟩;rw[ha]at hW1 hi1;rw[hw]at hW2 hi2;have hL:=ycwm (x:=x) (g:=g) (a:=a) (b:=v) (w:=1+w) (by omega) (by omega) (by omega) (fun u=>by have:=hg.deg_lt (v:=u);omega)
   simp only[ydak,yddp,ydcv,netC,yfn,ht,hv2,clash,go_sem,zA,zB,zD,zAA,↓reduceIte,reduceCtorEq];refine⟨ikw (by omega) (by omega),hA1.use ?_⟩
   simp only[ybh,clash,go_sem,zA,zB,zD,zAA,↓reduceIte,reduceCtorEq];refine hW1.use ?_;simp only[hv2,go_sem];refine⟨ikw (by omega) (by omega),hA2.use ?_⟩
   simp only[go_sem,↓reduceIte];refine hW2.use ?_;simp only[go_sem,zA,zAA,↓reduceIte];refine⟨ikw (by omega) (by omega),yfr hL [(211,211),(212,212)] 0 [2,4,5,6] [2,4,5] ?_ ?_⟩
   .simp only[netC,ysu,yfn,hgn,to1,okN,yco,yfe,yej,ydu,allQ,live,yc,go_sem,zA,zB,zAA,↓reduceIte,reduceCtorEq];refine⟨⟨fun i _ j _ e=>e,fun i hi=>by rw[if_pos hi],fun i b hb=>?_⟩,by decide⟩
    obtain⟨hi,rfl⟩:=yig hb;exact⟨_,if_pos hi,⟨rfl,rfl,rfl,rfl⟩,fun k hk=>by simp only[rowO,live,yc,go_sem,reduceCtorEq]⟩
   .rintro r o' ⟨rfl,rfl⟩;simp only[yfn,yrl,ynr,nuF,nu,difN,yej,ydu,Fam.ren,OB.ren,dim,yso,ymy,go_sem,zA,zB,zAA,↓reduceIte,reduceCtorEq];obtain⟨gg1,gg2,gg3⟩:=ybil (back:=x.back) (a:=a) (b:=v) (w:=1+w) hg (by omega) (by omega) (by omega)
    have gg4:=htr.succ hg (by omega) hv1 (a:=a) (by omega) (w:=1+w) ⟨v-1,by rw[hw]⟩
    obtain⟨G,hG⟩:∃G,yis x.back g a v (1+w)=G:=⟨_,rfl⟩;rw[hG]at gg1 gg2 gg3 gg4 ⊢;rw[hgn]at gg3;refine⟨ikw (by omega) (by omega),yu (v+1,G) ⟨gg1,gg3,gg4,by omega,by omega⟩ (by show n-(v+1)<n-v;omega) ?_⟩
    .refine yh [] [] [] ?_;simp only[gg3,gg2,allQ,live,yc,yba,go_sem,zA,↓reduceIte,reduceCtorEq];refine⟨fun i _ j _ e=>e,by omega,fun i hi=>by rw[if_pos hi],fun i b hb=>?_⟩
     obtain⟨hi,rfl⟩:=yig hb;refine⟨_,ycby (f:=ren (nu [(211,211),(212,212)] 0) 5) (fun _ _=>rfl) hi,⟨rfl,rfl,rfl,rfl⟩,fun k hk=>?_⟩;simp only[rowO,live,yc,go_sem,reduceCtorEq]
  .obtain rfl:v=n:=by omega
   have ht:decide ((v:Int)<(v:Int))=false:=decide_eq_false (by omega)
   simp only[ydak,yddk,netC,yfn,ht,clash,splice,yhj,go_sem,zA,zB,↓reduceIte,reduceCtorEq];refine⟨ysu g,yfn g.ports,?_,?_,g,hg,by rw[hgn];exact htr,by omega,rfl,rfl⟩
   .refine yh [] [] [] ?_;simp only[yfn,ysu,hgn,allQ,live,yc,go_sem,zA,↓reduceIte,reduceCtorEq];refine⟨fun i _ j _ e=>e,fun i hi=>by rw[if_pos hi],fun i b hb=>?_⟩
    obtain⟨hi,rfl⟩:=yig hb;exact⟨_,if_pos hi,⟨rfl,rfl,rfl,rfl⟩,fun k hk=>by simp only[rowO,live,yc,go_sem,reduceCtorEq]⟩
   .simp only[yfn,ysu,yco,yfe,allQ,live,go_sem,zA,↓reduceIte];refine⟨fun i hi=>by rw[if_pos hi],fun i b hb k hk=>?_⟩
    obtain⟨hi,rfl⟩:=yig hb;simp only[rowO,go_sem]
end Sh
end
section
namespace Sh
open Ev Go.RowKit
end Sh
end
section
namespace Sh
open Ev Go.RowKit
theorem ybzl(l:List Nat):one1 (usV l)=true:=rfl
theorem ybqs{n:Nat}(l:List Nat):owned (n+1) (usV l)=false:=rfl
theorem ybjv{n:Nat}(l:List Nat):scalar (n+1) (usV l)=false:=rfl
theorem yccn{n:Nat}(o:Own)(l:List Nat):view o (n+1) (usV l)=usV l:=rfl
theorem ycum{n:Nat}(o:Own)(l:List Nat):vok o (n+1) (usV l)=True:=rfl
theorem yczi{n:Nat}(h:Nm->Nm)(l:List Nat):ren h (n+1) (usV l)=usV l:=rfl
theorem ycwo{n:Nat}(D:Nm->Bool)(l:List Nat):cln D (n+1) (usV l)=true:=rfl
theorem ybqd{n:Nat}(fr:List Nm)(o:Own)(l:List Nat):yda fr o (n+1) (usV l)=usV l:=rfl
theorem ycxx{n:Nat}(fr:List Nm)(o:Own)(l:List Nat):pok fr o (n+1) (usV l)=True:=rfl
theorem ybnh(l:List Nat):SV.cells (usV l)=[usV l]:=rfl
theorem yber(l:List Conf):one1 (yeh l)=true:=rfl
theorem ybbx{n:Nat}(l:List Conf):owned (n+1) (yeh l)=false:=rfl
theorem yxn{n:Nat}(l:List Conf):scalar (n+1) (yeh l)=false:=rfl
theorem ybdt{n:Nat}(o:Own)(l:List Conf):view o (n+1) (yeh l)=yeh l:=rfl
theorem ybjx{n:Nat}(o:Own)(l:List Conf):vok o (n+1) (yeh l)=True:=rfl
theorem ybjh{n:Nat}(h:Nm->Nm)(l:List Conf):ren h (n+1) (yeh l)=yeh l:=rfl
theorem ybkd{n:Nat}(D:Nm->Bool)(l:List Conf):cln D (n+1) (yeh l)=true:=rfl
theorem yzm{n:Nat}(fr:List Nm)(o:Own)(l:List Conf):yda fr o (n+1) (yeh l)=yeh l:=rfl
theorem ybiw{n:Nat}(fr:List Nm)(o:Own)(l:List Conf):pok fr o (n+1) (yeh l)=True:=rfl
theorem ybbv(l:List Conf):SV.cells (yeh l)=[yeh l]:=rfl
theorem ybia(l:List Cnt):one1 (yhx l)=true:=rfl
theorem ybcb{n:Nat}(l:List Cnt):owned (n+1) (yhx l)=false:=rfl
theorem yyd{n:Nat}(l:List Cnt):scalar (n+1) (yhx l)=false:=rfl
theorem ybio{n:Nat}(o:Own)(l:List Cnt):view o (n+1) (yhx l)=yhx l:=rfl
theorem ybum{n:Nat}(o:Own)(l:List Cnt):vok o (n+1) (yhx l)=True:=rfl
theorem ybub{n:Nat}(h:Nm->Nm)(l:List Cnt):ren h (n+1) (yhx l)=yhx l:=rfl
theorem ybqq{n:Nat}(D:Nm->Bool)(l:List Cnt):cln D (n+1) (yhx l)=true:=rfl
theorem ybep{n:Nat}(fr:List Nm)(o:Own)(l:List Cnt):yda fr o (n+1) (yhx l)=yhx l:=rfl
theorem ybph{n:Nat}(fr:List Nm)(o:Own)(l:List Cnt):pok fr o (n+1) (yhx l)=True:=rfl
theorem ybcc(l:List Cnt):SV.cells (yhx l)=[yhx l]:=rfl
theorem ycbl(l:List Bool):one1 (blV l)=true:=rfl
theorem ybqw{n:Nat}(l:List Bool):owned (n+1) (blV l)=false:=rfl
theorem ybln{n:Nat}(l:List Bool):scalar (n+1) (blV l)=false:=rfl
theorem ybyq{n:Nat}(o:Own)(l:List Bool):view o (n+1) (blV l)=blV l:=rfl
theorem ycts{n:Nat}(o:Own)(l:List Bool):vok o (n+1) (blV l)=True:=rfl
theorem ycyh{n:Nat}(h:Nm->Nm)(l:List Bool):ren h (n+1) (blV l)=blV l:=rfl
theorem ycvs{n:Nat}(D:Nm->Bool)(l:List Bool):cln D (n+1) (blV l)=true:=rfl
theorem ybut{n:Nat}(fr:List Nm)(o:Own)(l:List Bool):yda fr o (n+1) (blV l)=blV l:=rfl
theorem ycyn{n:Nat}(fr:List Nm)(o:Own)(l:List Bool):pok fr o (n+1) (blV l)=True:=rfl
theorem ybnv(l:List Bool):SV.cells (blV l)=[blV l]:=rfl
attribute [go_sem] ybzl ybqs ybjv yccn ycum yczi ycwo ybqd ycxx ybnh yber ybbx yxn ybdt ybjx ybjh ybkd yzm ybiw ybbv ybia ybcb yyd ybio ybum ybub ybqq ybep ybph ybcc ycbl ybqw ybln ybyq ycts ycyh ycvs ybut ycyn ybnv
theorem Ct.found{P:Program}{g:FuncId}{args:List SV}{α:Type}{R:SV->α->Prop}{V:α->SV}{Q:SV->Prop}(h:Ct P g args fun r=>∃x,R r x)(hs:∀r x,R r x->Sim r (V x))(hq:∀r x,R r x->Q (V x)):Ct P g args Q:=fun G m us h1 h2 h3=>by
 obtain⟨v,m',r,a,b,c,⟨x,hx⟩,e⟩:=h G m us h1 h2 h3;exact⟨v,m',V x,a,b,c,hq r x hx,hs r x hx _ _ _ e⟩
theorem Sys.run_len(S:Sys)(res:Nat->Nat->Nat):∀(ws:List Nat) (c:Conf) (k:Cnt),(S.run res ws c k).length<=ws.length
 |[],_,_=>zG _
 | w :: ws,c,k=>by
   unfold Sys.run;split
   .exact zW _
   .simp only[zM];have:=Sys.run_len S res ws (S.mv c (res (S.en c) w)) (addP k (res (S.en c) w) (S.en (S.mv c (res (S.en c) w))));omega
structure RunD(S:Sys)(res:Nat->Nat->Nat)(ws:List Nat)(c:Conf)(n:Nat)(Cs:List Conf)(Ks:List Cnt):Prop where
 cs:(S.runs res ws c).map (·.1)=Cs
 ks:(S.runs res ws c).map (·.2)=Ks
 len:(S.runs res ws c).length=n
 pos:0<n
 le:n<=ws.length+1
theorem RunD.at_{S:Sys}{res:Nat->Nat->Nat}{ws:List Nat}{c:Conf}{n:Nat}{Cs:List Conf}{Ks:List Cnt}(h:RunD S res ws c n Cs Ks){k:Nat}(hk:k<n):(Cs.getD k [],Ks.getD k default)∈S.runs res ws c/\(S.runs res ws c)[k]?=some (Cs.getD k [],Ks.getD k default):=by
 have hk':k<(S.runs res ws c).length:=by rw[h.len];exact hk
 have e:(S.runs res ws c)[k]=(Cs.getD k [],Ks.getD k default):=by
  rw[<-h.cs,<-h.ks];simp[zAC,hk']
 exact⟨by rw[<-e];exact zN hk',by rw[<-e];exact zK hk'⟩
theorem RunD.lC{S:Sys}{res:Nat->Nat->Nat}{ws:List Nat}{c:Conf}{n:Nat}{Cs:List Conf}{Ks:List Cnt}(h:RunD S res ws c n Cs Ks):Cs.length=n:=by rw[<-h.cs,zAE,h.len]
theorem RunD.lK{S:Sys}{res:Nat->Nat->Nat}{ws:List Nat}{c:Conf}{n:Nat}{Cs:List Conf}{Ks:List Cnt}(h:RunD S res ws c n Cs Ks):Ks.length=n:=by rw[<-h.ks,zAE,h.len]
theorem runD(S:Sys)(res:Nat->Nat->Nat)(ws:List Nat)(c:Conf):∃n Cs Ks,RunD S res ws c n Cs Ks :=
 ⟨_,_,_,rfl,rfl,rfl,by simp[Sys.runs],by have:=Sys.run_len S res ws c (ydi (S.en c));simp only[Sys.runs,zM];omega⟩
theorem RunD.last{S:Sys}{res:Nat->Nat->Nat}{ws:List Nat}{c:Conf}{n:Nat}{Cs:List Conf}{Ks:List Cnt}(h:RunD S res ws c n Cs Ks){k:Nat}(hk:k+1<n):S.en (Cs.getD k [])≠0:=by
 have h1:=(h.at_ (show k<n by omega)).2
 exact Sys.runs_last (by rw[h.len];exact hk) h1
end Sh
end
section
namespace Sh
theorem ybgn(S:Sys)(res:Nat->Nat->Nat):∀(ws:List Nat) (c:Conf) (k:Cnt),(S.run res ws c k).length<ws.length->S.en (((c,k)::S.run res ws c k).getD (S.run res ws c k).length default).1=0
 |[],c,k,h=>by simp at h
 | w :: ws,c,k,h=>by
   unfold Sys.run at h ⊢
   by_cases h0:S.en c=0
   .simp only[if_pos h0];exact h0
   .simp only[if_neg h0,zM]at h ⊢;exact ybgn S res ws _ _ (by omega)
theorem RunD.over{S:Sys}{res:Nat->Nat->Nat}{ws:List Nat}{c:Conf}{n:Nat}{Cs:List Conf}{Ks:List Cnt}(h:RunD S res ws c n Cs Ks):S.en (Cs.getD (n-1) [])=0\/n=ws.length+1:=by
 by_cases q:n=ws.length+1
 .exact .inr q
 .left
  have hl:=h.len;have h1:=h.le
  have h2:=ybgn S res ws c (ydi (S.en c)) (by
   simp only[Sys.runs,zM]at hl;omega)
  have e:(S.run res ws c (ydi (S.en c))).length=n-1:=by simp only[Sys.runs,zM]at hl;omega
  rw[e]at h2;have h3:=(h.at_ (show n-1<n by have:=h.pos;omega)).2
  have e2:((c,ydi (S.en c))::S.run res ws c (ydi (S.en c))).getD (n-1) default=(Cs.getD (n-1) [],Ks.getD (n-1) default):=by
   rw[zAV];have h3:((c,ydi (S.en c))::S.run res ws c (ydi (S.en c)))[n-1]?=some (Cs.getD (n-1) [],Ks.getD (n-1) default):=h3;rw[h3];rfl
  rw[e2]at h2;exact h2
end Sh
end
section
section
variable {nm np na nb nw:ByteArray}{g:Gr}{c:Conf}{u v s:Nat}
end
end
section
section
variable {nm np na nb nw:ByteArray}{g:Gr}{c:Conf}{u v s:Nat}
def ydla(g:Gr)(s:Nat):List Nat:=(zF g.ids.length).filter s.testBit
theorem ybek{α:Type}(f:α->Bool)(l:List α)(x:α):((l++[x]).filter f).length=(l.filter f).length+(f x).toNat:=by
 rw[List.filter_append,zAD];cases h:f x<;>simp[h]
theorem yqb(s:Nat):∀n,yex s n=((zF n).filter s.testBit).length
 |0=>rfl
 | n+1=>by
   rw[zAZ,ybek,<-yqb s n];rfl
structure MtJ(nm np na nb nw:ByteArray)(g:Gr)(c:Conf)(k:Cnt):Prop where
 valid:ygr (ydei nm np na nb nw) g c=true
 moves:∃I,PtI g (toP g c) I/\2*k.moves+potN g (toP g c) I<=2*g.ports.length+2*ygf g
end
end
section
theorem ycyi{s n:Nat}:yex s n=1↔∃v,v<n/\∀i,i<n->(s.testBit i=true↔i=v):=by
 rw[yqb];have mem:∀i,i∈(zF n).filter s.testBit↔i<n/\s.testBit i=true:=fun i=>by rw[List.mem_filter,zBS]
 constructor
 .intro h;obtain⟨a,ha⟩:=List.length_eq_one_iff.1 h;rw[ha]at mem;have h0:=(mem a).1 zJ;refine⟨a,h0.1,fun i hi=>⟨fun hb=>?_,fun e=>by rw[e];exact h0.2⟩⟩
  have:=(mem i).2 ⟨hi,hb⟩
  simpa using this
 .rintro⟨v,hv,h⟩
  have h1:=ybav (l1:=(zF n).filter s.testBit) (l2:=[v]) (List.nodup_range.filter _) fun x hx=>by
   have:=(mem x).1 hx;rw[(h x this.1).1 this.2];exact zJ
  have h2:=zAN ((mem v).2 ⟨hv,(h v hv).2 rfl⟩);simp only[zM,zBR]at h1;omega
def ledB(c:Conf)(k:Nat):Nat:=(zF k).foldl (fun s v=>s|||(lAt c v).toNat*2^v) 0
theorem ybrh{c:Conf}(n:Nat)(hl:∀v,v<n->lAt c v=0\/lAt c v=1):∀k,k<=n->∀i,(ledB c k).testBit i=true↔i<k/\lAt c i=1
 |0,_,i=>⟨fun h=>by simp[ledB]at h,fun h=>absurd h.1 (zAI _)⟩
 | k + 1,hk,i=>by
   have e:ledB c (k+1)=ledB c k|||(lAt c k).toNat*2^k:=by unfold ledB;rw[zAZ,zY];rfl
   rw[e,Nat.testBit_or,Bool.or_eq_true,ybrh n hl k (by omega) i]
   rcases hl k (by omega)with q|q
   .rw[q];simp only[Int.toNat_zero,Nat.zero_mul,Nat.zero_testBit,zBG,or_false];constructor
    .rintro⟨a,b⟩;exact⟨by omega,b⟩
    .rintro⟨a,b⟩;refine⟨?_,b⟩
     by_cases r:i=k
     .subst r;omega
     .omega
   .rw[q];have:(1:Int).toNat*2^k=2^k:=by rw[show(1:Int).toNat=1 from rfl,Nat.one_mul]
    rw[this,zBF,decide_eq_true_iff];constructor
    .rintro(⟨a,b⟩|a)
     .exact⟨by omega,b⟩
     .subst a;exact⟨by omega,q⟩
    .rintro⟨a,b⟩
     by_cases r:k=i
     .exact .inr r
     .exact .inl ⟨by omega,b⟩
theorem ybzr{g:Gr}(h:Tr g){c:Conf}(hc:ElC g c)(hH:yfv g c):(yex (ledB c g.ids.length) 32=1/\∀i,(ledB c g.ids.length).testBit i=true->i<g.ports.length/\Peak g i)↔yoi g c:=by
 have hpl:=h.good.2.2.1;have h24:=h.good.2.1;have bit:=ybrh g.ids.length (c:=c) (fun v hv=>(hc.row v hv).2.2) g.ids.length (zG _);rw[ycyi];constructor
 .rintro⟨⟨v,hv,h1⟩,h2⟩;have hb:=(h1 v hv).2 rfl;have hb':=(bit v).1 hb;exact⟨hH,v,hb'.1,(h2 v hb).2,hb'.2,fun u hu e=>(h1 u (by omega)).1 ((bit u).2 ⟨hu,e⟩)⟩
 .rintro⟨_,v,hv,hp,h1,h2⟩;refine⟨⟨v,by omega,fun i hi=>⟨fun hb=>?_,fun e=>?_⟩⟩,fun i hb=>?_⟩
  .have:=(bit i).1 hb;exact h2 i this.1 this.2
  .rw[e];exact(bit v).2 ⟨hv,h1⟩
  .have:=(bit i).1 hb;rw[h2 i this.1 this.2];exact⟨by omega,hp⟩
end
section
def yfi(g:Gr)(c:Conf):Bool:=yhi g&&yow g.ports.length (ydf g [(g.ids.length:Int),1]) c
def ybqz(g:Gr)(c:Conf):Bool:=(zF c.length).all fun v=>!(hAt c v != htP g v)
def ybwz(g:Gr)(c:Conf):Bool:=((popP (ledB c c.length):Int)==1)&&((difB (ledB c c.length) (yia (htP g) g):Int)==0)
def yjx(g:Gr)(c:Conf):Bool:=yfi g c&&(ybqz g c&&ybwz g c)
theorem yru{g:Gr}{c:Conf}(h:yfi g c=true):yhi g=true/\c.length=g.ports.length/\∀v,v<c.length->(c.getD v []).length=2/\(0<=hAt c v/\hAt c v<=g.ids.length)/\(lAt c v=0\/lAt c v=1):=by
 unfold yfi at h;rw[zQ]at h;have hck:=(yel _ _ _).1 h.2;refine⟨h.1,hck.1,fun v hv=>?_⟩;have h2:=hck.2 v _ (zK hv);have e:c[v]=c.getD v []:=by rw[Sh.getD_at hv]
 rw[e]at h2;have hne:¬(g.ids.length:Int) = -1:=by omega
 have eb:ydf g [(g.ids.length:Int),1] v=[(0,(g.ids.length:Int)),(0,1)]:=by simp[ydf,hne]
 rw[eb]at h2;have hl:(c.getD v []).length=2:=h2.1;have h3:=h2.2 0 (0,(g.ids.length:Int)) (hAt c v) rfl (by unfold hAt;rw[Sh.getD_at (show 0<(c.getD v []).length by omega)];exact zK _)
 have h4:=h2.2 1 (0,1) (lAt c v) rfl (by unfold lAt;rw[Sh.getD_at (show 1<(c.getD v []).length by omega)];exact zK _)
 simp only at h3 h4;exact⟨hl,h3,by omega⟩
theorem ydcs{g:Gr}{c:Conf}(hg:ybg g)(h:yfi g c=true):ElC g c:=by
 obtain⟨_,h1,h2⟩:=yru h;have hpl:=hg.2.2.1;exact⟨by omega,fun v hv=>h2 v (by omega)⟩
section
variable {nm nh nl nf nd nt ni:ByteArray}{g:Gr}
theorem yddb(h:Tr g)(hit:yhi g=true){c:Conf}(hv:ygr (ybj nm nh nl nf nd nt ni) g c=true):yfi g c=true:=by
 have hC:=yje hv;have hpl:=h.good.2.2.1;unfold yfi;rw[hit,zAO,yel];refine⟨by rw[hC.len,hpl],fun v s hs=>?_⟩
 obtain⟨hvl,e⟩:=List.getElem?_eq_some_iff.1 hs;have e:c.getD v []=s:=by simp[zAC,hs]
 obtain⟨h1,h2,h3⟩:=hC.row v (by rw[<-hC.len];exact hvl)
 unfold hAt at h2;unfold lAt at h3;rw[e]at h1 h2 h3;have hne:¬(g.ids.length:Int) = -1:=by omega
 have eb:ydf g [(g.ids.length:Int),1] v=[(0,(g.ids.length:Int)),(0,1)]:=by simp[ydf,hne]
 rw[eb];refine⟨h1,fun i b x hb hx=>?_⟩;have hi:=(List.getElem?_eq_some_iff.1 hb).1;have hi:i<2:=by simpa using hi
 have e2:s.getD i 0=x:=by simp[zAC,hx]
 rcases(show i=0\/i=1 by omega)with rfl|rfl
 .have hb:some (0,(g.ids.length:Int))=some b:=hb;cases hb
  rw[e2]at h2;exact h2
 .have hb:some (0,1)=some b:=hb;cases hb
  rw[e2]at h3;show 0<=x/\x<=1;omega
theorem ywi(h:Tr g){c:Conf}(hq:yfi g c=true):yjx g c=true↔yoi g c:=by
 obtain⟨_,hl,_⟩:=yru hq;have hC:=ydcs h.good hq;have hpl:=h.good.2.2.1;have h24:=h.good.2.1;have hcl:c.length=g.ids.length:=by omega
 unfold yjx ybqz ybwz;rw[hq,zAO,zQ,zQ,zAX,beq_iff_eq,beq_iff_eq,hcl]
 have hHt:(∀x∈zF g.ids.length,(!(hAt c x != htP g x))=true)↔yfv g c:=by
  constructor
  .intro q v hv;have:=q v (List.mem_range.2 hv);rw[zAM,bne_eq_false_iff_eq]at this;exact this
  .intro q v hv;rw[zAM,bne_eq_false_iff_eq];exact q v (List.mem_range.1 hv)
 rw[hHt]
 have hz:∀H:yfv g c,(((popP (ledB c g.ids.length):Int))=1/\((difB (ledB c g.ids.length) (yia (htP g) g):Nat):Int)=0)↔yoi g c:=fun H=>by
  rw[<-ybzr h hC H];refine and_congr ?_ ?_
  .unfold popP;omega
  .have e:((difB (ledB c g.ids.length) (yia (htP g) g):Nat):Int)=0↔difB (ledB c g.ids.length) (yia (htP g) g)=0:=by omega
   rw[e,yed];constructor
   .intro q i hb;have:=q i;rw[ygw,hb,zAO,Bool.not_eq_false']at this;exact(yrm h.good).1 this
   .intro q i;rw[ygw];cases hb:(ledB c g.ids.length).testBit i with
    |false=>rfl
    |true=>rw[(yrm h.good).2 (q i hb)];rfl
 exact⟨fun⟨a,b⟩=>(hz a).1 b,fun r=>⟨r.1,(hz r.1).2 r⟩⟩
end
end
end Go.Proofs.YtiejahgklcjhkaaGreatDoor
