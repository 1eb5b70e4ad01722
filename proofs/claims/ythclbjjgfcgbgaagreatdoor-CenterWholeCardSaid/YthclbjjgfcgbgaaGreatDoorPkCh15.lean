/- Joined. -/
import Derived.Test.YthclbjjgfcgbgaaGreatDoorPkCh14
import Derived.Test.YthclbjjgfcgbgaaGreatDoorPkCh10
set_option linter.unusedSimpArgs false
set_option linter.unusedVariables false
set_option maxRecDepth 1000000
open Nat renaming reduceEqDiff->zA,reduceLT->zC,reduceAdd->zD,beq_refl->zF,beq->zG,reduceLeDiff->zH,le_of_ble_eq_true->zI,add_comm->zK,reduceBEq->zL,eq_of_beq_eq_true->zN,zero_add->zO,ble_eq_true_of_le->zU,le_refl->zV,blt->zW,not_lt_zero->zAA,ble->zAC,lt_of_lt_of_le->zAD,reduceMul->zAP,zero_le->zAS,sub_self->zAZ
open Bool renaming and_eq_true->zB,true_and->zQ,false_ne_true->zS,not_eq_true'->zAF
open Go.Proofs.Tryz renaming prog->zJ,func38->zBE
open List renaming map_congr_left->zM,length_map->zT,pairwise_map->zY,not_mem_nil->zZ,map_map->zAB,length_append->zAE,nodup_cons->zAH,nodup_nil->zAK,length_singleton->zAL,mem_cons_of_mem->zAM,mem_of_mem_take->zAN,mem_of_mem_drop->zAO,mem_cons_self->zAR,getElem_mem->zAT,getElem_map->zAU,take->zAV,drop->zAW,all_cons->zAX,map_cons->zAY,length->zBD,getD->zBF
open Int renaming eq_ofNat_of_zero_le->zX,natCast_zero->zAG,add_mul_ediv_right->zAI,ediv_eq_zero_of_lt->zAJ,add_comm->zBA,zero_add->zBB
open And renaming intro->zAQ
open Eq renaming trans->zBC
open Go
namespace Go.Proofs.YthclbjjgfcgbgaaGreatDoor
section
namespace Sh
open Go Ev
theorem Cm.ct{P:Program}{g:FuncId}{args:List SV}{Q:SV->Own->Prop}{R:SV->Prop}(h:Cm P g [] [] args Q)(hq:∀r o',Q r o'->vok o' 5 r/\R (view o' 5 r)):Ct P g args R:=by
 intro G m us hw hle hargs
 have hc0:Conc m.next G om0 ⟨[],[]⟩ ⟨0,.leaf⟩ (enterM m) :=
  ⟨hw,zV _,zV _,hle,fun β b h=>(by cases h),fun β _=>rfl,fun β γ k z k' z' h=>(by cases h),fun β k z h=>(by cases h),fun t v hv=>(by cases hv)⟩
 obtain⟨v,m1,r,o',F',ω',s0,t2,hrv,l1,l2,_,_,hQ⟩:=h m.next G om0 ⟨0,.leaf⟩ (enterM m) us hc0 hargs
 obtain⟨r3,r4⟩:=hq r o' hQ
 have hs0:ybu P (.call g us m) (.call v m1):=by
  obtain⟨n,b,l⟩:=m;exact ybu.relow s0
 have hm1:m.next<=m1.low:=t2.low
 have hold:∀{i x},m.b.get i=some x->i<m.next:=fun {i x} q=>hw i x q
 have hview:∀H:AM,Le F' H->(∀β k z,ω' β=some (some (k,z))->∀b,m1.b.get k=some b->H k=some b)->RV H om0 (view o' 5 r) v:=fun H h1 h2=>yjq t2 h1 h2 hrv r3
 have hs1:ybu P (.call g us m) (.call v ⟨m1.next,yhg m.b m1.b,m1.low⟩):=by
  intro hwm;obtain⟨ext,hcall⟩:=hs0 hwm
  have hget:∀{i x},(yhg m.b m1.b).get i=some x->m.b.get i=some x\/m1.b.get i=some x:=fun {i x} q=>by
   rw[ydg]at q;split at q
   .rename_i y hy;cases q;exact .inl hy
   .exact .inr q
  refine⟨⟨ext.next,fun i b hq=>?_,fun i b h1 h2 hq=>?_,fun i b hq=>?_⟩,fun φ M w args' hR hs ha hf=>?_⟩
  .rcases hget hq with q|q
   .exact .inl ⟨b,q⟩
   .exact ext.dom i b q
  .rcases hget hq with q|q
   .exact q
   .exact ext.old i b h1 h2 q
  .rcases hget hq with q|q
   .exact zAD (hold q) ext.next
   .exact ext.wf i b q
  .refine(hcall φ M w args' hR hs ha hf).mono ?_;rintro e' w' ⟨v',rfl,φ',M',hgd,hv⟩;refine⟨v',rfl,φ',M',⟨hgd.le,hgd.out,hgd.rel,fun i b hq=>?_,hgd.frame,hgd.wg⟩,hv⟩;rcases hget hq with q|q
   .have hi:=hold q;rw[hgd.frame i (fun z=>by omega) (.inr (zAD hi hm1))]
    exact hs i b q
   .exact hgd.sub i b q
 have hnone:∀{i},m.next<=i->m.b.get i=none:=fun {i} q=>by
  cases hh:m.b.get i with
  |none=>rfl
  |some x=>have:=hold hh;omega
 refine⟨_,_,view o' 5 r,hs1,hm1,fun i b hq=>?_,r4,hview _ (fun i b hq=>?_) (fun β k z hk b hq=>?_)⟩
 .show(yhg m.b m1.b).get i=some b;rw[ydg,hq]
 .unfold frsh;rcases l2 i b hq with q|q
  .rw[if_neg (by have:=hold (hle i b q);omega)];exact q
  .rw[if_pos q];show(yhg m.b m1.b).get i=some b;rw[ydg,hnone q];exact t2.sub i b hq
 .unfold frsh;have:=(t2.apart β k z hk).2.1;rw[if_pos this];show(yhg m.b m1.b).get k=some b;rw[ydg,hnone this];exact hq
theorem Cm.weak {P:Program}{g:FuncId}{o:Own}{args:List SV}{Q R:SV->Own->Prop}(h:Cm P g [] o args Q)
 (hq:∀r o',Q r o'->∃r2 o2,Weak [] ⟨[(0,r)],o'⟩ ⟨[(0,r2)],o2⟩/\(cln (live o2) 5 r2=true/\allQ (fun p=>ycc (live o2) p.2) o2)/\R r2 o2):Cm P g [] o args R:=by
 intro lo G ω f m us hc hargs;obtain⟨v,m1,r,o',F',ω',s0,t2,hrv,l1,l2,_,_,hQ⟩:=h lo G ω f m us hc hargs;obtain⟨r2,o2,hw,hcl,hR⟩:=hq r o' hQ
 have t3:Conc lo F' ω' ⟨[(0,r)],o'⟩ ⟨1,tOf [v]⟩ m1:=⟨t2.wf,t2.low,t2.nxt,t2.sub,t2.own,t2.dom,t2.inj,t2.apart,fun t x hx=>by
  unfold look at hx;split at hx
  .rename_i e
   cases hx
   exact⟨v,by rw[ycw];simp[<-e],hrv⟩
  .cases hx⟩
 obtain⟨ω2,F2,k1,k2,k3,_⟩:=hw lo F' ω' _ m1 t3;obtain⟨u,q1,q2⟩:=k3.fr 0 r2 rfl
 have e:u=v:=by
  rw[ycw]at q1
  simpa using q1.symm
 subst e
 exact⟨u,m1,r2,o2,F2,ω2,s0,⟨k3.wf,k3.low,k3.nxt,k3.sub,k3.own,k3.dom,k3.inj,k3.apart,fun t x hx=>(by cases hx)⟩,q2,fun x b hx=>k1 x b (l1 x b hx),fun x b hx=>by
  rcases k2 x b hx with z|z
  .exact l2 x b z
  .exact .inr z,fun β hβ=>absurd hβ zZ,⟨hcl.1,hcl.2,trivial⟩,hR⟩
end Sh
end
section
structure NetR where
 n:Int
 links:List Int
 weights:List Int
 ids:List Int
 apart:Bool
 back:Bool
def NetR.ok(x:NetR):Prop:=Sh.inK .i64 x.n/\(∀k,Sh.inK .i64 (x.links.getD k 0))/\(∀k,Sh.inK .i64 (x.weights.getD k 0))/\(∀k,Sh.inK .i64 (x.ids.getD k 0))
theorem ybjc(a r:Nat)(hr:r<=256):((List.range r).map fun i=>(((a+i)%256:Nat):Int)).Nodup:=by
 unfold List.Nodup;rw[zY];refine List.Pairwise.imp_of_mem (R:=(· < ·)) (fun {i j} hi hj h=>?_) List.pairwise_lt_range;have hi:=List.mem_range.1 hi;have hj:=List.mem_range.1 hj;intro e;omega
theorem ybkb{a r:Nat}{l:List Int}(hr:r<=256)(h:∀i,i<r->(((a+i)%256:Nat):Int)∈l):r<=l.length:=by
 have:=List.Nodup.length_le_of_subset (ybjc a r hr) (l₂:=l) fun x hx=>by
  obtain⟨i,hi,rfl⟩:=List.mem_map.1 hx;exact h i (List.mem_range.1 hi)
 simpa using this
namespace Sh
open Ev Go.RowKit
def netC(x:NetR):List SV:=[.i .i64 x.n,ybc x.links,ybc x.weights,ybc x.ids,.b x.apart,.b x.back]
theorem wrap64_in(z:Int):inK .i64 (IntKind.wrap .i64 z):=by
 unfold inK;have e1:IntKind.i64.min = -9223372036854775808:=rfl;have e2:IntKind.i64.max=9223372036854775807:=rfl;have h1:=Int.emod_nonneg z (show(18446744073709551616:Int)≠0 by decide)
 have h2:=Int.emod_lt_of_pos z (show(0:Int)<18446744073709551616 by decide)
 rw[e1,e2]
 have e:IntKind.wrap .i64 z=if z%18446744073709551616>=9223372036854775808 then z%18446744073709551616-18446744073709551616 else z%18446744073709551616:=by
  show(if (true&&decide (z%18446744073709551616>=9223372036854775808))=true then z%18446744073709551616-18446744073709551616 else z%18446744073709551616)=_
  simp only[zQ,decide_eq_true_eq]
 rw[e];split<;>omega
theorem ybsq{x:NetR}(hx:x.ok){most:Nat}(hm:1<=most/\most<=24) :
 Cm zJ 47 [] [] [.ag (netC x),.i .i64 most] fun r o=>∃ids:List Int,(1<=ids.length/\ids.length<=most/\(ids.length:Int)=1+ydx (IntKind.wrap .i64 (x.n-1)) most)/\(∀y∈ids,0<=y/\y<=255)/\ids.Nodup/\r = .ag [.os (148,0) 0 ids.length true,.os (17,0) 0 ids.length true] /\
  o=[(17,.one (some ⟨135,false,1,ids.length,fun _=>[.a (.slice none 0 0)]⟩)),(148,.one (some ⟨3,false,1,ids.length,fun k=>[.i .i64 (ids.getD k 0)]⟩))]:=by
 refine ydjv [] [] _ _ _ ?_;obtain⟨hx1,hx2,hx3,hx4⟩:=hx;have hin:=ylg (v:=IntKind.wrap .i64 (x.n-1)) (m:=(most:Int)) (by omega)
 obtain⟨k,hk⟩:∃k:Nat,ydx (IntKind.wrap .i64 (x.n-1)) most=k:=zX hin.1;have hW:=ylf (IntKind.wrap .i64 (x.n-1)) most (by omega) (wrap64_in _)
 rw[hk]at hW hin;obtain⟨n,hn⟩:∃n:Nat,(1:Int)+(k:Int)=(n:Int):=⟨1+k,by omega⟩
 have hn1:1<=n/\n<=most/\(n:Int)=1+ydx (IntKind.wrap .i64 (x.n-1)) most:=by omega
 simp only[c47,ydqv,ydqe,netC,go_sem,zA,zD,zH,zC,↓reduceIte,reduceCtorEq];refine hW.use ?_;simp only[ybg,ydrd,ydmo,hn,clash,go_sem,zA,zD,zC,↓reduceIte,reduceCtorEq];refine⟨ikw (by omega) (by omega),⟨by omega,by omega,by omega⟩,?_⟩
 refine ybd (σ:=List Int) (fun l=>⟨[(7,.i .i64 l.length),(5,.i .i64 n),(2,.pt (2,0) 0 0),(6,.pt (6,0) 0 0),(4,.pt (4,0) 0 0)],
  [(2,.one (some ⟨24,true,6,1,fun _=>netC x⟩)),(4,.one (some ⟨27,true,2,1,fun _=>[.a (.slice none 0 0),.a (.slice none 0 0)]⟩)),
   (6,.one (some ⟨27,true,2,1,fun _=>[.os (148,0) 0 l.length true,.os (17,0) 0 n true]⟩)),(17,.one (some ⟨135,false,1,n,fun _=>[.a (.slice none 0 0)]⟩)),
   (148,.one (some ⟨3,false,1,l.length,fun k=>[.i .i64 (l.getD k 0)]⟩))]⟩)
  (fun l=>l.length<=n/\(∀y∈l,0<=y/\y<=255)/\l.Nodup) (fun l=>n-l.length) [] ⟨zAS _,fun y hy=>(zZ hy).elim,zAK⟩ ?_ ?_
 .refine yh [] [148] [] ?_;simp only[netC,allQ,live,yc,zAG,go_sem,zA,zC,zL,↓reduceIte,reduceCtorEq];exact fun i _=>⟨(148,0),rfl,rfl,rfl⟩
 .rintro l ⟨hl,hl2,hl3⟩;obtain⟨v,hv⟩:∃v,l.length=v:=⟨_,rfl⟩;rw[hv]at hl;have hA:=at_ret x.ids v;have hi2:=ylg (v:=atP x.ids v) (m:=256) (by omega)
  obtain⟨a,ha⟩:∃a:Nat,ydx (atP x.ids v) 256=a:=zX hi2.1;have hW2:=ylf (atP x.ids v) 256 (by omega) (hx4 v)
  rw[ha]at hW2 hi2;simp only[ydql,ydrv,ydml,ycqi,netC,hv,splice,clash,go_sem,zA,zD,zH,↓reduceIte,reduceCtorEq];refine⟨fun hlt=>?_,fun hge=>?_⟩
  .refine hA.use ?_;simp only[ybg,clash,go_sem,zA,zD,↓reduceIte,reduceCtorEq];refine hW2.use ?_
   refine ybd (σ:=Nat×Nat) (fun q=>⟨[(9,.i .i64 q.2),(8,.i .i64 ((a+q.1)%256:Nat)),(7,.i .i64 v),(5,.i .i64 n),(2,.pt (2,0) 0 0),(6,.pt (6,0) 0 0),(4,.pt (4,0) 0 0)],
    [(2,.one (some ⟨24,true,6,1,fun _=>netC x⟩)),(4,.one (some ⟨27,true,2,1,fun _=>[.a (.slice none 0 0),.a (.slice none 0 0)]⟩)),
     (6,.one (some ⟨27,true,2,1,fun _=>[.os (148,0) 0 v true,.os (17,0) 0 n true]⟩)),(17,.one (some ⟨135,false,1,n,fun _=>[.a (.slice none 0 0)]⟩)),
     (148,.one (some ⟨3,false,1,v,fun k=>[.i .i64 (l.getD k 0)]⟩))]⟩)
    (fun q=>q.2<=v/\(∀i,i<q.1->(((a+i)%256:Nat):Int)∈l)/\q.1<=256/\∀j,j<q.2->l.getD j 0≠(((a+q.1)%256:Nat):Int)) (fun q=>(v-q.1)*(v+2)+(v-q.2)) (0,0) ⟨zAS _,fun i hi=>absurd hi (zAA i),by omega,fun j hj=>absurd hj (zAA j)⟩ ?_ ?_
   .refine yh [] [] [] ?_;simp only[netC,allQ,live,yc,yx,zAG,go_sem,zA,zC,↓reduceIte,reduceCtorEq];rw[Nat.mod_eq_of_lt (by omega)]
   .rintro⟨r,u⟩ ⟨hu,hr,hr256,hno⟩;obtain⟨b,hb⟩:∃b,(a+r)%256=b:=⟨_,rfl⟩;have hb256:b<256:=by omega
    simp only[ydqm,yduv,ycwt,ycty,ycwy,ydvt,netC,hb,splice,clash,go_sem,zA,zD,zH,zC,↓reduceIte,reduceCtorEq];have hu:u<=v:=hu;have hr:∀i,i<r->(((a+i)%256:Nat):Int)∈l:=hr;have hr256:r<=256:=hr256;have hno:∀j,j<u->l.getD j 0≠(b:Int):=fun j hj=>by rw[<-hb];exact hno j hj
    have hrv:r<=v:=by rw[<-hv];exact ybkb hr256 hr
    refine⟨fun hlt2=>⟨⟨by omega,by omega⟩,by omega,fun he=>⟨ikw (by omega) (by omega),by decide,ikw (by omega) (by omega),?_⟩,fun hne=>⟨ikw (by omega) (by omega),?_⟩⟩,fun hge2=>?_⟩
    .have hmem:(b:Int)∈l:=by
      rw[<-he,getD_at (show u<l.length by omega)]
      exact zAT _
     have hr':∀i,i<r+1->(((a+i)%256:Nat):Int)∈l:=fun i hi=>by
      by_cases q:i=r
      .rw[q,hb];exact hmem
      .exact hr i (by omega)
     have hrv':r+1<=v:=by rw[<-hv];exact ybkb (by omega) hr'
     refine yj (r+1,0) ⟨zAS _,hr',by show r+1<=256;omega,fun j hj=>absurd hj (zAA j)⟩ ?_ ?_
     .show(v-(r+1))*(v+2)+(v-0)<(v-r)*(v+2)+(v-u);obtain⟨m,hm⟩:∃m,v-r=m+1:=⟨v-r-1,by omega⟩
      rw[show v-(r+1)=m by omega,hm,Nat.succ_mul]
      generalize m*(v+2)=z
      omega
     .refine yh [] [] [] ?_;simp only[allQ,live,yc,yx,zAG,go_sem,zA,zC,↓reduceIte,reduceCtorEq];refine⟨by omega,?_⟩
      rw[Int.tmod_eq_emod_of_nonneg (by omega)]
      omega
    .refine yj (r,u+1) ⟨by show u+1<=v;omega,hr,hr256,fun j hj=>?_⟩ ?_ ?_
     .show l.getD j 0≠(((a+r)%256:Nat):Int);rw[hb]
      by_cases q:j=u
      .rw[q];exact hne
      .exact hno j (by have:j<u+1:=hj;omega)
     .show(v-r)*(v+2)+(v-(u+1))<(v-r)*(v+2)+(v-u)
      generalize (v-r)*(v+2)=z
      omega
     .refine yh [] [] [] ?_;simp only[hb,allQ,live,yc,yx,go_sem,zA,zC,↓reduceIte,reduceCtorEq];omega
    .obtain rfl:u=v:=by omega
     refine⟨⟨by omega,by omega⟩,ikw (by omega) (by omega),?_⟩
     have hno':(b:Int)∉l:=fun hm=>by
      obtain⟨j,hj,e⟩:=List.getElem_of_mem hm;exact hno j (by omega) (by rw[getD_at hj,e])
     refine yj (l++[(b:Int)]) ⟨by rw[zAE,zAL];omega,fun y hy=>?_,?_⟩ (by rw[zAE,zAL];omega) ?_
     .rcases List.mem_append.1 hy with hy|hy
      .exact hl2 y hy
      .rw[List.mem_singleton.1 hy];omega
     .rw[List.nodup_append];exact⟨hl3,by simp,fun y hy z hz=>by rw[List.mem_singleton.1 hz];exact fun e=>hno' (e▸hy)⟩
     refine yh [(148,fun i=>(48,i))] [] [] ?_;simp only[zAE,hv,allQ,live,yc,yx,go_sem,zA,zC,↓reduceIte,reduceCtorEq];refine⟨by omega,fun i hi=>?_⟩
     rw[ydnb,hv]
     by_cases q:i<u
     .simp only[if_pos q];simp only[live,yc,go_sem,reduceCtorEq]
     .obtain rfl:i=u:=by omega
      simp only[if_neg q,zAZ];simp only[live,yc,go_sem,↓reduceIte,reduceCtorEq]
  .obtain rfl:v=n:=by omega
   simp only[ygm,go_sem];refine⟨.ag [.os (148,0) 0 v true,.os (17,0) 0 v true],[(17,.one (some ⟨135,false,1,v,fun _=>[.a (.slice none 0 0)]⟩)),(148,.one (some ⟨3,false,1,v,fun k=>[.i .i64 (l.getD k 0)]⟩))],?_,?_,l,by rw[hv];exact hn1,hl2,hl3,by rw[hv],by rw[hv]⟩
   .refine yh [] [] [] ?_;simp only[allQ,live,yc,go_sem,zA,zC,↓reduceIte,reduceCtorEq]
   .simp only[ycc,yev,allQ,live,go_sem,zA,↓reduceIte]
theorem yckm{x:NetR}(hx:x.ok){most:Nat}(hm:1<=most/\most<=24) :
 Cm zJ 47 [] [] [.ag (netC x),.i .i64 most] fun r o=>∃ids:List Int,(1<=ids.length/\ids.length<=most/\(ids.length:Int)=1+ydx (IntKind.wrap .i64 (x.n-1)) most)/\(∀y∈ids,0<=y/\y<=255)/\ids.Nodup/\r = .ag [ybc ids,.os (17,0) 0 ids.length true] /\
  o=[(17,.one (some ⟨135,false,1,ids.length,fun _=>[.a (.slice none 0 0)]⟩))] :=
 (ybsq hx hm).weak fun r o' ⟨ids,h1,h2,h3,e1,e2⟩=>by
   subst e1 e2;obtain⟨v,hv⟩:∃v,ids.length=v:=⟨_,rfl⟩;refine⟨.ag [ybc ids,.os (17,0) 0 ids.length true],[(17,.one (some ⟨135,false,1,ids.length,fun _=>[.a (.slice none 0 0)]⟩))],?_,?_,ids,h1,h2,h3,rfl,rfl⟩
   .refine yh [] [] [(148,0)] ?_;simp only[ybc,hv,allQ,live,yc,go_sem,zA,zC,↓reduceIte,reduceCtorEq]
   .simp only[ycc,yev,allQ,live,go_sem,↓reduceIte]
end Sh
end
section
def yjd(back:Bool)(g:Gr)(a b:Nat)(w:Int):Gr:=if a=b\/ymo (g.ports.getD a []) b=true then g else ycp back g a b w
namespace Sh
open Ev Go.RowKit
def rowO(l:List (Int×Int)):OB:=⟨68,false,2,l.length,fun k=>[.i .i64 (l.getD k (0,0)).1,.i .i64 (l.getD k (0,0)).2]⟩
def ygs(ports:List (List (Int×Int))):Own:=[(211,.one (some ⟨135,false,1,ports.length,fun v=>[.os (212,v) 0 (ports.getD v []).length true]⟩)),
 (212,.many fun v=>if v<ports.length then some (rowO (ports.getD v []))else none)]
def yth(g:Gr):SV:=.ag [ybc g.ids,.os (211,0) 0 g.ports.length true]
theorem yjv{i n:Nat}{x b:OB}(h:(if i<n then some x else none)=some b):i<n/\b=x:=by
 split at h
 .cases h;exact⟨by assumption,rfl⟩
 .cases h
theorem yby(back:Bool)(L:List (Int×Int))(x:Int×Int):(addL back L x).length=L.length+1:=by
 unfold addL;cases back<;>simp
theorem ybdy(L:List (Int×Int))(x:Int×Int){k:Nat}(hk:k<L.length+1):(if k<L.length then[SV.i .i64 (L.getD k (0,0)).1,SV.i .i64 (L.getD k (0,0)).2]else zAV 2 (zAW ((k-L.length)*2) [SV.i .i64 x.1,SV.i .i64 x.2]))=[SV.i .i64 ((addL false L x).getD k (0,0)).1,SV.i .i64 ((addL false L x).getD k (0,0)).2]:=by
 show _=[SV.i .i64 ((L++[x]).getD k (0,0)).1,SV.i .i64 ((L++[x]).getD k (0,0)).2];rw[ydnb]
 by_cases h:k<L.length
 .rw[if_pos h,if_pos h]
 .obtain rfl:k=L.length:=by omega
  rw[if_neg h,if_neg h,if_pos rfl,zAZ];rfl
theorem yna(L:List (Int×Int))(x:Int×Int)(k:Nat):(if k<1 then zAV 2 (zAW (k*2) [SV.i .i64 x.1,SV.i .i64 x.2])else[SV.i .i64 (L.getD (k-1) (0,0)).1,SV.i .i64 (L.getD (k-1) (0,0)).2])=[SV.i .i64 ((addL true L x).getD k (0,0)).1,SV.i .i64 ((addL true L x).getD k (0,0)).2]:=by
 show _=[SV.i .i64 ((x::L).getD k (0,0)).1,SV.i .i64 ((x::L).getD k (0,0)).2];cases k with
 |zero=>rfl
 |succ k=>rw[if_neg (by omega)];rfl
theorem cells_one(L:List (Int×Int))(h:L.length=0)(x:Int×Int){k:Nat}(hk:k<1):zAV 2 (zAW (k*2) [SV.i .i64 x.1,SV.i .i64 x.2])=[SV.i .i64 ((addL true L x).getD k (0,0)).1,SV.i .i64 ((addL true L x).getD k (0,0)).2]:=by
 obtain rfl:k=0:=by omega
 rfl
theorem yjl {n:Nat}{o:Own}{P':List (List (Int×Int))}(hl:P'.length=n) (A:Nat->Nm) {R:Nat->List SV}(h11:lookO o (211,0)=some ⟨135,false,1,n,R⟩) (hR:∀v,v<n->R v=[.os (A v) 0 (P'.getD v []).length true])
 (hA:∀v,v<n->∃q,lookO o (A v)=some ⟨68,false,2,(P'.getD v []).length,q⟩/\∀k,k<(P'.getD v []).length->q k=[.i .i64 ((P'.getD v []).getD k (0,0)).1,.i .i64 ((P'.getD v []).getD k (0,0)).2])
 (hi:∀u v,u<n->v<n->A u=A v->u=v) (h0:∀v,v<n->A v≠(211,0)) :
 ∃r o',Weak [(211,0)] ⟨[(0,.tp [])],o⟩ ⟨[(0,r)],o'⟩/\(cln (live o') 5 r=true/\allQ (fun p=>ycc (live o') p.2) o'/\allQ (fun β=>live o' β=true) [(211,0)])/\r = .tp []/\o'=ygs P':=by
 subst hl
 have hsome:∀i,(if i<P'.length then some (rowO (P'.getD i []))else none).isSome=true->i<P'.length:=fun i h=>by
  by_cases q:i<P'.length
  .exact q
  .rw[if_neg q]at h;cases h
 have hlive:∀i,i<P'.length->live (ygs P') (212,i)=true:=fun i hi=>by
  show(if i<P'.length then some (rowO (P'.getD i []))else none).isSome=true
  rw[if_pos hi];rfl
 refine⟨.tp [],ygs P',ybjf [(212,A)] [] [] trivial ⟨.inr ⟨.inr fun e=>⟨rfl,rfl⟩,.inr fun j hj e=>?_,trivial⟩,.inr ⟨.inr fun i hi' e=>?_,.inr fun i hi' j hj e=>⟨rfl,?_⟩,trivial⟩,trivial⟩ ⟨?_,trivial⟩ ⟨?_,fun i b hb=>?_,trivial⟩ ⟨⟨rfl,rfl,rfl⟩,trivial⟩,⟨rfl,⟨?_,?_,trivial⟩,rfl,trivial⟩,rfl,rfl⟩
 .exact absurd e.symm (h0 j (hsome j hj))
 .exact absurd e (h0 i (hsome i hi'))
 .exact hi i j (hsome i hi') (hsome j hj) e
 .exact⟨_,rfl,.inl ⟨trivial,Sim.refl _,rfl⟩⟩
 .refine⟨_,h11,⟨rfl,rfl,rfl,rfl,rfl⟩,fun e=>absurd (show false=true from e) zS,fun i hi'=>?_⟩
  have hi':i<P'.length:=hi';show telL _ _ _ _ _ (R i) _;rw[hR i hi'];refine⟨.inl ⟨by simp only[go_sem],Sim.refl _,?_⟩,rfl,trivial⟩
  show(live (ygs P') (212,i) && !(List.elem 212 []))=true;rw[hlive i hi'];rfl
 .obtain⟨hi',rfl⟩:=yjv hb;obtain⟨q,q1,q2⟩:=hA i hi';refine⟨_,q1,⟨rfl,rfl,rfl,rfl,rfl⟩,fun e=>absurd (show false=true from e) zS,fun k hk=>?_⟩
  show telL _ _ _ _ _ (q k) _;rw[q2 k hk];exact⟨.inl ⟨trivial,Sim.refl _,rfl⟩,rfl,.inl ⟨trivial,Sim.refl _,rfl⟩,rfl,trivial⟩
 .intro k hk;have:live (ygs P') (212,k)=true:=hlive k hk;simp only[ygs,zAX,List.all_nil,Bool.and_true]at this ⊢;exact this
 .intro i b hb k hk;obtain⟨hi',rfl⟩:=yjv hb;rfl
section
variable {x:NetR}{g:Gr}{a b:Nat}{w:Int}
theorem ydcx (ha:a<g.ports.length)(hb:b<g.ports.length)(hn:g.ports.length<=24)(hd:∀v,(g.ports.getD v []).length<=1000) :
 Cm zJ 48 [(211,0)] (ygs g.ports) [.ag (netC x),yth g,.i .i64 a,.i .i64 b,.i .i64 w] fun r o=>r = .tp []/\o=ygs (yjd x.back g a b w).ports:=by
 refine yden [(211,0)] [] _ _ _ ?_;obtain⟨O2,hO2⟩:∃O,ygs (yjd x.back g a b w).ports=O:=⟨_,rfl⟩;rw[hO2]
 by_cases hab:a=b
 .subst hab;have hP:yjd x.back g a a w=g:=if_pos (.inl rfl);rw[hP]at hO2;simp only[c48,ydcc,ydda,netC,yth,ygs,ygm,go_sem,zA,zD,zC,↓reduceIte,reduceCtorEq];subst hO2;exact yjl rfl (fun v=>(212,v)) rfl (fun v hv=>rfl) (fun v hv=>⟨_,if_pos hv,fun k hk=>rfl⟩) (fun u v _ _ e=>congrArg Prod.snd e) (fun v _ e=>by cases e)
 .have hne:((a:Int)==(b:Int))=false:=by rw[beq_eq_false_iff_ne];omega
  have hL:=ybqh (ids:=g.ids) (ports:=g.ports) (b:=b) ha (by have:=hd a;omega)
  simp only[c48,ydcc,ydda,netC,yth,ygs,hne,clash,go_sem,zA,zD,zC,↓reduceIte,reduceCtorEq];refine .inl ⟨fun q hq=>by rw[if_pos hq];exact⟨zV _,fun k hk=>by simp only[rowO,go_sem]⟩,hL.useS ?_ ?_⟩
  .refine⟨ybke ⟨Sim.refl _,?_,trivial⟩,Sim.refl _,Sim.refl _,trivial⟩;refine ydp fun q hq=>?_;rw[if_pos hq];simp only[rowO,yw,go_sem];exact⟨Sim.refl _,trivial⟩
  cases hlk:ymo (g.ports.getD a []) b with
  | true =>
    have hP:yjd x.back g a b w=g:=if_pos (.inr hlk);rw[hP]at hO2;simp only[ybg,clash,ygm,go_sem,zA,zD,↓reduceIte];subst hO2;exact yjl rfl (fun v=>(212,v)) rfl (fun v hv=>rfl) (fun v hv=>⟨_,if_pos hv,fun k hk=>rfl⟩) (fun u v _ _ e=>congrArg Prod.snd e) (fun v _ e=>by cases e)
  | false =>
    have hP:yjd x.back g a b w=ycp x.back g a b w:=if_neg (fun q=>by rcases q with q|q;exact hab q;rw[hlk]at q;cases q)
    rw[hP]at hO2;subst hO2;have hba:¬b=a:=fun e=>hab e.symm;have hlen:(ycp x.back g a b w).ports.length=g.ports.length:=by simp[ycp]
    have hat:=yef x.back g w ha hb;obtain⟨G',hG'⟩:∃G,(ycp x.back g a b w).ports=G:=⟨_,rfl⟩;rw[hG']at hlen ⊢;have hat:∀v,G'.getD v []=if v=b then addL x.back (g.ports.getD b []) (a,w)else if v=a then addL x.back (g.ports.getD a []) (b,w)else g.ports.getD v []:=fun v=>by rw[<-hG'];exact hat v
    clear hG' hP
    obtain⟨x1,x2,x3,x4,x5,back⟩:=x;have hda:=hd a;have hdb:=hd b;cases back with
    | false =>
      simp only[ybg,clash,ybow,ybrf,ydlk,rowO,if_pos ha,if_pos hb,hab,hba,ygm,and_false,go_sem,zA,zD,zH,zC,↓reduceIte,reduceCtorEq];refine⟨⟨by omega,by omega⟩,by omega,⟨by omega,by omega⟩,by decide,⟨by omega,by omega⟩,by omega,⟨by omega,by omega⟩,by decide,⟨by omega,by omega⟩,by omega,by decide,⟨by omega,by omega⟩,by omega,by decide,?_⟩
      refine yjl hlen (fun v=>if v=b then(74,0)else if v=a then(66,0)else(212,v)) rfl (fun v hv=>?_) (fun v hv=>?_) (fun u v _ _ e=>?_) (fun v _ e=>?_)
      .rw[hat v]
       by_cases q:v=b
       .simp only[if_pos q,yby]
       .by_cases q2:v=a
        .simp only[if_neg q,if_pos q2,yby]
        .simp only[if_neg q,if_neg q2]
      .rw[hat v]
       by_cases q:v=b
       .simp only[if_pos q,yby];exact⟨_,rfl,fun k hk=>ybdy _ (_,_) hk⟩
       .by_cases q2:v=a
        .simp only[if_neg q,if_pos q2,yby];exact⟨_,rfl,fun k hk=>ybdy _ (_,_) hk⟩
        .simp only[if_neg q,if_neg q2];refine⟨fun k=>[.i .i64 ((g.ports.getD v []).getD k (0,0)).1,.i .i64 ((g.ports.getD v []).getD k (0,0)).2],?_,fun k hk=>rfl⟩;show(if v=b then none else if v=a then none else if v<g.ports.length then some _ else none)=some _
         rw[if_neg q,if_neg q2,if_pos hv]
      .by_cases q:u=b<;>by_cases q2:u=a<;>by_cases q3:v=b<;>by_cases q4:v=a<;>simp[q,q2,q3,q4,hab]at e ⊢<;>omega
      .by_cases q:v=b<;>by_cases q2:v=a<;>simp[q,q2,hab]at e
    | true =>
      by_cases hza:(g.ports.getD a []).length=0
      .by_cases hzb:(g.ports.getD b []).length=0
       .simp only[ybg,clash,ybow,ybrf,ybxd,ybui,rowO,if_pos ha,if_pos hb,hba,ygm,and_false,hza,hzb,go_sem,zA,zD,zH,zC,zAP,↓reduceIte,reduceCtorEq]
        repeat' apply zAQ
        all_goals first|omega|decide|skip
        refine yjl hlen (fun v=>if v=b then(45,0)else if v=a then(33,0)else(212,v)) rfl (fun v hv=>?_) (fun v hv=>?_) (fun u v _ _ e=>?_) (fun v _ e=>?_)
        .rw[hat v]
         by_cases q:v=b
         .simp only[if_pos q,yby,hzb,zO]
         .by_cases q2:v=a
          .simp only[if_neg q,if_pos q2,yby,hza,zO]
          .simp only[if_neg q,if_neg q2]
        .rw[hat v]
         by_cases q:v=b
         .simp only[if_pos q,yby,hzb,zO];exact⟨_,rfl,fun k hk=>cells_one _ hzb (_,_) hk⟩
         .by_cases q2:v=a
          .simp only[if_neg q,if_pos q2,yby,hza,zO];exact⟨_,rfl,fun k hk=>cells_one _ hza (_,_) hk⟩
          .simp only[if_neg q,if_neg q2];refine⟨fun k=>[.i .i64 ((g.ports.getD v []).getD k (0,0)).1,.i .i64 ((g.ports.getD v []).getD k (0,0)).2],?_,fun k hk=>rfl⟩;show(if v<g.ports.length then some _ else none)=some _
           rw[if_pos hv]
        .by_cases q:u=b<;>by_cases q2:u=a<;>by_cases q3:v=b<;>by_cases q4:v=a<;>simp[q,q2,q3,q4,hab]at e ⊢<;>omega
        .by_cases q:v=b<;>by_cases q2:v=a<;>simp[q,q2,hab]at e
       .simp only[ybg,clash,ybow,ybrf,ybxd,ybui,rowO,if_pos ha,if_pos hb,hba,ygm,and_false,hza,hzb,go_sem,zA,zD,zH,zC,zAP,↓reduceIte,reduceCtorEq]
        repeat' apply zAQ
        all_goals first|omega|decide|skip
        refine yjl hlen (fun v=>if v=b then(51,0)else if v=a then(33,0)else(212,v)) rfl (fun v hv=>?_) (fun v hv=>?_) (fun u v _ _ e=>?_) (fun v _ e=>?_)
        .rw[hat v]
         by_cases q:v=b
         .simp only[if_pos q,yby,zK]
         .by_cases q2:v=a
          .simp only[if_neg q,if_pos q2,yby,hza,zO,zK]
          .simp only[if_neg q,if_neg q2]
        .rw[hat v]
         by_cases q:v=b
         .simp only[if_pos q,yby];exact⟨_,congrArg some (congrArg (fun n=>OB.mk _ _ _ n _) (zK _ _)),fun k hk=>yna _ (_,_) k⟩
         .by_cases q2:v=a
          .simp only[if_neg q,if_pos q2,yby,hza,zO];exact⟨_,rfl,fun k hk=>cells_one _ hza (_,_) hk⟩
          .simp only[if_neg q,if_neg q2];refine⟨fun k=>[.i .i64 ((g.ports.getD v []).getD k (0,0)).1,.i .i64 ((g.ports.getD v []).getD k (0,0)).2],?_,fun k hk=>rfl⟩;show(if v<g.ports.length then some _ else none)=some _
           rw[if_pos hv]
        .by_cases q:u=b<;>by_cases q2:u=a<;>by_cases q3:v=b<;>by_cases q4:v=a<;>simp[q,q2,q3,q4,hab]at e ⊢<;>omega
        .by_cases q:v=b<;>by_cases q2:v=a<;>simp[q,q2,hab]at e
      .by_cases hzb:(g.ports.getD b []).length=0
       .simp only[ybg,clash,ybow,ybrf,ybxd,ybui,rowO,if_pos ha,if_pos hb,hba,ygm,and_false,hza,hzb,go_sem,zA,zD,zH,zC,zAP,↓reduceIte,reduceCtorEq]
        repeat' apply zAQ
        all_goals first|omega|decide|skip
        refine yjl hlen (fun v=>if v=b then(45,0)else if v=a then(39,0)else(212,v)) rfl (fun v hv=>?_) (fun v hv=>?_) (fun u v _ _ e=>?_) (fun v _ e=>?_)
        .rw[hat v]
         by_cases q:v=b
         .simp only[if_pos q,yby,hzb,zO,zK]
         .by_cases q2:v=a
          .simp only[if_neg q,if_pos q2,yby,zK]
          .simp only[if_neg q,if_neg q2]
        .rw[hat v]
         by_cases q:v=b
         .simp only[if_pos q,yby,hzb,zO];exact⟨_,rfl,fun k hk=>cells_one _ hzb (_,_) hk⟩
         .by_cases q2:v=a
          .simp only[if_neg q,if_pos q2,yby];exact⟨_,congrArg some (congrArg (fun n=>OB.mk _ _ _ n _) (zK _ _)),fun k hk=>yna _ (_,_) k⟩
          .simp only[if_neg q,if_neg q2];refine⟨fun k=>[.i .i64 ((g.ports.getD v []).getD k (0,0)).1,.i .i64 ((g.ports.getD v []).getD k (0,0)).2],?_,fun k hk=>rfl⟩;show(if v<g.ports.length then some _ else none)=some _
           rw[if_pos hv]
        .by_cases q:u=b<;>by_cases q2:u=a<;>by_cases q3:v=b<;>by_cases q4:v=a<;>simp[q,q2,q3,q4,hab]at e ⊢<;>omega
        .by_cases q:v=b<;>by_cases q2:v=a<;>simp[q,q2,hab]at e
       .simp only[ybg,clash,ybow,ybrf,ybxd,ybui,rowO,if_pos ha,if_pos hb,hba,ygm,and_false,hza,hzb,go_sem,zA,zD,zH,zC,↓reduceIte,reduceCtorEq]
        repeat' apply zAQ
        all_goals first|omega|decide|skip
        refine yjl hlen (fun v=>if v=b then(51,0)else if v=a then(39,0)else(212,v)) rfl (fun v hv=>?_) (fun v hv=>?_) (fun u v _ _ e=>?_) (fun v _ e=>?_)
        .rw[hat v]
         by_cases q:v=b
         .simp only[if_pos q,yby,zK]
         .by_cases q2:v=a
          .simp only[if_neg q,if_pos q2,yby,zK]
          .simp only[if_neg q,if_neg q2]
        .rw[hat v]
         by_cases q:v=b
         .simp only[if_pos q,yby];exact⟨_,congrArg some (congrArg (fun n=>OB.mk _ _ _ n _) (zK _ _)),fun k hk=>yna _ (_,_) k⟩
         .by_cases q2:v=a
          .simp only[if_neg q,if_pos q2,yby];exact⟨_,congrArg some (congrArg (fun n=>OB.mk _ _ _ n _) (zK _ _)),fun k hk=>yna _ (_,_) k⟩
          .simp only[if_neg q,if_neg q2];refine⟨fun k=>[.i .i64 ((g.ports.getD v []).getD k (0,0)).1,.i .i64 ((g.ports.getD v []).getD k (0,0)).2],?_,fun k hk=>rfl⟩;show(if v<g.ports.length then some _ else none)=some _
           rw[if_pos hv]
        .by_cases q:u=b<;>by_cases q2:u=a<;>by_cases q3:v=b<;>by_cases q4:v=a<;>simp[q,q2,q3,q4,hab]at e ⊢<;>omega
        .by_cases q:v=b<;>by_cases q2:v=a<;>simp[q,q2,hab]at e
end
end Sh
end
section
theorem yboq{back:Bool}{g:Gr}{a b:Nat}{w:Int}(hg:ybj g)(ha:a<g.ports.length)(hb:b<g.ports.length)(hw:1<=w/\w<=15):ybj (yjd back g a b w)/\(yjd back g a b w).ids=g.ids/\(yjd back g a b w).ports.length=g.ports.length:=by
 unfold yjd
 by_cases h:a=b\/ymo (g.ports.getD a []) b=true
 .rw[if_pos h];exact⟨hg,rfl,rfl⟩
 .rw[if_neg h];refine⟨ybda hg ha hb (fun e=>h (.inl e)) hw fun l hl e=>h (.inr (List.any_eq_true.2 ⟨l,hl,decide_eq_true e⟩)),rfl,by simp[ycp]⟩
theorem ybrr{back:Bool}{g:Gr}{a b:Nat}{w:Int}(ha:a<g.ports.length)(hb:b<g.ports.length){m:Nat}(h:Tre g m):Tre (yjd back g a b w) m:=by
 unfold yjd;split
 .exact h
 .exact h.add ha hb
theorem ycbu{back:Bool}{g:Gr}{a b:Nat}{w:Int}(ha:a<g.ports.length)(hb:b<g.ports.length)(hab:a≠b):adj (yjd back g a b w) a b:=by
 unfold yjd;split
 .rename_i h
  rcases h with h|h
  .exact absurd h hab
  .obtain⟨l,hl,e⟩:=List.any_eq_true.1 h;exact ymn.2 ⟨l,hl,of_decide_eq_true e⟩
 .exact ybik ha hb hab
theorem ybhv:∀(l:List Nat) (i x:Nat) (h:i<l.length),(l.set i x).sum+l[i]=l.sum+x
 |a::l,0,x,_=>by simp;omega
 | a::l,i+1,x,h=>by
   have:=ybhv l i x (by simpa using h)
   simp only[List.set_cons_succ,List.sum_cons,List.getElem_cons_succ];omega
theorem ybpd{back:Bool}{g:Gr}{a b:Nat}{w:Int}(ha:a<g.ports.length)(hb:b<g.ports.length)(hab:a≠b):yht (ycp back g a b w)=yht g+2:=by
 unfold yht ycp;simp only[List.map_set,Sh.yby];have h1:=ybhv (g.ports.map zBD) a ((g.ports.getD a []).length+1) (by simpa using ha)
 have h2:=ybhv ((g.ports.map zBD).set a ((g.ports.getD a []).length+1)) b ((g.ports.getD b []).length+1) (by simpa using hb)
 rw[List.getElem_set_ne hab,zAU,<-Sh.getD_at hb (d:=[])]at h2;rw[zAU,<-Sh.getD_at ha (d:=[])]at h1;omega
def WtF(x:NetR)(g:Gr):Prop:=∀v l,l∈g.ports.getD v []->∃i,l.2=1+ydx (atP x.weights i) 15
theorem ycgr{x:NetR}{back:Bool}{g:Gr}{a b:Nat}{w:Int}(ha:a<g.ports.length)(hb:b<g.ports.length)(hw:∃i,w=1+ydx (atP x.weights i) 15)(h:WtF x g):WtF x (yjd back g a b w):=by
 unfold yjd;split
 .exact h
 .intro v l hl;rw[yef back g w ha hb]at hl;split at hl
  .rcases yep.1 hl with rfl|hl
   .exact hw
   .exact h _ _ hl
  .split at hl
   .rcases yep.1 hl with rfl|hl
    .exact hw
    .exact h _ _ hl
   .exact h _ _ hl
structure TreeTo(x:NetR)(v:Nat)(g:Gr):Prop where
 tre:Tre g v
 wt:WtF x g
 none_:∀u,v<=u->g.ports.getD u []=[]
 count:yht g+2=2*v
theorem yqg(ids:List Int)(v:Nat):(bare ids).ports.getD v []=[]:=by
 unfold bare;rw[List.getD_eq_getElem?_getD,List.getElem?_replicate];split<;>rfl
theorem TreeTo.zero(x:NetR)(ids:List Int):TreeTo x 1 (bare ids):=by
 refine⟨fun v h0 h1=>by omega,fun v l hl=>?_,fun u _=>yqg ids u,?_⟩
 .rw[yqg]at hl;exact absurd hl zZ
 .have:yht (bare ids)=0:=by
   unfold yht bare;simp
  omega
theorem TreeTo.succ{x:NetR}{v:Nat}{g:Gr}(hg:ybj g)(h:TreeTo x v g)(hv:v<g.ports.length)(h1:1<=v){a:Nat}(ha:a<v){w:Int}(hw:∃i,w=1+ydx (atP x.weights i) 15):TreeTo x (v+1) (yjd x.back g a v w):=by
 have hadj:=ycbu (back:=x.back) (g:=g) (a:=a) (b:=v) (w:=w) (by omega) (by omega) (by omega)
 have hno:¬(a=v\/ymo (g.ports.getD a []) v=true):=by
  rintro(e|e)
  .omega
  .obtain⟨l,hl,e⟩:=List.any_eq_true.1 e;have e:=of_decide_eq_true e;have:adj g v a:=hg.adj_symm (ymn.2 ⟨l,hl,e⟩);obtain⟨l',hl',_⟩:=ymn.1 this;rw[h.none_ v (zV _)]at hl';exact absurd hl' zZ
 have e:yjd x.back g a v w=ycp x.back g a v w:=by unfold yjd;rw[if_neg hno]
 refine⟨fun u h0 hu=>?_,ycgr (by omega) hv hw h.wt,fun u hu=>?_,?_⟩
 .by_cases q:u=v
  .subst q;exact⟨a,ha,hadj⟩
  .exact ybrr (by omega) hv h.tre u h0 (by omega)
 .rw[e,yef x.back g w (by omega) hv,if_neg (by omega),if_neg (by omega)]
  exact h.none_ u (by omega)
 .rw[e,ybpd (by omega) hv (by omega)]
  have:=h.count;omega
namespace Sh
open Ev Go.RowKit
theorem ychh{n:Nat}{P:List (List (Int×Int))}{f:SV->SV}(hf:∀k z,f (.i k z) = .i k z){i:Nat}(hi:i<n):(match (if i<n then some (rowO (P.getD i []))else none)with|some b=>some (⟨b.e,b.bx,b.z,b.n,fun k=>(b.g k).map f⟩:OB)|none=>none)=some (rowO (P.getD i [])):=by
 rw[if_pos hi];simp[rowO,hf]
theorem ydkc{x:NetR}(hx:x.ok){most:Nat}(hm:1<=most/\most<=24) :
 Cm zJ 10 [] [] [.ag (netC x),.i .i64 most] fun r o=>∃g,ybj g/\TreeTo x g.ports.length g/\(g.ports.length<=most/\(g.ports.length:Int)=1+ydx (IntKind.wrap .i64 (x.n-1)) most)/\r=yth g/\o=ygs g.ports:=by
 refine ydgj [] [47,48] _ _ _ ?_;have hN:=yckm hx hm;obtain⟨hx1,hx2,hx3,hx4⟩:=hx;simp only[netC]at hN;simp only[c10,ydqs,ydpp,netC,go_sem,zA,zD,zC,↓reduceIte,reduceCtorEq];refine yea hN [(17,117)] 0 [2,4] [2,4] ?_ ?_
 .simp only[okN,ycc,yev,ydz,ydm,allQ,live,yc,go_sem,zA,zD,zL,↓reduceIte,reduceCtorEq]
 rintro r o' ⟨ids,h1,h2,h3,rfl,rfl⟩;obtain⟨n,hn⟩:∃n,ids.length=n:=⟨_,rfl⟩;rw[hn]at h1;simp only[hn,ymm,ykm,nuF,nu,difN,ydz,ydm,Fam.ren,OB.ren,dim,ydvw,ycov,yij,go_sem,zA,zD,zC,zL,↓reduceIte];simp only[ydlw,go_sem]
 refine ybd (σ:=Nat×Gr) (fun q=>⟨[(6,.i .i64 q.1),(5,.pt (5,0) 0 0),(2,.pt (2,0) 0 0),(4,.pt (4,0) 0 0)],
  (5,.one (some ⟨27,true,2,1,fun _=>[ybc q.2.ids,.os (211,0) 0 n true]⟩))::(2,.one (some ⟨24,true,6,1,fun _=>netC x⟩))::(4,.one (some ⟨27,true,2,1,fun _=>[.a (.slice none 0 0),.a (.slice none 0 0)]⟩))::ygs q.2.ports⟩)
  (fun q=>ybj q.2/\q.2.ports.length=n/\TreeTo x q.1 q.2/\1<=q.1/\q.1<=n) (fun q=>n-q.1) (1,bare ids) ⟨ycdo (by omega) (by omega) h2 h3,by simp[bare,hn],TreeTo.zero x ids,by omega,by omega⟩ ?_ ?_
 .refine yh [(211,fun i=>(117,i))] [212] [] ?_;have b1:(bare ids).ids=ids:=rfl;have b2:(bare ids).ports.length=n:=by simp[bare,hn]
  have b3:∀v,(bare ids).ports.getD v []=[]:=yqg ids;simp only[netC,ygs,rowO,b1,b2,b3,List.length_nil,allQ,live,yc,yx,go_sem,zA,zC,zL,↓reduceIte,reduceCtorEq];refine⟨rfl,fun i hi=>⟨(212,i),rfl,rfl,by simp[hi]⟩,fun i b hb=>?_⟩
  obtain⟨_,rfl⟩:=yjv hb;exact⟨rfl,rfl⟩
 .rintro⟨v,g⟩ ⟨hg,hgn,htr,hv1,hvn⟩;have hg:ybj g:=hg;have hgn:g.ports.length=n:=hgn;have htr:TreeTo x v g:=htr;have hv1:1<=v:=hv1;have hvn:v<=n:=hvn
  by_cases hlt:v<n
  .have ht:decide ((v:Int)<(n:Int))=true:=decide_eq_true (by omega)
   have hv2:(v:Int)-1=((v-1:Nat):Int):=by omega
   have hA1:=at_ret x.links (v-1);have hA2:=at_ret x.weights (v-1);have hi1:=ylg (v:=atP x.links (v-1)) (m:=(v:Int)) (by omega)
   have hi2:=ylg (v:=atP x.weights (v-1)) (m:=15) (by omega)
   have hW1:=ylf (atP x.links (v-1)) v (by omega) (hx2 _)
   have hW2:=ylf (atP x.weights (v-1)) 15 (by omega) (hx3 _)
   obtain⟨a,ha⟩:∃a:Nat,ydx (atP x.links (v-1)) v=a:=zX hi1.1;obtain⟨w,hw⟩:∃w:Int,ydx (atP x.weights (v-1)) 15=w:=⟨_,rfl⟩;rw[ha]at hW1 hi1;rw[hw]at hW2 hi2;have hL:=ydcx (x:=x) (g:=g) (a:=a) (b:=v) (w:=1+w) (by omega) (by omega) (by omega) (fun u=>by have:=hg.deg_lt (v:=u);omega)
   simp only[ydil,ydui,ydog,netC,ygs,ht,hv2,clash,go_sem,zA,zD,zH,zL,↓reduceIte,reduceCtorEq];refine⟨ikw (by omega) (by omega),hA1.use ?_⟩
   simp only[ybg,clash,go_sem,zA,zD,zH,zL,↓reduceIte,reduceCtorEq];refine hW1.use ?_;simp only[hv2,go_sem];refine⟨ikw (by omega) (by omega),hA2.use ?_⟩
   simp only[go_sem,↓reduceIte];refine hW2.use ?_;simp only[go_sem,zA,zL,↓reduceIte];refine⟨ikw (by omega) (by omega),yea hL [(211,211),(212,212)] 0 [2,4,5,6] [2,4,5] ?_ ?_⟩
   .simp only[netC,yth,ygs,hgn,to1,okN,ycc,yev,ydz,ydm,allQ,live,yc,go_sem,zA,zD,zC,zL,↓reduceIte,reduceCtorEq];refine⟨⟨fun i _ j _ e=>e,fun i hi=>by rw[if_pos hi],fun i b hb=>?_⟩,by decide⟩
    obtain⟨hi,rfl⟩:=yjv hb;exact⟨_,if_pos hi,⟨rfl,rfl,rfl,rfl⟩,fun e=>absurd (show false=true from e) zS,fun k hk=>by simp only[rowO,live,yc,go_sem,reduceCtorEq]⟩
   .rintro r o' ⟨rfl,rfl⟩;simp only[ygs,ymm,ykm,nuF,nu,difN,ydz,ydm,Fam.ren,OB.ren,dim,yoi,yij,go_sem,zA,zD,zL,↓reduceIte,reduceCtorEq];obtain⟨gg1,gg2,gg3⟩:=yboq (back:=x.back) (a:=a) (b:=v) (w:=1+w) hg (by omega) (by omega) (by omega)
    have gg4:=htr.succ hg (by omega) hv1 (a:=a) (by omega) (w:=1+w) ⟨v-1,by rw[hw]⟩
    obtain⟨G,hG⟩:∃G,yjd x.back g a v (1+w)=G:=⟨_,rfl⟩;rw[hG]at gg1 gg2 gg3 gg4 ⊢;rw[hgn]at gg3;refine⟨ikw (by omega) (by omega),yj (v+1,G) ⟨gg1,gg3,gg4,by omega,by omega⟩ (by show n-(v+1)<n-v;omega) ?_⟩
    .refine yh [] [] [] ?_;simp only[gg3,gg2,allQ,live,yc,yx,go_sem,zA,zC,↓reduceIte,reduceCtorEq];refine⟨fun i _ j _ e=>e,by omega,fun i hi=>by rw[if_pos hi],fun i b hb=>?_⟩
     obtain⟨hi,rfl⟩:=yjv hb;refine⟨_,ychh (f:=ren (nu [(211,211),(212,212)] 0) 5) (fun _ _=>rfl) hi,⟨rfl,rfl,rfl,rfl⟩,fun e=>absurd (show false=true from e) zS,fun k hk=>?_⟩
     simp only[rowO,live,yc,go_sem,reduceCtorEq]
  .obtain rfl:v=n:=by omega
   have ht:decide ((v:Int)<(v:Int))=false:=decide_eq_false (by omega)
   simp only[ydil,ydtl,netC,ygs,ht,clash,splice,ygm,go_sem,zA,zD,↓reduceIte,reduceCtorEq];refine⟨yth g,ygs g.ports,?_,?_,g,hg,by rw[hgn];exact htr,by omega,rfl,rfl⟩
   .refine yh [] [] [] ?_;simp only[ygs,yth,hgn,allQ,live,yc,go_sem,zA,zC,↓reduceIte,reduceCtorEq];refine⟨fun i _ j _ e=>e,fun i hi=>by rw[if_pos hi],fun i b hb=>?_⟩
    obtain⟨hi,rfl⟩:=yjv hb;exact⟨_,if_pos hi,⟨rfl,rfl,rfl,rfl⟩,fun e=>absurd (show false=true from e) zS,fun k hk=>by simp only[rowO,live,yc,go_sem,reduceCtorEq]⟩
   .simp only[ygs,yth,ycc,yev,allQ,live,go_sem,zA,↓reduceIte];refine⟨fun i hi=>by rw[if_pos hi],fun i b hb k hk=>?_⟩
    obtain⟨hi,rfl⟩:=yjv hb;simp only[rowO,go_sem]
end Sh
end
section
namespace Sh
open Ev Go.RowKit
end Sh
end
section
namespace Sh
open Ev Go.RowKit
theorem ychf(l:List Nat):one1 (usV l)=true:=rfl
theorem yceu{n:Nat}(l:List Nat):owned (n+1) (usV l)=false:=rfl
theorem ybnv{n:Nat}(l:List Nat):scalar (n+1) (usV l)=false:=rfl
theorem ycgt{n:Nat}(o:Own)(l:List Nat):view o (n+1) (usV l)=usV l:=rfl
theorem ydbq{n:Nat}(o:Own)(l:List Nat):vok o (n+1) (usV l)=True:=rfl
theorem ydge{n:Nat}(h:Nm->Nm)(l:List Nat):ren h (n+1) (usV l)=usV l:=rfl
theorem ydis{n:Nat}(D:Nm->Bool)(l:List Nat):cln D (n+1) (usV l)=true:=rfl
theorem ybrl{n:Nat}(fr:List Nm)(o:Own)(l:List Nat):ydj fr o (n+1) (usV l)=usV l:=rfl
theorem ydch{n:Nat}(fr:List Nm)(o:Own)(l:List Nat):pok fr o (n+1) (usV l)=True:=rfl
theorem ybti(l:List Nat):SV.cells (usV l)=[usV l]:=rfl
theorem ybgq(l:List Conf):one1 (yia l)=true:=rfl
theorem ybfa{n:Nat}(l:List Conf):owned (n+1) (yia l)=false:=rfl
theorem yyr{n:Nat}(l:List Conf):scalar (n+1) (yia l)=false:=rfl
theorem ybia{n:Nat}(o:Own)(l:List Conf):view o (n+1) (yia l)=yia l:=rfl
theorem ybpo{n:Nat}(o:Own)(l:List Conf):vok o (n+1) (yia l)=True:=rfl
theorem ybqg{n:Nat}(h:Nm->Nm)(l:List Conf):ren h (n+1) (yia l)=yia l:=rfl
theorem ybof{n:Nat}(D:Nm->Bool)(l:List Conf):cln D (n+1) (yia l)=true:=rfl
theorem ybcx{n:Nat}(fr:List Nm)(o:Own)(l:List Conf):ydj fr o (n+1) (yia l)=yia l:=rfl
theorem ybov{n:Nat}(fr:List Nm)(o:Own)(l:List Conf):pok fr o (n+1) (yia l)=True:=rfl
theorem ybcj(l:List Conf):SV.cells (yia l)=[yia l]:=rfl
theorem ybqf(l:List Cnt):one1 (yok l)=true:=rfl
theorem ybgy{n:Nat}(l:List Cnt):owned (n+1) (yok l)=false:=rfl
theorem ybcl{n:Nat}(l:List Cnt):scalar (n+1) (yok l)=false:=rfl
theorem ybom{n:Nat}(o:Own)(l:List Cnt):view o (n+1) (yok l)=yok l:=rfl
theorem ycdw{n:Nat}(o:Own)(l:List Cnt):vok o (n+1) (yok l)=True:=rfl
theorem ybtm{n:Nat}(h:Nm->Nm)(l:List Cnt):ren h (n+1) (yok l)=yok l:=rfl
theorem ycal{n:Nat}(D:Nm->Bool)(l:List Cnt):cln D (n+1) (yok l)=true:=rfl
theorem ybgk{n:Nat}(fr:List Nm)(o:Own)(l:List Cnt):ydj fr o (n+1) (yok l)=yok l:=rfl
theorem ybxn{n:Nat}(fr:List Nm)(o:Own)(l:List Cnt):pok fr o (n+1) (yok l)=True:=rfl
theorem ybhz(l:List Cnt):SV.cells (yok l)=[yok l]:=rfl
theorem ycfo(l:List Bool):one1 (blV l)=true:=rfl
theorem ybuj{n:Nat}(l:List Bool):owned (n+1) (blV l)=false:=rfl
theorem ybpm{n:Nat}(l:List Bool):scalar (n+1) (blV l)=false:=rfl
theorem ycfu{n:Nat}(o:Own)(l:List Bool):view o (n+1) (blV l)=blV l:=rfl
theorem ydhh{n:Nat}(o:Own)(l:List Bool):vok o (n+1) (blV l)=True:=rfl
theorem ydjw{n:Nat}(h:Nm->Nm)(l:List Bool):ren h (n+1) (blV l)=blV l:=rfl
theorem ydip{n:Nat}(D:Nm->Bool)(l:List Bool):cln D (n+1) (blV l)=true:=rfl
theorem ybry{n:Nat}(fr:List Nm)(o:Own)(l:List Bool):ydj fr o (n+1) (blV l)=blV l:=rfl
theorem ydin{n:Nat}(fr:List Nm)(o:Own)(l:List Bool):pok fr o (n+1) (blV l)=True:=rfl
theorem ycco(l:List Bool):SV.cells (blV l)=[blV l]:=rfl
attribute [go_sem] ychf yceu ybnv ycgt ydbq ydge ydis ybrl ydch ybti ybgq ybfa yyr ybia ybpo ybqg ybof ybcx ybov ybcj ybqf ybgy ybcl ybom ycdw ybtm ycal ybgk ybxn ybhz ycfo ybuj ybpm ycfu ydhh ydjw ydip ybry ydin ycco
theorem Ct.found{P:Program}{g:FuncId}{args:List SV}{α:Type}{R:SV->α->Prop}{V:α->SV}{Q:SV->Prop}(h:Ct P g args fun r=>∃x,R r x)(hs:∀r x,R r x->Sim r (V x))(hq:∀r x,R r x->Q (V x)):Ct P g args Q:=fun G m us h1 h2 h3=>by
 obtain⟨v,m',r,a,b,c,⟨x,hx⟩,e⟩:=h G m us h1 h2 h3;exact⟨v,m',V x,a,b,c,hq r x hx,hs r x hx _ _ _ e⟩
structure RunD(S:Sys)(res:Nat->Nat->Nat)(ws:List Nat)(c:Conf)(n:Nat)(Cs:List Conf)(Ks:List Cnt):Prop where
 cs:(S.runs res ws c).map (·.1)=Cs
 ks:(S.runs res ws c).map (·.2)=Ks
 len:(S.runs res ws c).length=n
 pos:0<n
 le:n<=ws.length+1
end Sh
end
section
namespace Sh
end Sh
end
section
structure LdC(g:Gr)(c:Conf):Prop where
 len:c.length=g.ids.length
 row:∀v,v<g.ids.length->(c.getD v []).length=3/\(0<=(c.getD v []).getD 0 0/\(c.getD v []).getD 0 0<=ybqu g)/\(0<=(c.getD v []).getD 1 0/\(c.getD v []).getD 1 0<g.ids.length)/\(-1<=(c.getD v []).getD 2 0/\(c.getD v []).getD 2 0<(g.ports.getD v []).length)
section
variable {nm nl nd np no nj:ByteArray}{g:Gr}{c:Conf}{v:Nat}
end
end
section
section
variable {nm nl nd np no nj:ByteArray}{g:Gr}{c:Conf}{v:Nat}
end
end
section
section
variable {nm nl nd np no nj:ByteArray}{g:Gr}{c:Conf}{v:Nat}
theorem key_eq{a b x y n:Int}(hx:0<=x/\x<n)(hy:0<=y/\y<n):a*n+x=b*n+y↔a=b/\x=y:=by
 constructor
 .intro h;have h1:(a*n+x)/n=a:=by rw[zBA,zAI _ _ (by omega),zAJ hx.1 hx.2,zBB]
  have h2:(b*n+y)/n=b:=by rw[zBA,zAI _ _ (by omega),zAJ hy.1 hy.2,zBB]
  have h3:a=b:=by rw[<-h1,<-h2,h]
  subst h3;exact⟨rfl,by omega⟩
 .rintro⟨rfl,rfl⟩;rfl
end
end
section
section
variable {nm nl nd np no nj nh nr:ByteArray}{g:Gr}
end
end
section
section
variable {nm nh nr:ByteArray}{g:Gr}
theorem ydrt(h:Tr g)(hit:ydb g=true){c:Conf}(hv:ydk (yex nm nh nr) g c=true):ykv g c=true:=by
 have hC:=ygo hv;have hpl:=h.good.2.2.1;unfold ykv;rw[hit,zQ,yff];refine⟨by rw[hC.len,hpl],fun v s hs=>?_⟩
 obtain⟨hvl,e⟩:=List.getElem?_eq_some_iff.1 hs;have e:c.getD v []=s:=by simp[zBF,hs]
 obtain⟨h1,h2,h3⟩:=hC.row v (by rw[<-hC.len];exact hvl)
 rw[e]at h1 h2 h3
 have eb:yek g [(g.ids.length:Int)] v=[(0,(g.ids.length:Int))]:=by
  have:¬(g.ids.length:Int) = -1:=by omega
  simp[yek,this]
 rw[eb];refine⟨h1,fun i b x hb hx=>?_⟩;have hi:=(List.getElem?_eq_some_iff.1 hb).1;have hi:i<1:=by simpa using hi
 obtain rfl:i=0:=by omega
 have hb:some (0,(g.ids.length:Int))=some b:=hb;cases hb
 have e2:s.getD 0 0=x:=by simp[zBF,hx]
 rw[e2]at h2 h3;exact⟨h2,h3⟩
theorem ybjs(h:Tr g)(hit:ydb g=true){c:Conf}(hv:ydk (yex nm nh nr) g c=true):yec g c=true↔ybfy g c:=by
 have hC:=ygo hv;have hpl:=h.good.2.2.1;unfold yec;rw[ydrt h hit hv,zQ,List.all_eq_true];constructor
 .intro q v hv';have:=of_decide_eq_true (q v (List.mem_range.2 (by omega)))
  exact(yczu (hC.row v hv').1 _).2 this
 .intro q v hv';have:=q v (by have:=List.mem_range.1 hv';omega)
  exact decide_eq_true (by rw[this];rfl)
theorem yvl(h:Tr g)(hit:ydb g=true){c:Conf}(hv:ydk (yex nm nh nr) g c=true):ybq (yex nm nh nr) g c=0↔yec g c=true:=(ychk h hv).trans (ybjs h hit hv).symm
end
end
section
namespace Sh
open Ev Go.RowKit
end Sh
end
section
namespace Sh
open Go Ev
def ycwr:LO:=[o3 (.box 77 (.tmp 0)) 1 0,o3 (.mv (.const (.nilFunc))) 2 0]
def ycpn:LO:=[o3 (.mkfn 172 [] [(.tmp 1)]) 3 0,mv' 3 2 1]
def c129:SC:=(.seq (.reg false ycwr) (.seq (.reg false ycpn) .ret))
theorem yciu:FnM 129 c129 [.t 2]:=fn_m Tryz.func129 (by kernel_rfl) (by kernel_rfl)
end Sh
end
section
theorem TreeTo.tr{x:NetR}{g:Gr}(hg:ybj g)(h:TreeTo x g.ports.length g):Tr g:=by
 have hc:=Tre.conn hg h.tre;refine⟨hg,hc,ydws hg hc ?_⟩;have:=h.count;have:=hg.1;omega
namespace Sh
open Ev Go.RowKit
theorem ybdn(g:Gr):vok (ygs g.ports) 5 (yth g)/\Sim (view (ygs g.ports) 5 (yth g)) (grV g):=by
 obtain⟨P,hP⟩:∃P,g.ports=P:=⟨_,rfl⟩;simp only[yth,ygs,grV,hP,go_sem,zA,↓reduceIte];refine⟨fun q hq=>?_,?_⟩
 .simp only[if_pos hq];exact⟨zV _,fun k hk=>by simp only[rowO,go_sem]⟩
 .refine ybke ⟨Sim.refl _,?_,trivial⟩;refine ydp fun q hq=>?_;simp only[if_pos hq];simp only[rowO,yw,go_sem];exact⟨Sim.refl _,trivial⟩
theorem ybvl{x:NetR}(hx:x.ok){most:Nat}(hm:1<=most/\most<=24) :
 Ct zJ 10 [.ag (netC x),.i .i64 most] fun r=>∃g,Tr g/\ydb g=true/\(g.ports.length<=most/\(g.ports.length:Int)=1+ydx (IntKind.wrap .i64 (x.n-1)) most)/\Sim r (grV g) :=
 (ydkc hx hm).ct fun r o' ⟨g,hg,ht,hn,e1,e2⟩=>by
   subst e1 e2;have hT:=ht.tr hg;refine⟨(ybdn g).1,g,hT,?_,hn,(ybdn g).2⟩;unfold ydb;rw[hT.conn];have:=ht.count;have:=hg.1;simp only[zQ,decide_eq_true_eq];omega
theorem ycfk{x:NetR}(hx:x.ok){most:Nat}(hm:1<=most/\most<=24) :
 Ct zJ 10 [.ag (netC x),.i .i64 most] fun r=>∃g,Tr g/\ydb g=true/\g.ports.length<=most/\Sim r (grV g) :=
 (ybvl hx hm).mono fun _ ⟨g,h1,h2,h3,h4⟩=>⟨g,h1,h2,h3.1,h4⟩
end Sh
end
section
namespace Ev
open Go Go.RowKit
def hkN:Hooks:=⟨some 118,some 245,some 175,symB,[],some 122⟩
theorem ydne:HooksOk zJ hkN:=⟨fun g h=>(by cases h;exact ybky),fun g h=>(by cases h;exact yrf),fun g h=>(by cases h;exact ycaw),fun c hc=>(by cases hc),fun g h=>(by cases h;exact ycfd)⟩
set_option maxRecDepth 1000000 in
theorem ybhu:outV (ev zJ hkN 3000 (.call 38 [] mem0))=some (.bool true):=by kernel_rfl
theorem ydhc(w:World)(hG:GlW w):Calls zJ 38 #[] w fun e w'=>e = .returned (.bool true)/\Below w.heap.size w w' :=
 yzk mix yrs ydne ybhu rfl rfl ⟨_,_,zBE,rfl⟩ w hG
end Ev
namespace Sh
open Go Ev Go.RowKit
theorem ybgi:Returns zJ 38 [] (.b true):=by
 refine ybjw ⟨_,_,zBE,rfl⟩ (fun _=>.b) (fun _=>.simple rfl) fun G m us hG hr φ M w us' hRl hs hv=>?_;cases hr
 cases hv
 exact ydhc w fun x hx=>(hRl.gl x hx).1
end Sh
end
section
namespace Ev
theorem yqs:∀l:List UInt8,eqBytes l l=true
 |[]=>rfl
 | x::l=>by
   show(zG x.toNat x.toNat&&eqBytes l l)=true;rw[zF,yqs l];rfl
theorem yvz{ρ:Nat->Nat}{a:Addr}(h:a.spot.isNone=true):eqAddr (renA ρ a) (renA ρ a)=true:=by
 rw[yku];unfold eqAddr;simp only[zF,h,Bool.and_self]
theorem ybtl{ρ:Nat->Nat}{v:Value}(hf:yrl v=true)(h:eq1 v v=true):eq1 (ren1 ρ v) (ren1 ρ v)=true:=by
 unfold yrl at hf;split at hf
 .exact yvz hf
 .rename_i a n c
  show(eqAddr (renA ρ a) (renA ρ a)&&zG n n&&zG c c)=true;rw[yvz hf,zF,zF];rfl
 .rename_i h1 h2
  have:ren1 ρ v=v:=by
   unfold ren1;split
   .rename_i a;exact absurd rfl (h1 a)
   .rename_i a n c;exact absurd rfl (h2 a n c)
   .rfl
  rw[this];exact h
theorem ysg{ρ:Nat->Nat}:∀{l:List Value},l.all yrl=true->eqL1 l l=true->eqL1 (l.map (ren1 ρ)) (l.map (ren1 ρ))=true
 |[],_,_=>rfl
 | x::l,hf,h=>by
   simp only[zAX,zB]at hf;have h:(eq1 x x&&eqL1 l l)=true:=h;rw[zB]at h;show(eq1 (ren1 ρ x) (ren1 ρ x)&&eqL1 (l.map (ren1 ρ)) (l.map (ren1 ρ)))=true;rw[ybtl hf.1 h.1,ysg hf.2 h.2];rfl
theorem ybxu{v:Value}(h1:∀a,v = .agg a->False)(h2:∀g a c,v = .func (.func g) a c->False):eq2 v v=eq1 v v:=by
 cases v with
 |agg a=>exact(h1 a rfl).elim
 | func f a c=>cases f with
   |func g=>exact(h2 g a c rfl).elim
   |_=>rfl
 |_=>rfl
theorem ycdq{ρ:Nat->Nat}{v:Value}(h1:∀a,v = .agg a->False)(h2:∀g a c,v = .func (.func g) a c->False)(hf:yrl v=true):ren2 ρ v=ren1 ρ v:=by
 cases v with
 |agg a=>exact(h1 a rfl).elim
 | func f a c=>cases f with
   |func g=>exact(h2 g a c rfl).elim
   |_=>cases hf
 |_=>rfl
theorem ywp{ρ:Nat->Nat}{v:Value}(hf:yrl v=true):(∀a,ren1 ρ v = .agg a->False)/\∀g a c,ren1 ρ v = .func (.func g) a c->False:=by
 cases v with
 |agg a=>cases hf
 |func f a c=>cases hf
 |pointer p=>cases p<;>exact⟨fun _ h=>(by cases h),fun _ _ _ h=>(by cases h)⟩
 |slice p n c=>cases p<;>exact⟨fun _ h=>(by cases h),fun _ _ _ h=>(by cases h)⟩
 |_=>exact⟨fun _ h=>(by cases h),fun _ _ _ h=>(by cases h)⟩
theorem ybyr{ρ:Nat->Nat}{v:Value}(hf:ylu v=true)(h:eq2 v v=true):eq2 (ren2 ρ v) (ren2 ρ v)=true:=by
 unfold ylu at hf;split at hf
 .rename_i a
  have h:eqL1 a.toList a.toList=true:=h;show eqL1 (a.toList.map (ren1 ρ)).toArray.toList (a.toList.map (ren1 ρ)).toArray.toList=true;exact ysg hf h
 .rename_i g a c
  rw[zB]at hf;have h:(zG g g&&eqL1 a.toList a.toList&&eqL1 c.toList c.toList)=true:=h;simp only[zB]at h;show(zG g g&&eqL1 (a.toList.map (ren1 ρ)).toArray.toList (a.toList.map (ren1 ρ)).toArray.toList&&eqL1 (c.toList.map (ren1 ρ)).toArray.toList (c.toList.map (ren1 ρ)).toArray.toList)=true;rw[zF,ysg hf.1 h.1.2,ysg hf.2 h.2];rfl
 .rename_i h1 h2
  rw[ybxu h1 h2]at h;rw[ycdq h1 h2 hf,ybxu (ywp hf).1 (ywp hf).2];exact ybtl hf h
def reflB(b:BlkL):Bool:=b.l.all (fun v=>eq2 v v&&ylu v)&&zW b.l.length 1000000
theorem ysw{ρ:Nat->Nat}{b:BlkL}(h:reflB b=true):∀v∈(b.ren ρ).l,eq2 v v=true:=by
 unfold reflB at h;rw[zB]at h;intro v hv;obtain⟨x,hx,rfl⟩:=List.mem_map.1 hv;have:=List.all_eq_true.1 h.1 x hx;rw[zB]at this;exact ybyr this.2 this.1
theorem ynu{l:List Value}(h:∀v∈l,eq2 v v=true):∀(k:List Value) (n:Nat),l.drop n=k->cellsAre (tOf l) n k=true
 |[],_,_=>rfl
 | v :: k,n,e=>by
   have hn:n<l.length:=by
    rcases Nat.lt_or_ge n l.length with q|q
    .exact q
    .rw[List.drop_eq_nil_of_le q]at e;cases e
   rw[List.drop_eq_getElem_cons hn]at e
   injection e with e1 e2
   unfold cellsAre;rw[ycw,List.getElem?_eq_getElem hn,e1];simp only;rw[h v (by rw[<-e1];exact zAT _),ynu h k (n+1) e2]
   rfl
theorem ypb{m:Mem}{b:BlkL}(hg:m.b.get b.i=some b.blk)(h:∀v∈b.l,eq2 v v=true)(hl:zW b.l.length 1000000=true):blkIs m b=true:=by
 unfold blkIs;rw[hg];show(zG b.l.length b.l.length&&zG b.e b.e&&zG b.z b.z&&zW b.l.length 1000000&&cellsAre (tOf b.l) 0 b.l)=true;rw[zF,zF,zF,hl,ynu h b.l 0 (List.drop_zero ..)];rfl
theorem yum:∀{l:List BlkL}{t:T ABlk}{i:Nat},(∀b∈l,b.i≠i)->(blksT t l).get i=t.get i
 |[],_,_,_=>rfl
 | b::l,t,i,h=>by
   unfold blksT;rw[T.strict_eq,yum fun c hc=>h c (zAM _ hc),T.set_at,if_neg (fun e=>h b zAR e.symm)]
theorem ysi:∀{l:List BlkL}{t:T ABlk},yhk (l.map (·.i))=true->∀b∈l,(blksT t l).get b.i=some b.blk
 |[],_,_,b,hb=>by cases hb
 | c :: l,t,h,b,hb=>by
   have h:(!(l.map (·.i)).elem c.i&&yhk (l.map (·.i)))=true:=h;rw[zB,zAF]at h;unfold blksT;rw[T.strict_eq];rcases List.mem_cons.1 hb with e|hb
   .subst e;rw[yum fun d hd e=>?_,T.set_at,if_pos rfl];have:(l.map (·.i)).elem b.i=true:=List.elem_eq_true_of_mem (List.mem_map.2 ⟨d,hd,e⟩);rw[this]at h;cases h.1
   .exact ysi h.2 b hb
theorem yoo:∀{l:List Nat},l.Nodup->yhk l=true
 |[],_=>rfl
 | x :: l,h=>by
   rw[zAH]at h;show(!(l.elem x)&&yhk l)=true
   have:l.elem x=false:=by
    cases hq:l.elem x with
    |false=>rfl
    |true=>exact absurd (by simpa using hq) h.1
   rw[this,yoo h.2];rfl
theorem ybaf:∀{l:List Nat},yhk l=true->l.Nodup
 |[],_=>zAK
 | x::l,h=>by
   have h:(!(l.elem x)&&yhk l)=true:=h;rw[zB,zAF]at h;rw[zAH];refine⟨fun hm=>?_,ybaf h.2⟩;have:l.elem x=true:=by simpa using hm
   rw[this]at h;cases h.1
theorem yblg{d:Nat}:∀{l:List BlkL}{k:List Nat},(l.map (·.i)).Nodup->l.length=k.length->l.map (fun b=>yyv l k d b.i)=k
 |[],[],_,_=>rfl
 | b :: l,t::k,hn,hl=>by
   rw[zAY,zAH]at hn;have ih:=yblg (d:=d) hn.2 (by simpa using hl)
   rw[zAY];have e1:yyv (b::l) (t::k) d b.i=t:=by unfold yyv;rw[zF];rfl
   rw[e1];congr 1;refine zBC (zM fun c hc=>?_) ih;show(bif zG b.i c.i then t else yyv l k d c.i)=_
   have:zG b.i c.i=false:=by
    cases hq:zG b.i c.i with
    |false=>rfl
    |true=>exact absurd (List.mem_map.2 ⟨c,hc,(zN hq).symm⟩) hn.1
   rw[this];rfl
 |[],_::_,_,h=>by cases h
 |_::_,[],_,h=>by cases h
def Fact.still(f:Fact):Bool:=zAC f.next0 f.low&&f.args.all ylu&&ybrs f.v&&f.pre.all (fun b=>zW b.i f.next0&&reflB b)&&yhk (f.pre.map (·.i))&&f.post.all (fun b=>zAC f.next0 b.i&&zW b.i f.next1&&reflB b)&&yhk (f.post.map (·.i))&&zAC f.next0 f.next1
theorem ydaw{a b:Nat}(h:zW a b=true):a<b:=zAD (Nat.lt_succ_self _) (zI h)
theorem yblc{a b:Nat}(h:a<b):zW a b=true:=zU h
theorem ymk{f:Fact}(h:f.still=true):f.next0<=f.low/\(f.args.all ylu=true/\ybrs f.v=true)/\(∀b∈f.pre,b.i<f.next0/\reflB b=true)/\(f.pre.map (·.i)).Nodup/\(∀b∈f.post,f.next0<=b.i/\b.i<f.next1/\reflB b=true)/\(f.post.map (·.i)).Nodup/\f.next0<=f.next1:=by
 unfold Fact.still at h;simp only[zB]at h;obtain⟨⟨⟨⟨⟨⟨⟨h1,h2⟩,h3⟩,h4⟩,h5⟩,h6⟩,h7⟩,h8⟩:=h;refine⟨zI h1,⟨h2,h3⟩,fun b hb=>?_,ybaf h5,fun b hb=>?_,ybaf h7,zI h8⟩
 .have:=List.all_eq_true.1 h4 b hb;rw[zB]at this;exact⟨ydaw this.1,this.2⟩
 .have:=List.all_eq_true.1 h6 b hb;simp only[zB]at this;exact⟨zI this.1.1,ydaw this.1.2,this.2⟩
theorem ycao{f:Fact}{tgt:List Nat}{n0:Nat}(hp:∀b∈f.pre,b.i<f.next0/\reflB b=true)(hn:(f.pre.map (·.i)).Nodup)(hl:f.pre.length=tgt.length):f.pre.map (fun b=>f.rho tgt n0 b.i)=tgt:=by
 refine zBC (zM fun b hb=>?_) (yblg (d:=Nat.add n0 (Nat.sub f.next1 f.next0)) hn hl);unfold Fact.rho;have h1:=(hp b hb).1
 have:(zAC f.next0 b.i&&zW b.i f.next1)=false:=by
  rw[Bool.and_eq_false_iff];left
  cases hq:zAC f.next0 b.i with
  |false=>rfl
  |true=>have:=zI hq;omega
 rw[this];rfl
theorem ybkq{f:Fact}{tgt:List Nat}{n0 i:Nat}(h1:f.next0<=i)(h2:i<f.next1):f.rho tgt n0 i=i-f.next0+n0:=by
 unfold Fact.rho;rw[Bool.cond_eq_ite,if_pos (by rw[zU h1,yblc h2];rfl)]
 rfl
theorem yyc{P:Program}{f:Fact}{tgt:List Nat}{n0:Nat}(hok:ygq P f)(hs:f.still=true)(hl:f.pre.length=tgt.length)(hn:tgt.Nodup)(hlt:∀t∈tgt,t<n0):ygq P (f.move tgt n0):=by
 refine ybdc hok ?_;obtain⟨s1,⟨s2,s3⟩,s4,s5,s6,s7,s8⟩:=ymk hs
 have hpi:(f.move tgt n0).pre.map (·.i)=tgt:=by
  show(f.pre.map (BlkL.ren (f.rho tgt n0))).map (·.i)=tgt;rw[zAB];exact zBC (zM fun b hb=>b.yhj) (ycao (n0:=n0) s4 s5 hl)
 have hqi:yhk ((f.move tgt n0).post.map (·.i))=true:=by
  refine yoo ?_;show((f.post.map (BlkL.ren (f.rho tgt n0))).map (·.i)).Nodup
  have e:(f.post.map (BlkL.ren (f.rho tgt n0))).map (·.i)=(f.post.map (·.i)).map (fun i=>i-f.next0+n0):=by
   rw[zAB,zAB];refine zM fun b hb=>?_;show(b.ren (f.rho tgt n0)).i=b.i-f.next0+n0;rw[b.yhj,ybkq (s6 b hb).1 (s6 b hb).2.1]
  rw[e];unfold List.Nodup at s7 ⊢;rw[zY];refine List.Pairwise.imp_of_mem (fun {x y} hx hy h=>?_) s7;obtain⟨bx,hbx,rfl⟩:=List.mem_map.1 hx;obtain⟨by_,hby,rfl⟩:=List.mem_map.1 hy;have:=(s6 bx hbx).1;have:=(s6 by_ hby).1;omega
 have hpre:yhk ((f.move tgt n0).pre.map (·.i))=true:=by rw[hpi];exact yoo hn
 unfold Fact.moves;simp only[zB];refine⟨⟨⟨⟨⟨⟨⟨⟨zU s1,s2⟩,s3⟩,?_⟩,?_⟩,hpre⟩,?_⟩,?_⟩,zU s8⟩
 .refine List.all_eq_true.2 fun b hb=>?_;have:=(s4 b hb).2;unfold reflB at this;rw[zB]at this;rw[yblc (s4 b hb).1,zQ];exact List.all_eq_true.2 fun v hv=>by have:=List.all_eq_true.1 this.1 v hv;rw[zB]at this;exact this.2
 .refine List.all_eq_true.2 fun b hb=>?_;have:=(s6 b hb).2.2;unfold reflB at this;rw[zB]at this;rw[yblc (s6 b hb).2.1,zQ];exact List.all_eq_true.2 fun v hv=>by have:=List.all_eq_true.1 this.1 v hv;rw[zB]at this;exact this.2
 .refine List.all_eq_true.2 fun b' hb'=>?_;obtain⟨b,hb,rfl⟩:=List.mem_map.1 hb';have h2:=(s4 b hb).2;have h3:(b.ren (f.rho tgt n0)).i∈(f.move tgt n0).pre.map (·.i):=List.mem_map.2 ⟨_,hb',rfl⟩;rw[hpi]at h3;rw[yblc (hlt _ h3),zQ];refine ypb (ysi hpre _ hb') (ysw h2) ?_;show zW (b.l.map _).length 1000000=true;rw[zT];unfold reflB at h2;rw[zB]at h2;exact h2.2
 .refine List.all_eq_true.2 fun b' hb'=>?_;obtain⟨b,hb,rfl⟩:=List.mem_map.1 hb';have h2:=(s6 b hb).2.2;refine ypb (ysi hqi _ hb') (ysw h2) ?_;show zW (b.l.map _).length 1000000=true;rw[zT];unfold reflB at h2;rw[zB]at h2;exact h2.2
end Ev
end
section
namespace Sh
open Go Ev
def Lies(B:List BlkL)(v:Value)(F:AM)(u:Value):Prop :=
 ∃ρ:Nat->Nat,(∀b∈B,∀c∈B,ρ b.i=ρ c.i->b.i=c.i)/\(∀b∈B,F (ρ b.i)=some (b.ren ρ).blk)/\u=ren1 ρ v
theorem Lies.mono{B:List BlkL}{v:Value}(F G:AM)(u:Value)(h:Le F G)(k:Lies B v F u):Lies B v G u:=by
 obtain⟨ρ,h1,h2,h3⟩:=k;exact⟨ρ,h1,fun b hb=>h _ _ (h2 b hb),h3⟩
def ydyo(B:List BlkL)(j:Nat):Option BlkL:=B.find? fun b=>zG b.i j
def ycij(p:Nat->Bool):Nat->Bool
 |0=>true
 |n+1=>p n&&ycij p n
theorem ybnc{p:Nat->Bool}:∀{n:Nat},ycij p n=true->∀k,k<n->p k=true
 |0,_,k,h=>absurd h (zAA k)
 | n+1,h,k,hk=>by
   have h:(p n&&ycij p n)=true:=h;rw[zB]at h
   by_cases q:k=n
   .rw[q];exact h.1
   .exact ybnc h.2 k (by omega)
def ybhx(B:List BlkL)(z n:Nat)(row:Nat->List Value->Bool):Value->Bool
 | .slice (some a) m _=>a.spot.isNone&&zG m n&&(match ydyo B a.block with
   |some b=>zG b.z z&&zAC (a.off+n*z) b.l.length&&ycij (fun k=>row k ((b.l.drop (a.off+k*z)).take z)) n
   |none=>false)
 |.slice none 0 0=>zG n 0
 |_=>false
theorem yrw {B:List BlkL}{F:AM}{ρ:Nat->Nat}{z n:Nat}{row:Nat->List Value->Bool}{v:Value}{g:Nat->List SV}(hF:∀b∈B,F (ρ b.i)=some (b.ren ρ).blk) (h:ybhx B z n row v=true)
 (hr:∀k L,k<n->row k L=true->L.length=z/\RVL F om0 (g k) (L.map (ren2 ρ))/\(g k).all one1=true):RV F om0 (.sl z n g) (ren1 ρ v):=by
 unfold ybhx at h;split at h
 .rename_i a m c
  simp only[zB]at h;obtain⟨⟨h1,h2⟩,h3⟩:=h;split at h3
  .rename_i b hb
   simp only[zB]at h3;obtain⟨⟨h3,h4⟩,h5⟩:=h3;have hm:m=n:=zN h2;have hz:=zN h3;have h4:=zI h4;have hmem:=List.mem_of_find?_eq_some hb;have hi:b.i=a.block:=zN (List.find?_some (p:=fun b:BlkL=>zG b.i a.block) hb);have h6:=hF b hmem;rw[hi]at h6;show RV F om0 _ (.slice (some (renA ρ a)) m c);rw[yku];subst hm;obtain⟨A,o,sp⟩:=a;have hsp:sp=none:=by simpa using h1
   subst hsp;have h6:F (ρ A)=some (.cells (tOf (b.l.map (ren2 ρ))) (b.l.map (ren2 ρ)).length b.e b.z):=h6;have hrow:∀k,k<m->_:=fun k hk=>hr k _ hk (ybnc h5 k hk);refine .sl (L:=fun k=>((b.l.drop (o+k*z)).take z).map (ren2 ρ)) h6 (.inl hz) (by rw[zT];exact h4) ?_ ?_ (fun k hk=>(hrow k hk).2.1) (fun k hk=>(hrow k hk).2.2)
   .intro k hk;rw[zT];exact(hrow k hk).1
   .intro k hk j hj;rw[ycw];simp only[List.getElem?_map,List.getElem?_take,List.getElem?_drop,hj,if_true]
  .cases h3
 .have h:zG n 0=true:=h;have h0:=zN h;subst h0;exact .sl0 (.inl rfl)
 .cases h
def isI(v:Value)(n:Int):Bool:=match v with
 |.int .i64 m=>eqInt m n
 |_=>false
def isS(v:Value)(s:ByteArray):Bool:=match v with
 |.string t=>eqBytes t.data.toList s.data.toList
 |_=>false
theorem yqr{F:AM}{ρ:Nat->Nat}{v:Value}{n:Int}(h:isI v n=true):RV F om0 (.i .i64 n) (ren2 ρ v):=by
 unfold isI at h;split at h
 .rw[yrz h];exact .i
 .cases h
theorem ycwj{F:AM}{ρ:Nat->Nat}{v:Value}{s:ByteArray}(h:isS v s=true):RV F om0 (.a (.string s)) (ren2 ρ v):=by
 unfold isS at h;split at h
 .rename_i t
  have e:=ypn h
  have:t=s:=by
   cases t;cases s
   congr 1;exact Array.toList_inj.1 e
  rw[this];exact .a rfl
 .cases h
def ydxk(ls:List (Int×Int))(k:Nat):List Value->Bool
 |[x,y]=>isI x (ls.getD k (0,0)).1&&isI y (ls.getD k (0,0)).2
 |_=>false
def ycrn(l:List VarR)(k:Nat):List Value->Bool
 |[s,a,b,c,d,e]=>isS s (l.getD k default).name&&isI a (l.getD k default).kind&&isI b (l.getD k default).lo&&isI c (l.getD k default).hi&&isI d (l.getD k default).perNode&&isI e (l.getD k default).perID
 |_=>false
def ybaw(B:List BlkL)(ls:List (Int×Int))(v:Value):Bool:=ybhx B 2 ls.length (ydxk ls) v
def isSl:Value->Bool
 |.slice _ _ _=>true
 |_=>false
def ybzn(B:List BlkL)(l:List SetR)(k:Nat):List Value->Bool
 |[a,v]=>isI a (l.getD k default).var&&isSl v&&ybaw B (l.getD k default).val v
 |_=>false
def ycda(B:List BlkL)(l:List RuleR)(k:Nat):List Value->Bool
 |[s,v,w]=>isS s (l.getD k default).name&&isSl v&&ybaw B (l.getD k default).guard v&&isSl w&&ybhx B 2 (l.getD k default).sets.length (ybzn B (l.getD k default).sets) w
 |_=>false
def ybrt(B:List BlkL)(v:Value)(l:List VarR):Bool:=ybhx B 6 l.length (ycrn l) v
def ybmy(B:List BlkL)(v:Value)(l:List RuleR):Bool:=ybhx B 3 l.length (ycda B l) v
section
variable {B:List BlkL}{F:AM}{ρ:Nat->Nat}
theorem ybfr{v:Value}(h:isSl v=true):ren2 ρ v=ren1 ρ v:=by
 unfold isSl at h;split at h
 .rfl
 .cases h
theorem ytm(hF:∀b∈B,F (ρ b.i)=some (b.ren ρ).blk){ls:List (Int×Int)}{v:Value}(h:ybaw B ls v=true):RV F om0 (yw ls) (ren1 ρ v):=by
 refine yrw hF h fun k L hk hq=>?_;unfold ydxk at hq;split at hq
 .simp only[zB]at hq;exact⟨rfl,.cons (yqr hq.1) (.cons (yqr hq.2) .nil),rfl⟩
 .cases hq
theorem ybpc(hF:∀b∈B,F (ρ b.i)=some (b.ren ρ).blk){l:List VarR}{v:Value}(h:ybrt B v l=true):RV F om0 (yeu l) (ren1 ρ v):=by
 refine yrw hF h fun k L hk hq=>?_;unfold ycrn at hq;split at hq
 .simp only[zB]at hq;obtain⟨⟨⟨⟨⟨h1,h2⟩,h3⟩,h4⟩,h5⟩,h6⟩:=hq;exact⟨rfl,.cons (ycwj h1) (.cons (yqr h2) (.cons (yqr h3) (.cons (yqr h4) (.cons (yqr h5) (.cons (yqr h6) .nil))))),rfl⟩
 .cases hq
theorem ybpn(hF:∀b∈B,F (ρ b.i)=some (b.ren ρ).blk){l:List SetR}{v:Value}(h:ybhx B 2 l.length (ybzn B l) v=true):RV F om0 (yio l) (ren1 ρ v):=by
 refine yrw hF h fun k L hk hq=>?_;unfold ybzn at hq;split at hq
 .simp only[zB]at hq;obtain⟨⟨h1,h2⟩,h3⟩:=hq;refine⟨rfl,.cons (yqr h1) (.cons ?_ .nil),rfl⟩;rw[ybfr h2];exact ytm hF h3
 .cases hq
theorem ybhf(hF:∀b∈B,F (ρ b.i)=some (b.ren ρ).blk){l:List RuleR}{v:Value}(h:ybmy B v l=true):RV F om0 (ydd l) (ren1 ρ v):=by
 refine yrw hF h fun k L hk hq=>?_;unfold ycda at hq;split at hq
 .simp only[zB]at hq;obtain⟨⟨⟨⟨h1,h2⟩,h3⟩,h4⟩,h5⟩:=hq;refine⟨rfl,.cons (ycwj h1) (.cons ?_ (.cons ?_ .nil)),rfl⟩
  .rw[ybfr h2];exact ytm hF h3
  .rw[ybfr h4];exact ybpn hF h5
 .cases hq
end
structure LaidP(fp:Fact)(t:ByteArray)(p:ProgR)(vv vr:Value)(Bv Br:List BlkL):Prop where
 args:fp.args=[.string t]
 pre:fp.pre=[]
 v:fp.v = .agg #[.string p.name,vv,vr]
 still:fp.still=true
 bv:∀b∈Bv,b∈fp.post
 br:∀b∈Br,b∈fp.post
 vars:ybrt Bv vv p.vars=true
 rules:ybmy Br vr p.rules=true
theorem ycih{P:Program}{fp:Fact}{t:ByteArray}{p:ProgR}{vv vr:Value}{Bv Br:List BlkL}(hok:ygq P fp)(h:LaidP fp t p vv vr Bv Br):Returns P fp.g [.a (.string t)] (.ag (yfe (Lies Bv vv) (Lies Br vr) p)):=by
 intro G m us hwf hle hus
 have hu:us=[.string t]:=by
  cases hus with
  |cons a b=>cases a with|a _=>cases b with|nil=>rfl
 subst hu;obtain⟨s1,⟨s2,s3⟩,s4,s5,s6,s7,s8⟩:=ymk h.still;have hmv:=yyc (tgt:=[]) (n0:=m.next) hok h.still (by rw[h.pre];rfl) zAK (fun t ht=>by cases ht)
 obtain⟨ρ,hρ⟩:∃ρ,fp.rho [] m.next=ρ:=⟨_,rfl⟩
 have hpost:(fp.move [] m.next).post=fp.post.map (BlkL.ren ρ):=by rw[<-hρ];rfl
 have hv:(fp.move [] m.next).v = .agg #[.string p.name,ren1 ρ vv,ren1 ρ vr]:=by
  show renV (fp.rho [] m.next) fp.v=_
  rw[hρ,h.v];rfl
 have hpre:(fp.move [] m.next).pre=[]:=by
  show fp.pre.map _=[];rw[h.pre];rfl
 have hfit:(fp.move [] m.next).fits fp.g [.string t] m=true:=by
  unfold Fact.fits;rw[hpre];show(zG fp.g fp.g&&zG m.next m.next&&eqL2 (fp.args.map (ren2 _)) [.string t]&&true)=true
  rw[zF,zF,h.args];show(true&&true&&(eqBytes t.data.toList t.data.toList&&true)&&true)=true;rw[yqs];rfl
 have hri:∀b∈fp.post,ρ b.i=b.i-fp.next0+m.next:=fun b hb=>by rw[<-hρ];exact ybkq (s6 b hb).1 (s6 b hb).2.1
 have hnd:yhk ((fp.post.map (BlkL.ren ρ)).map (·.i))=true:=by
  refine yoo ?_
  have e:(fp.post.map (BlkL.ren ρ)).map (·.i)=(fp.post.map (·.i)).map (fun i=>i-fp.next0+m.next):=by
   rw[zAB,zAB];refine zM fun b hb=>?_;show(b.ren ρ).i=_;rw[b.yhj,hri b hb];rfl
  rw[e];unfold List.Nodup at s7 ⊢;rw[zY];refine List.Pairwise.imp_of_mem (fun {x y} hx hy h=>?_) s7;obtain⟨bx,hbx,rfl⟩:=List.mem_map.1 hx;obtain⟨by_,hby,rfl⟩:=List.mem_map.1 hy;have:=(s6 bx hbx).1;have:=(s6 by_ hby).1;omega
 have hs:=yzq hmv hfit;unfold Fact.out at hs;rw[hv,hpre,hpost]at hs;refine⟨_,_,_,hs,zV _,?_,rfl,?_⟩
 .intro i b hb;show(blksT m.b (fp.post.map (BlkL.ren ρ))).get i=some b;rw[yum fun c hc=>?_]
  .exact hb
  .obtain⟨c,hc',rfl⟩:=List.mem_map.1 hc;have:=hwf i b hb;rw[c.yhj,hri c hc'];omega
 .have hF:∀b∈fp.post,frsh m.next ⟨(fp.move [] m.next).next1,blksT m.b (fp.post.map (BlkL.ren ρ)),(fp.move [] m.next).low⟩ G (ρ b.i)=some (b.ren ρ).blk:=fun b hb=>by
   unfold frsh;rw[if_pos (by rw[hri b hb];omega)]
   have:=ysi (t:=m.b) hnd _ (List.mem_map.2 ⟨b,hb,rfl⟩);rw[b.yhj]at this;exact this
  have hinj:∀b∈fp.post,∀c∈fp.post,ρ b.i=ρ c.i->b.i=c.i:=fun b hb c hc e=>by
   rw[hri b hb,hri c hc]at e;have:=(s6 b hb).1;have:=(s6 c hc).1;omega
  refine .ag (.cons (.a rfl) (.cons (.ex ?_ (fun A B w=>Lies.mono A B w) ?_) (.cons (.ex ?_ (fun A B w=>Lies.mono A B w) ?_) .nil)))
  .exact⟨ρ,fun b hb c hc=>hinj b (h.bv b hb) c (h.bv c hc),fun b hb=>hF b (h.bv b hb),rfl⟩
  .exact ybpc (fun b hb=>hF b (h.bv b hb)) h.vars
  .exact⟨ρ,fun b hb c hc=>hinj b (h.br b hb) c (h.br c hc),fun b hb=>hF b (h.br b hb),rfl⟩
  .exact ybhf (fun b hb=>hF b (h.br b hb)) h.rules
def inB(B:List BlkL):Value->Bool
 |.slice (some a) _ _=>(B.map (·.i)).elem a.block
 |.pointer (some a)=>(B.map (·.i)).elem a.block
 |.agg _=>false
 |.func _ _ _=>false
 |_=>true
theorem yil{B:List BlkL}{ρ σ:Nat->Nat}(h:∀b∈B,ρ b.i=σ b.i){v:Value}(hv:inB B v=true):ren1 ρ v=ren1 σ v:=by
 have hk:∀j,(B.map (·.i)).elem j=true->ρ j=σ j:=fun j hj=>by
  have:j∈B.map (·.i):=by simpa using hj
  obtain⟨b,hb,rfl⟩:=List.mem_map.1 this;exact h b hb
 cases v with
 | slice p n c=>cases p with
   |none=>rfl
   | some a =>
     show Value.slice (some (renA ρ a)) n c = .slice (some (renA σ a)) n c;rw[yku,yku,hk _ hv]
 | pointer p=>cases p with
   |none=>rfl
   | some a =>
     show Value.pointer (some (renA ρ a)) = .pointer (some (renA σ a));rw[yku,yku,hk _ hv]
 |agg a=>cases hv
 |func f a c=>cases hv
 |_=>rfl
theorem ybkh{B:List BlkL}{τ:Nat->Nat}{v:Value}(hv:inB B v=true):ren2 τ v=ren1 τ v:=by
 cases v with
 |agg a=>cases hv
 |func f a c=>cases hv
 |_=>rfl
theorem yboa{B:List BlkL}{ρ σ:Nat->Nat}(h:∀b∈B,ρ b.i=σ b.i){v:Value}(hv:inB B v=true):ren2 ρ v=ren2 σ v:=by
 rw[ybkh hv,ybkh hv];exact yil h hv
def ybfj(B:List BlkL):Bool:=B.all fun b=>b.l.all (inB B)
theorem yber{B:List BlkL}{ρ σ:Nat->Nat}(hc:ybfj B=true)(h:∀b∈B,ρ b.i=σ b.i){b:BlkL}(hb:b∈B):b.ren ρ=b.ren σ:=by
 have h1:=List.all_eq_true.1 (List.all_eq_true.1 hc b hb)
 have e:∀τ:Nat->Nat,b.ren τ=⟨τ b.i,b.e,b.z,b.l.map (ren2 τ)⟩:=fun τ=>by
  unfold BlkL.ren;rw[ybo]
 rw[e,e,h b hb];congr 1;exact zM fun v hv=>yboa h (h1 v hv)
theorem ywi{low:Nat}:∀{l:List BlkL}{t:T ABlk},(∀b∈l,b.i<low)->dropT t low l=t
 |[],_,_=>rfl
 | b :: l,t,h=>by
   have hb:=h b zAR;unfold dropT
   have e:zAC low b.i=false:=by
    cases q:zAC low b.i with
    |false=>rfl
    |true=>have:=zI q;omega
   rw[e,ybf,if_neg (by simp)]
   exact ywi fun c hc=>h c (zAM _ hc)
structure GoodV(fv:Fact)(p:ProgR)(vv vr:Value)(Bv Br:List BlkL):Prop where
 args:fv.args=[.agg #[.string p.name,vv,vr]]
 pre:∀b∈fv.pre,b∈Bv\/b∈Br
 bv:∀b∈Bv,b∈fv.pre
 br:∀b∈Br,b∈fv.pre
 v:fv.v = .bool true
 post:fv.post=[]
 still:fv.still=true
 apart:(Bv.all fun b=>Br.all fun c=>!(zG b.e c.e) && !(zG b.i c.i))=true
 cv:ybfj Bv=true
 cr:ybfj Br=true
 iv:inB Bv vv=true
 ir:inB Br vr=true
 refl:eq2 (.agg #[.string p.name,vv,vr]) (.agg #[.string p.name,vv,vr])=true
theorem ycgs{P:Program}{fv:Fact}{p:ProgR}{vv vr:Value}{Bv Br:List BlkL}(hok:ygq P fv)(h:GoodV fv p vv vr Bv Br):Returns P fv.g [.ag (yfe (Lies Bv vv) (Lies Br vr) p)] (.b true):=by
 intro G m us hwf hle hus
 obtain⟨ρ1,ρ2,hu,a1,a2,a3,a4⟩:∃ρ1 ρ2:Nat->Nat,us=[.agg #[.string p.name,ren1 ρ1 vv,ren1 ρ2 vr]]/\(∀b∈Bv,∀c∈Bv,ρ1 b.i=ρ1 c.i->b.i=c.i)/\(∀b∈Bv,G (ρ1 b.i)=some (b.ren ρ1).blk) /\
  (∀b∈Br,∀c∈Br,ρ2 b.i=ρ2 c.i->b.i=c.i)/\∀b∈Br,G (ρ2 b.i)=some (b.ren ρ2).blk:=by
  cases hus with
  | cons a b =>
    cases b
    cases a with
    | ag hl =>
      cases hl with
      | cons x1 hl =>
        cases x1
        cases hl with
        | cons x2 hl =>
          cases x2 with
          | ex q2 _ _ =>
            cases hl with
            | cons x3 hl =>
              cases x3 with
              | ex q3 _ _ =>
                cases hl
                obtain⟨ρ1,b1,b2,rfl⟩:=q2;obtain⟨ρ2,b3,b4,rfl⟩:=q3;exact⟨ρ1,ρ2,rfl,b1,b2,b3,b4⟩
 subst hu;obtain⟨s1,⟨s2,s3⟩,s4,s5,s6,s7,s8⟩:=ymk h.still
 have hap:∀b∈Bv,∀c∈Br,b.e≠c.e/\b.i≠c.i:=fun b hb c hc=>by
  have:=List.all_eq_true.1 (List.all_eq_true.1 h.apart b hb) c hc;simp only[zB,zAF]at this;exact⟨fun e=>(by rw[e,zF]at this;exact absurd this.1 (by decide)),fun e=>(by rw[e,zF]at this;exact absurd this.2 (by decide))⟩
 let σ:Nat->Nat:=fun i=>if (Bv.map (·.i)).elem i then ρ1 i else ρ2 i
 have hcross:∀b∈Bv,∀c∈Br,ρ1 b.i≠ρ2 c.i:=fun b hb c hc e=>by
  have e1:=a2 b hb;have e2:=a4 c hc;rw[e,e2]at e1
  injection e1 with e1
  unfold BlkL.blk at e1
  injection e1 with _ _ e3 _
  exact(hap b hb c hc).1 e3.symm
 have hG:∀i b,G i=some b->i<m.next:=fun i b hb=>hwf i b (hle i b hb)
 have sv:∀b∈Bv,σ b.i=ρ1 b.i:=fun b hb=>if_pos (by simpa using⟨b,hb,rfl⟩)
 have sr:∀b∈Br,σ b.i=ρ2 b.i:=fun b hb=>by
  refine if_neg fun q=>?_;have:b.i∈Bv.map (·.i):=by simpa using q
  obtain⟨d,hd,hdi⟩:=List.mem_map.1 this;exact(hap d hd b hb).2 hdi
 have tgtLt:∀b∈fv.pre,σ b.i<m.next:=fun b hb=>by
  rcases h.pre b hb with q|q
  .rw[sv b q];exact hG _ _ (a2 b q)
  .rw[sr b q];exact hG _ _ (a4 b q)
 have sinj:∀b∈fv.pre,∀c∈fv.pre,σ b.i=σ c.i->b.i=c.i:=fun b hb c hc e=>by
  rcases h.pre b hb with q|q<;>rcases h.pre c hc with q'|q'
  .rw[sv b q,sv c q']at e;exact a1 b q c q' e
  .rw[sv b q,sr c q']at e;exact absurd e (hcross b q c q')
  .rw[sr b q,sv c q']at e;exact absurd e.symm (hcross c q' b q)
  .rw[sr b q,sr c q']at e;exact a3 b q c q' e
 obtain⟨tgt,htgt⟩:∃t,fv.pre.map (fun b=>σ b.i)=t:=⟨_,rfl⟩
 have tlt:∀t∈tgt,t<m.next:=fun t ht=>by
  rw[<-htgt]at ht;obtain⟨b,hb,rfl⟩:=List.mem_map.1 ht;exact tgtLt b hb
 have tnd:tgt.Nodup:=by
  rw[<-htgt];have s5:=s5;unfold List.Nodup at s5 ⊢;rw[zY]at s5 ⊢;exact List.Pairwise.imp_of_mem (fun {x y} hx hy h e=>h (sinj x hx y hy e)) s5
 have tlen:fv.pre.length=tgt.length:=by rw[<-htgt,zT]
 have hmv:=yyc (n0:=m.next) hok h.still tlen tnd tlt
 have hrho:=ycao (n0:=m.next) s4 s5 tlen
 obtain⟨ρ,hρ⟩:∃ρ,fv.rho tgt m.next=ρ:=⟨_,rfl⟩
 rw[hρ,<-htgt]at hrho;have hri:∀b∈fv.pre,ρ b.i=σ b.i:=List.map_inj_left.1 hrho;have hv1:∀b∈Bv,ρ b.i=ρ1 b.i:=fun b hb=>by rw[hri b (h.bv b hb),sv b hb]
 have hr1:∀b∈Br,ρ b.i=ρ2 b.i:=fun b hb=>by rw[hri b (h.br b hb),sr b hb]
 have hargs:(fv.move tgt m.next).args=[.agg #[.string p.name,ren1 ρ1 vv,ren1 ρ2 vr]]:=by
  show fv.args.map (ren2 (fv.rho tgt m.next))=_
  rw[hρ,h.args,<-yil hv1 h.iv,<-yil hr1 h.ir];rfl
 have hself:eqL2 [.agg #[.string p.name,ren1 ρ1 vv,ren1 ρ2 vr]] [.agg #[.string p.name,ren1 ρ1 vv,ren1 ρ2 vr]]=true:=by
  have hf:ylu (.agg #[.string p.name,vv,vr])=true:=by
   have:=s2;rw[h.args]at this
   simpa using this
  have e:=ybyr (ρ:=ρ) hf h.refl;rw[show ren2 ρ (.agg #[.string p.name,vv,vr]) = .agg #[.string p.name,ren1 ρ vv,ren1 ρ vr]from rfl,yil hv1 h.iv,yil hr1 h.ir]at e
  show(eq2 _ _&&true)=true;rw[e];rfl
 have hpre:∀b∈fv.pre,m.b.get (ρ b.i)=some (b.ren ρ).blk:=fun b hb=>by
  rcases h.pre b hb with q|q
  .rw[yber h.cv hv1 q,hv1 b q];exact hle _ _ (a2 b q)
  .rw[yber h.cr hr1 q,hr1 b q];exact hle _ _ (a4 b q)
 have hp:(fv.move tgt m.next).pre=fv.pre.map (BlkL.ren ρ):=by rw[<-hρ];rfl
 have hfit:(fv.move tgt m.next).fits fv.g [.agg #[.string p.name,ren1 ρ1 vv,ren1 ρ2 vr]] m=true:=by
  unfold Fact.fits;rw[hargs,hself];show(zG fv.g fv.g&&zG m.next m.next&&true&&(fv.move tgt m.next).pre.all (blkIs m))=true
  rw[zF,zF,hp];show List.all _ _=true;refine List.all_eq_true.2 fun b' hb'=>?_;obtain⟨b,hb,rfl⟩:=List.mem_map.1 hb';have h2:=(s4 b hb).2;refine ypb ?_ (ysw h2) ?_
  .rw[b.yhj];exact hpre b hb
  .show zW (b.l.map _).length 1000000=true;rw[zT];unfold reflB at h2;rw[zB]at h2;exact h2.2
 have hs:=yzq hmv hfit;unfold Fact.out at hs
 have hv:(fv.move tgt m.next).v = .bool true:=by
  show renV (fv.rho tgt m.next) fv.v=_
  rw[h.v];rfl
 have hpost:(fv.move tgt m.next).post=[]:=by
  show fv.post.map _=[];rw[h.post];rfl
 rw[hv,hpost]at hs;refine⟨_,_,_,hs,zV _,?_,rfl,.b⟩;intro i b hb;show(dropT m.b m.next (fv.move tgt m.next).pre).get i=some b
 rw[ywi fun c hc=>?_]
 .exact hb
 .rw[hp]at hc;obtain⟨c,hc',rfl⟩:=List.mem_map.1 hc;rw[c.yhj,hri c hc'];exact tgtLt c hc'
end Sh
end
section
namespace Sh
open Go Ev
def CqP:ProgT:=yex (by8 [99,101,110,116,101,114]) (by8 [104]) (by8 [102,105,120])
def Cqt:ByteArray:=ybz
def Cqv:Value:=.slice (some ⟨532,0,none⟩) 1 CU
def Cqr:Value:=.slice (some ⟨875,0,none⟩) 1 CU
def CqB:List BlkL:=ywu.post.take 1
def CqC:List BlkL:=ywu.post.drop 1
theorem ybns:Returns zJ 11 [.a (.string Cqt)] (.ag (yfe (Lies CqB Cqv) (Lies CqC Cqr) CqP.raw)) :=
 ycih (fp:=ywu) (ycb.at_ ycjg 0 rfl) ⟨rfl,rfl,rfl,by kernel_rfl,fun _ h=>zAN h,fun _ h=>zAO h,by kernel_rfl,by kernel_rfl⟩
theorem ydxm:ycej.pre=ywu.post:=rfl
theorem ycgf:Returns zJ 130 [.ag (yfe (Lies CqB Cqv) (Lies CqC Cqr) CqP.raw)] (.b true) :=
 ycgs (fv:=ycej) (ycb.at_ ycll 0 rfl) ⟨rfl,fun b h=>by
  rw[ydxm,<-List.take_append_drop 1 ywu.post]at h;exact List.mem_append.1 h,fun _ h=>zAN h,fun _ h=>zAO h,rfl,rfl,by kernel_rfl,by kernel_rfl,by kernel_rfl,by kernel_rfl,by kernel_rfl,by kernel_rfl,by kernel_rfl⟩
theorem ydxq:CqP.ok=true:=by kernel_rfl
end Sh
end
section
namespace Sh
open Ev Go.RowKit
theorem ycdd:Returns zJ 35 [] (.a (.string Cqt)):=by
 refine Returns.of (ydwo _ _ ?_);simp only[c35,ydnk,ydwe,go_sem,↓reduceIte];exact Sim.refl _
theorem ybjb{g:Gr}(hI:GrI g)(hit:ydb g=true):Returns zJ 36 [grV g] (.ag (ydbc 3 false true (ykb g/2+1) (-1))):=by
 have h:=yboe hI;unfold ybfs at h;rw[if_pos hit]at h;exact h
end Sh
end
end Go.Proofs.YthclbjjgfcgbgaaGreatDoor
