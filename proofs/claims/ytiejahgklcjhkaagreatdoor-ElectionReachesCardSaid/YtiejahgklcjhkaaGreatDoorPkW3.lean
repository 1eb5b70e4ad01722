/- Joined. -/
import Derived.Test.YtiejahgklcjhkaaGreatDoorPkW2
set_option linter.unusedSimpArgs false
set_option linter.unusedVariables false
open Bool renaming or_eq_false_iff->zA,not_eq_true'->zD,and_eq_true->zF,not_eq_false'->zI,and_eq_false_iff->zM,true_and->zO,not_true->zY,false_or->zZ
open List renaming mem_cons_self->zB,mem_cons_of_mem->zC,isEmpty_iff->zL,map_cons->zT
open Nat renaming le_of_ble_eq_true->zG,testBit->zH,lt_of_lt_of_le->zJ,le_refl->zK,blt->zN,beq->zQ,ble->zS,le_trans->zU,beq_refl->zV,succ->zW,le_max_right->zX,zero_le->zAA,max->zAB
open Iff renaming rfl->zAC
open Go
namespace Go.Proofs.YtiejahgklcjhkaaGreatDoor
section
namespace Sh
open Go Ev
def guardOf(ops:List Oper):Option (Nat×Bool)->Option (Option (Nat×Bool))
 |none=>some none
 | some (j,w)=>match ops[j]? with
   | some oj=>(match oj.dst with
     |some d=>some (some (d,w))
     |none=>none)
   |none=>none
def ycdy(nt:Nat):Option Nat->Bool
 |none=>true
 |some d=>zN d nt
noncomputable def cmpL(P:Program)(nt:Nat)(ops:List Oper)(an:List Nat):List Oper->Nat->Option (List SOper)
 |[],_=>some []
 |o::l,i=>(some ((res P o.op).getD .no)).bind fun sop=>(guardOf ops o.guard).bind fun g=>(cmpL P nt ops an l (i+1)).bind fun r=>if ycdy nt o.dst then some (⟨sop,o.dst,g,an.getD i 0⟩::r)else none
structure Past0(F:AM)(ω:Om)(rc:SRec)(e:Ent):Prop where
 mods:∃ms,e.r.mods=some ms/\∀x∈ms,∃β z,β∈rc.wr/\ω β=some (some (x,z))
 foot:(rc.cl=true/\rc.gr=true/\e.r.foot=none)\/∃ft,e.r.foot=some ft/\∀x∈ft,x<e.m.next/\((∃β z,β∈rc.rd/\ω β=some (some (x,z)))\/(rc.fz=true/\∃b,F x=some b)\/(rc.cl=true/\∃β z,ω β=some (some (x,z))))
 own:∀β k z,ω β=some (some (k,z))->e.m.next<=k->k<e.r.m.next->β∈rc.nw
 frz:rc.gr=false->∀x b,F x=some b->¬(e.m.next<=x/\x<e.r.m.next)
 still:rc.nw=[]->rc.cl=false->e.m.next=e.r.m.next
structure Past(F:AM)(ω:Om)(nxt:Nat)(rc:SRec)(e:Ent):Prop where
 le:e.m.next<=e.r.m.next/\e.r.m.next<=nxt
 rest:rc.mu=true\/Past0 F ω rc e
section
variable {P:Program}{lo nt:Nat}{F F':AM}{ω ω':Om}{s:SS}{f:Fr}{m:Mem}{o:Oper}
theorem Past.mono{nxt nxt':Nat}{rc:SRec}{e:Ent}(h:Past F ω nxt rc e)(hF:Le F F')(ho:ω.le ω')(h1:∀β k z,ω' β=some (some (k,z))->ω β=some (some (k,z))\/nxt<=k)(h2:∀x b,F' x=some b->F x=some b\/nxt<=x)(h3:nxt<=nxt'):Past F' ω' nxt' rc e:=by
 refine⟨⟨h.le.1,zU h.le.2 h3⟩,h.rest.imp id fun q=>⟨?_,?_,fun β k z hk a b=>?_,fun hg x b hb q'=>?_,q.still⟩⟩
 .obtain⟨ms,a,b⟩:=q.mods;exact⟨ms,a,fun x hx=>by obtain⟨β,z,c,d⟩:=b x hx;exact⟨β,z,c,ho _ _ d⟩⟩
 .rcases q.foot with q|⟨ft,a,b⟩
  .exact .inl q
  .refine .inr ⟨ft,a,fun x hx=>⟨(b x hx).1,?_⟩⟩;rcases(b x hx).2 with⟨β,z,c,d⟩|⟨c,y,d⟩|⟨c,β,z,d⟩
   .exact .inl ⟨β,z,c,ho _ _ d⟩
   .exact .inr (.inl ⟨c,y,hF _ _ d⟩)
   .exact .inr (.inr ⟨c,β,z,ho _ _ d⟩)
 .rcases h1 β k z hk with c|c
  .exact q.own β k z c a b
  .have:=h.le.2;omega
 .rcases h2 x b hb with c|c
  .exact q.frz hg x b c q'
  .have:=h.le.2;omega
theorem ybou{r:SRec}(h:r.pure=true):r.rd=[]/\r.wr=[]/\r.nw=[]/\r.fz=false/\r.cl=false/\r.gr=false/\r.mu=false:=by
 unfold SRec.pure at h;simp only[zF,zD,zL]at h;obtain⟨⟨⟨⟨⟨⟨a,b⟩,c⟩,d⟩,e⟩,f⟩,g⟩:=h;exact⟨a,b,c,d,e,f,g⟩
theorem ydcd{r:R2}{a b:Nat}(h1:r.foot=some [])(h2:r.mods=some [])(h3:a=b):Ev.idle r a b=true:=by
 unfold Ev.idle;rw[h1,h2,h3];simp
theorem Past.pure{nxt:Nat}{rc:SRec}{e:Ent}(h:Past F ω nxt rc e)(hp:rc.pure=true):e.idle=true:=by
 obtain⟨h1,h2,h3,h4,h5,h6,h7⟩:=ybou hp;have q:=h.rest.resolve_left (by rw[h7];simp)
 obtain⟨ms,a1,a2⟩:=q.mods
 have hms:ms=[]:=by
  cases ms with
  |nil=>rfl
  |cons x l=>obtain⟨β,z,v,_⟩:=a2 x zB;rw[h2]at v;cases v
 have hft:e.r.foot=some []:=by
  rcases q.foot with⟨v,_⟩|⟨ft,b1,b2⟩
  .rw[h5]at v;cases v
  .cases ft with
   |nil=>exact b1
   | cons x l =>
     rcases(b2 x zB).2 with⟨β,z,v,_⟩|⟨v,_⟩|⟨v,_⟩
     .rw[h1]at v;cases v
     .rw[h4]at v;cases v
     .rw[h5]at v;cases v
 subst hms;exact ydcd hft a1 (q.still h3 h5)
theorem Past.dim{nxt nxt':Nat}{rc:SRec}{e:Ent}(h:Past F ω nxt rc e)(h3:nxt<=nxt'):e.idle=true\/Past F' ω' nxt' (if rc.pure=true then rc else SRec.top) e:=by
 split
 .rename_i q;exact .inl (h.pure q)
 .exact .inr ⟨⟨h.le.1,zU h.le.2 h3⟩,.inl rfl⟩
theorem yld{l:List Nm}{x:Nm}(h:nmem l x=false):x∉l:=fun q=>by rw[yhp.2 q]at h;cases h
theorem ybkc(hc:Conc lo F ω s f m){nxt:Nat}{a b:SRec}{e q:Ent}{k j:Nat}(ha:Past F ω nxt a e)(hb:Past F ω nxt b q)(hlt:q.r.m.next<=e.m.next)(h:ynt a b=false)(c8:(b.gr=false\/a.fz=false)\/∀ft,e.r.foot=some ft->∀x∈ft,x<q.m.next):Ap k j e q:=by
 unfold ynt at h;rw[zA,zA]at h;obtain⟨⟨hma,hmb⟩,h⟩:=h
 by_cases hmua:a.mu=true
 .rw[hmua,zO,zI]at hma;exact .inr (.inl (hb.pure hma))
 by_cases hmub:b.mu=true
 .rw[hmub,zO,zI]at hmb;exact .inl (ha.pure hmb)
 replace ha:Past0 F ω a e/\(e.m.next<=e.r.m.next/\e.r.m.next<=nxt):=⟨ha.rest.resolve_left hmua,ha.le⟩
 replace hb:Past0 F ω b q/\(q.m.next<=q.r.m.next/\q.r.m.next<=nxt):=⟨hb.rest.resolve_left hmub,hb.le⟩
 obtain⟨ha,hale⟩:=ha;obtain⟨hb,hble⟩:=hb;refine .inr (.inr ?_);simp only[zA,zM,List.any_eq_false,Bool.not_eq_true,zI,zL,zA]at h;obtain⟨⟨⟨⟨⟨c1,c2⟩,c3⟩,c4⟩,c5⟩,c6⟩:=h;obtain⟨ma,a1,a2⟩:=ha.mods;obtain⟨mb,b1,b2⟩:=hb.mods
 have same:∀{β γ k z z'},ω β=some (some (k,z))->ω γ=some (some (k,z'))->β=γ:=fun {β γ k z z'} h1 h2=>by
  by_cases q:β=γ
  .exact q
  .exact absurd rfl (hc.inj β γ k z k z' h1 h2 q)
 have noF:∀{β k z b},ω β=some (some (k,z))->F k≠some b:=fun {β k z b} h1 h2=>by rw[(hc.apart β k z h1).1]at h2;cases h2
 have B1 : before1 (e.rec' k) (q.rec' j)=true:=by
  unfold before1;show(match q.r.mods with|none=>false|some ms=>match e.r.foot with|none=>ms.isEmpty&&zQ q.m.next q.r.m.next|some fs=>fs.all fun x=>!(ms.elem x) && !(zS q.m.next x&&zN x q.r.m.next))=true
  rw[b1];rcases ha.foot with⟨d1,d2,d3⟩|⟨ft,d1,d2⟩
  .rw[d3]
   have w0:b.wr=[]/\b.nw=[]/\b.cl=false:=by
    rcases c5 with w|w
    .rw[d1]at w;cases w
    .refine⟨w.1.1,w.1.2,?_⟩;rcases c6 with v|v
     .exact v
     .rw[d2]at v;cases v.2
   have:mb=[]:=by
    cases mb with
    |nil=>rfl
    |cons x l=>obtain⟨β,z,v,_⟩:=b2 x zB;rw[w0.1]at v;cases v
   rw[this,hb.still w0.2.1 w0.2.2];show(true&&zQ _ _)=true;rw[zV];rfl
  .rw[d1];refine List.all_eq_true.2 fun x hx=>?_;obtain⟨e1,e2⟩:=d2 x hx
   have g1:x∉mb:=fun hm=>by
    obtain⟨γ,z,v1,v2⟩:=b2 x hm;rcases e2 with⟨β,z',w1,w2⟩|⟨_,y,w2⟩|⟨w1,_⟩
    .rw[same w2 v2]at w1;exact yld (c2 γ v1).1.1 w1
    .exact noF v2 w2
    .rcases c5 with w|w
     .rw[w1]at w;cases w
     .rw[w.1.1]at v1;cases v1
   have g2:¬(q.m.next<=x/\x<q.r.m.next):=fun hq=>by
    rcases e2 with⟨β,z',w1,w2⟩|⟨w1,y,w2⟩|⟨w1,β,z',w2⟩
    .exact yld (c3 β w1) (hb.own β x z' w2 hq.1 hq.2)
    .refine hb.frz ?_ x y w2 hq;rcases c8 with(w|w)|w
     .exact w
     .rw[w1]at w;cases w
     .have:=w ft d1 x hx;have:=hq.1;omega
    .have:=hb.own β x z' w2 hq.1 hq.2;rcases c5 with w|w
     .rw[w1]at w;cases w
     .rw[w.1.2]at this;cases this
   rw[zF,zD,zD,zM];refine⟨by simpa using g1,?_⟩
   by_cases hq:q.m.next<=x
   .right
    cases hqq:zN x q.r.m.next with
    |false=>rfl
    |true=>exact absurd ⟨hq,zG hqq⟩ g2
   .left
    cases hqq:zS q.m.next x with
    |false=>rfl
    |true=>exact absurd (zG hqq) hq
 have B2 : before1 (q.rec' j) (e.rec' k)=true:=by
  unfold before1;show(match e.r.mods with|none=>false|some ms=>match q.r.foot with|none=>ms.isEmpty&&zQ e.m.next e.r.m.next|some fs=>fs.all fun x=>!(ms.elem x) && !(zS e.m.next x&&zN x e.r.m.next))=true
  rw[a1];rcases hb.foot with⟨d1,d2,d3⟩|⟨ft,d1,d2⟩
  .rw[d3]
   have w0:a.wr=[]/\a.nw=[]/\a.cl=false:=by
    rcases c6 with w|w
    .rw[d1]at w;cases w
    .refine⟨w.1.1,w.1.2,?_⟩;rcases c5 with v|v
     .exact v
     .rw[d2]at v;cases v.2
   have:ma=[]:=by
    cases ma with
    |nil=>rfl
    |cons x l=>obtain⟨β,z,v,_⟩:=a2 x zB;rw[w0.1]at v;cases v
   rw[this,ha.still w0.2.1 w0.2.2];show(true&&zQ _ _)=true;rw[zV];rfl
  .rw[d1];refine List.all_eq_true.2 fun x hx=>?_;obtain⟨e1,e2⟩:=d2 x hx
   have g1:x∉ma:=fun hm=>by
    obtain⟨γ,z,v1,v2⟩:=a2 x hm;rcases e2 with⟨β,z',w1,w2⟩|⟨_,y,w2⟩|⟨w1,_⟩
    .rw[same w2 v2]at w1;exact yld (c1 γ v1).1.1 w1
    .exact noF v2 w2
    .rcases c6 with w|w
     .rw[w1]at w;cases w
     .rw[w.1.1]at v1;cases v1
   rw[zF,zD,zD,zM];refine⟨by simpa using g1,.inl ?_⟩
   cases hqq:zS e.m.next x with
   |false=>rfl
   |true=>have:=zG hqq;have:=hble.1;omega
 unfold apart2;rw[B1,B2];show(match e.r.mods,q.r.mods with|some x,some y=>x.all fun i=>!(y.elem i)|_,_=>false)=true
 rw[a1,b1];refine List.all_eq_true.2 fun x hx=>?_;rw[zD];cases hq:mb.elem x with
 |false=>rfl
 | true =>
   exfalso
   obtain⟨β,z,v1,v2⟩:=a2 x hx;obtain⟨γ,z',w1,w2⟩:=b2 x (by simpa using hq)
   rw[<-same v2 w2]at w1;exact yld (c1 β v1).1.2 w1
theorem ybhq{nxt:Nat}{b:SRec}{e q:Ent}{k j:Nat}(hm:e.r.mods=some [])(hf:e.r.foot=none)(hb:Past F ω nxt b q)(hq:ybkk b=true)(hlt:q.r.m.next<=e.m.next):Ap k j e q:=by
 unfold ybkk at hq;simp only[zF,zD,zL]at hq;obtain⟨⟨⟨q1,q2⟩,q3⟩,q4⟩:=hq;have hle:=hb.le;have hb:=hb.rest.resolve_left (by rw[q1];simp)
 obtain⟨mb,b1,b2⟩:=hb.mods
 have hmb:mb=[]:=by
  cases mb with
  |nil=>rfl
  |cons x l=>obtain⟨β,z,v,_⟩:=b2 x zB;rw[q2]at v;cases v
 subst hmb;have hst:=hb.still q3 q4;obtain⟨ft,d1,d2⟩:=hb.foot.resolve_left (fun h=>by rw[q4]at h;cases h.1)
 refine .inr (.inr ?_)
 have B1:before1 (e.rec' k) (q.rec' j)=true:=by
  unfold before1;show(match q.r.mods with|none=>false|some ms=>match e.r.foot with|none=>ms.isEmpty&&zQ q.m.next q.r.m.next|some fs=>fs.all fun x=>!(ms.elem x) && !(zS q.m.next x&&zN x q.r.m.next))=true
  rw[b1,hf,hst];show(true&&zQ _ _)=true;rw[zV];rfl
 have B2:before1 (q.rec' j) (e.rec' k)=true:=by
  unfold before1;show(match e.r.mods with|none=>false|some ms=>match q.r.foot with|none=>ms.isEmpty&&zQ e.m.next e.r.m.next|some fs=>fs.all fun x=>!(ms.elem x) && !(zS e.m.next x&&zN x e.r.m.next))=true
  rw[hm,d1];refine List.all_eq_true.2 fun x hx=>?_;have e1:=(d2 x hx).1;cases hqq:zS e.m.next x with
  |false=>rfl
  |true=>have:=zG hqq;have:=hle.1;omega
 unfold apart2;rw[B1,B2];show(match e.r.mods,q.r.mods with|some x,some y=>x.all fun i=>!(y.elem i)|_,_=>false)=true
 rw[hm,b1];rfl
end
end Sh
end
section
namespace Sh
open Go Ev
section
variable {P:Program}{lo nt:Nat}{F F':AM}{ω ω':Om}{s:SS}{f:Fr}{m:Mem}{o:Oper}
theorem ybcc{d:Option Nat}(h:ycdy nt d=true)(hn:nt<=f.n)(u:Value):∃f',f.put d u=some f'/\f'.n=f.n/\((d=none/\f'=f)\/∃k,d=some k/\f'.t=T.set (zW k) f.t k (some u)):=by
 cases d with
 |none=>exact⟨f,rfl,rfl,.inl ⟨rfl,rfl⟩⟩
 | some k =>
   have hk:k<f.n:=zJ (zG h) hn;obtain⟨n,t⟩:=f;refine⟨⟨n,T.set (zW k) t k (some u)⟩,?_,rfl,.inr ⟨k,rfl,rfl⟩⟩;show iteB (zN k n) (Fr.set1 n t k u) none=_;rw[ybh,if_pos (show zN k n=true from Nat.ble_eq_true_of_le hk)]
   unfold Fr.set1;rw[force_eq,T.strict_eq]
theorem Conc.put(hc:Conc lo F ω s f m){d:Option Nat}{v:SV}{u:Value}{f':Fr}(hf:(d=none/\f'=f)\/∃k,d=some k/\f'.t=T.set (zW k) f.t k (some u))(hv:RV F ω v u):Conc lo F ω (s.put d v) f' m:=by
 rcases hf with⟨rfl,rfl⟩|⟨k,rfl,hk⟩
 .exact hc
 .refine⟨hc.wf,hc.low,hc.nxt,hc.sub,hc.own,hc.dom,hc.inj,hc.apart,fun t w hw=>?_⟩;have hw':(if k=t then some v else look s.f t)=some w:=hw
  rw[hk];rw[T.set_at];split at hw'
  .rename_i q;cases hw';exact⟨u,by rw[if_pos q.symm],hv⟩
  .rename_i q;rw[if_neg (Ne.symm q)];exact hc.fr t w hw'
theorem ybgy{r0:R}(h:evOp P f o m=some r0):One P f o m ⟨r0.v,m.app r0.e,some r0.foot,some r0.e.mods⟩:=by
 refine .inl ⟨fun _=>none,fun t out q=>(by cases q),?_⟩
 unfold evOne evOne1;split
 .rename_i fx args ats hop
  unfold evOp at h;rw[hop]at h;cases h
 .rw[h];rfl
def ywk(F:AM)(ω:Om)(nxt:Nat)(rs:List (Nat×SRec))(ps:List (Nat×Ent)):Prop:=∀p∈ps,p.2.idle=true\/∃rc,(p.1,rc)∈rs/\Past F ω nxt rc p.2
theorem ywk.mono{nxt nxt':Nat}{rs rs':List (Nat×SRec)}{ps:List (Nat×Ent)}(h:ywk F ω nxt rs ps)(hs:∀x∈rs,x∈rs')(hF:Le F F')(ho:ω.le ω')(h1:∀β k z,ω' β=some (some (k,z))->ω β=some (some (k,z))\/nxt<=k)(h2:∀x b,F' x=some b->F x=some b\/nxt<=x)(h3:nxt<=nxt'):ywk F' ω' nxt' rs' ps:=fun p hp =>
 (h p hp).imp id fun⟨rc,a,b⟩=>⟨rc,hs _ a,b.mono hF ho h1 h2 h3⟩
theorem ybjn{d:Bool}{an:Nat}{r:SRec}{rs:List (Nat×SRec)}(h:fits d an r rs=true)(hd:d=true){q:Nat}{rc:SRec}(hq:(q,rc)∈rs):zH an q=true\/clash r rc=false:=by
 subst hd;unfold fits at h;simp only[zY,zZ]at h;have:=List.all_eq_true.1 h _ hq
 simpa using this
theorem ycfv{d:Bool}{an:Nat}{old:Bool}{r:SRec}{rs:List (Nat×SRec)}(h:ychz d an old r rs=true)(hd:d=true){q:Nat}{rc:SRec}(hq:(q,rc)∈rs):zH an q=true\/(ynt r rc=false/\((rc.gr=false\/r.fz=false)\/old=true)):=by
 cases old with
 |false=>exact(ybjn h hd hq).imp id fun q=>⟨(ybac q).1,.inl (ybac q).2⟩
 | true =>
   subst hd;have h:(!true||rs.all fun q=>zH an q.1 || !(ynt r q.2))=true:=h;rw[zY,zZ]at h;have:=List.all_eq_true.1 h _ hq;rcases Bool.or_eq_true_iff.1 this with q|q
   .exact .inl q
   .exact .inr ⟨by simpa using q,.inr rfl⟩
def OldI(F0:AM)(rs:List (Nat×SRec))(s:SS)(f:Fr):Prop:=∀t v,look s.f t=some v->yjv rs t=false->owned 5 v=false->∃u,f.t.get t=some u/\RV F0 om0 v u
theorem yky{i:Nat}{rc:SRec}{rs:List (Nat×SRec)}{t:Nat}(h:yjv ((i,rc)::rs) t=false):yjv rs t=false:=by
 unfold yjv at h ⊢;rw[List.any_cons,zA]at h;exact h.2
theorem ybtq{rs:List (Nat×SRec)}{t:Nat}(h:yjv (rs.map dim) t=false):yjv rs t=false:=by
 unfold yjv at h ⊢;rw[List.any_map]at h;exact h
theorem yqe{d:Bool}{dst:Option Nat}{old:Bool}{rs:List (Nat×SRec)}{t:Nat}(h:yjv (yjw d dst old rs) t=false):yjv rs t=false:=by
 unfold yjw at h;split at h
 .exact yky h
 .exact h
theorem yzu{t:Nat}{rs:List (Nat×SRec)}(h:yjv (yjw true (some t) false rs) t=false):False:=by
 unfold yjv yjw at h;simp at h
theorem ysp{d:Bool}{dst:Option Nat}{old:Bool}{rs:List (Nat×SRec)}{x:Nat×SRec}(h:x∈rs):x∈yjw d dst old rs:=by
 unfold yjw;split
 .exact zC _ h
 .exact h
theorem ywk.mark{nxt:Nat}{rs:List (Nat×SRec)}{ps:List (Nat×Ent)}{d:Bool}{dst:Option Nat}{old:Bool}(h:ywk F ω nxt rs ps):ywk F ω nxt (yjw d dst old rs) ps:=fun p hp =>
 (h p hp).imp id fun⟨rc,a,b⟩=>⟨rc,ysp a,b⟩
theorem OldI.put {F0:AM}{rs rs':List (Nat×SRec)}{s s':SS}{f f':Fr}{dst:Option Nat}{v:SV}{u:Value}(h:OldI F0 rs s f) (hs:∀t w,look s'.f t=some w->look s.f t=some w) (hrs:∀t,yjv rs' t=false->yjv rs t=false)
 (hf:(dst=none/\f'=f)\/∃k,dst=some k/\f'.t=T.set (zW k) f.t k (some u)) (hd:∀k,dst=some k->yjv rs' k=false->owned 5 v=false->RV F0 om0 v u):OldI F0 rs' (s'.put dst v) f':=fun t w hw hy ho=>by
 rcases hf with⟨rfl,rfl⟩|⟨k,rfl,hk⟩
 .exact h t w (hs t w hw) (hrs t hy) ho
 .have hw':(if k=t then some v else look s'.f t)=some w:=hw
  rw[hk,T.set_at];split at hw'
  .rename_i q;cases hw';subst q;exact⟨u,by rw[if_pos rfl],hd _ rfl hy ho⟩
  .rename_i q;rw[if_neg (Ne.symm q)];exact h t w (hs t w hw') (hrs t hy) ho
theorem ywz{v:SV}(h:owned 5 v=false):(∀β i j,v ≠ .pt β i j)/\(∀β o n a,v ≠ .os β o n a):=⟨fun β i j q=>by(subst q;cases h),fun β o n a q=>by(subst q;cases h)⟩
theorem yss{rs:List (Nat×SRec)}{x:Operand}(h:oldX s rs x=true):∃t v,x = .tmp t/\yjv rs t=false/\look s.f t=some v/\owned 5 v=false:=by
 unfold oldX at h;split at h
 .rename_i t
  rw[zF]at h;obtain⟨h1,h2⟩:=h;cases hl:look s.f t with
  |none=>rw[hl]at h2;cases h2
  | some v =>
    rw[hl]at h2;exact⟨t,v,rfl,by simpa using h1,hl,by simpa[oldV]using h2⟩
 .cases h
theorem ycrg{F0:AM}{rs:List (Nat×SRec)}{sop:SOp}{X:XR}{r0:R}(hc:Conc lo F ω s f m)(hF:Le F0 F)(hI:OldI F0 rs s f)(hold:ybqb s rs sop=true)(hres:res P o.op=some sop)(hX:xOp s o.dst sop=some X)(hXc:X.c)(hev:evOp P f o m=some r0) :
 (owned 5 X.v=false->RV F0 om0 X.v r0.v)/\∀x∈r0.foot,∃b,F0 x=some b:=by
 have fin:∀(s0:SS) (X0:XR),Conc lo F0 om0 s0 f m->xOp s0 o.dst sop=some X0->X0.v=X.v->X0.c->(owned 5 X.v=false->RV F0 om0 X.v r0.v)/\∀x∈r0.foot,∃b,F0 x=some b:=by
  intro s0 X0 hc0 h0 hv h0c;obtain⟨r1,ω',e1,e2,e3,e4,e5,e6,_⟩:=ybcl hc0 hres h0 h0c;rw[hev]at e1;cases e1
  refine⟨fun ho=>?_,fun x hx=>?_⟩
  .rw[hv]at e4;exact yep ho e4
  .rcases e6 x hx with⟨β,z,_,b⟩|⟨_,b⟩
   .cases b
   .exact b
 have conc0:∀(l:List (Nat×SV)),(∀t v,look l t=some v->∃u,f.t.get t=some u/\RV F0 om0 v u)->Conc lo F0 om0 ⟨l,[]⟩ f m:=fun l hl =>
  ⟨hc.wf,hc.low,hc.nxt,fun i b h=>hc.sub i b (hF i b h),fun β b h=>(by cases h),fun β _=>rfl,fun β γ k z k' z' h=>(by cases h),fun β k z h=>(by cases h),hl⟩
 have one:∀{t:Nat}{v:SV},look s.f t=some v->yjv rs t=false->owned 5 v=false->∀t' v',look [(t,v)] t'=some v'->∃u,f.t.get t'=some u/\RV F0 om0 v' u:=fun {t v} h1 h2 h3 t' v' h=>by
  have h:(if t=t' then some v else none)=some v':=h
  by_cases q:t=t'
  .rw[if_pos q]at h;cases h;rw[<-q];exact hI _ _ h1 h2 h3
  .rw[if_neg q]at h;cases h
 have self1:∀(t:Nat) (v:SV),SS.get ⟨[(t,v)],[]⟩ (.tmp t)=some v:=fun t v=>by show(if t=t then some v else none)=_;rw[if_pos rfl]
 cases sop with
 | mv x =>
   obtain⟨t,v,rfl,h1,h2,h3⟩:=yss (show oldX s rs x=true from hold)
   have hX':(match s.get (.tmp t)with|some v=>some (⟨True,SRec.no,v,s⟩:XR)|none=>none)=some X:=hX
   rw[show s.get (.tmp t)=some v from h2]at hX'
   cases hX'
   refine fin ⟨[(t,v)],[]⟩ ⟨True,SRec.no,v,⟨[(t,v)],[]⟩⟩ (conc0 _ (one h2 h1 h3)) ?_ rfl trivial;simp only[xOp,self1]
 | load ag n x =>
   obtain⟨t,v,rfl,h1,h2,h3⟩:=yss (show oldX s rs x=true from hold)
   have hX':(match s.get (.tmp t)with|some p=>ywf s ag n p|none=>none)=some X:=hX
   rw[show s.get (.tmp t)=some v from h2]at hX'
   have hl:∃X0,ywf ⟨[(t,v)],[]⟩ ag n v=some X0/\X0.v=X.v/\(X.c->X0.c):=by
    unfold ywf at hX' ⊢;cases v with
    | rf c =>
      simp only at hX' ⊢;cases hp:part ag 0 n c with
      |none=>rw[hp]at hX';cases hX'
      |some w=>rw[hp]at hX';cases hX';exact⟨_,rfl,rfl,fun h=>h⟩
    |pt β i j=>exact absurd rfl ((ywz h3).1 β i j)
    |_=>cases hX'
   obtain⟨X0,k1,k2,k3⟩:=hl;refine fin ⟨[(t,v)],[]⟩ X0 (conc0 _ (one h2 h1 h3)) ?_ k2 (k3 hXc);simp only[xOp,self1];exact k1
 | faddr p n x =>
   obtain⟨t,v,rfl,h1,h2,h3⟩:=yss (show oldX s rs x=true from hold)
   have hX':(match s.get (.tmp t)with
    |some (.rf c)=>if p+n<=c.length then some (⟨True,SRec.no,.rf ((c.drop p).take n),s⟩:XR)else none
    |some (.pt β i j)=>some ⟨True,SRec.no,.pt β i (j+p),s⟩
    |_=>none)=some X:=hX
   rw[show s.get (.tmp t)=some v from h2]at hX'
   cases v with
   | rf c =>
     simp only at hX';split at hX'
     .rename_i hle
      cases hX'
      refine fin ⟨[(t,.rf c)],[]⟩ ⟨True,SRec.no,.rf ((c.drop p).take n),⟨[(t,.rf c)],[]⟩⟩ (conc0 _ (one h2 h1 h3)) ?_ rfl trivial;simp only[xOp,self1];rw[if_pos hle]
     .cases hX'
   |pt β i j=>exact absurd rfl ((ywz h3).1 β i j)
   |_=>cases hX'
 | idx z x k =>
   obtain⟨t,v,rfl,h1,h2,h3⟩:=yss (show oldX s rs x=true from hold)
   have hX':(match s.pget (.tmp t),s.get k with
    |some p,some (.i _ n)=>idxX s n z p
    |_,_=>none)=some X:=hX
   obtain⟨p,kd,n,hp,hk,hX''⟩:∃p kd n,s.pget (.tmp t)=some p/\s.get k=some (.i kd n)/\idxX s n z p=some X:=by
    split at hX'
    .rename_i p kd n e1 e2
     exact⟨p,kd,n,e1,e2,hX'⟩
    .cases hX'
   have hpv:∀(s1:SS),s1.get (.tmp t)=some v->s1.pget (.tmp t)=some p:=fun s1 e=>by
    unfold SS.pget at hp ⊢;rw[show s.get (.tmp t)=some v from h2]at hp
    rw[e];cases v with
    |ex Q w=>exact hp
    |_=>exact hp
   have hpo:∀β o m a,p ≠ .os β o m a:=by
    rintro β o m a rfl;unfold SS.pget at hp;rw[show s.get (.tmp t)=some v from h2]at hp
    obtain⟨u,_,hu⟩:=hI t v h2 h1 h3;cases v with
    | ex Q w =>
      cases hp
      cases hu with
      | ex _ _ h =>
        rcases h.os_inv with⟨k,z,cp,q,_⟩|⟨q,_⟩<;>cases q
    |_=>cases hp;try cases h3
   have hl:∀s1:SS,∃X0,idxX s1 n z p=some X0/\X0.v=X.v/\(X.c->X0.c):=fun s1=>by
    unfold idxX at hX'' ⊢;cases p with
    | sl z' m g =>
      simp only at hX'' ⊢;split at hX''
      .rename_i hz;cases hX'';rw[if_pos hz];exact⟨_,rfl,rfl,fun h=>h⟩
      .cases hX''
    |os β o m a=>exact absurd rfl (hpo β o m a)
    |_=>cases hX''
   obtain⟨l,hl1,hl2,hl3⟩:∃l:List (Nat×SV),SS.get ⟨l,[]⟩ (.tmp t)=some v/\SS.get ⟨l,[]⟩ k=some (.i kd n)/\∀t' v',look l t'=some v'->∃u,f.t.get t'=some u/\RV F0 om0 v' u:=by
    cases k with
    | tmp q =>
      have hq:look s.f q=some (.i kd n):=hk
      by_cases e:q=t
      .subst e;rw[h2]at hq;cases hq
       exact⟨[(q,.i kd n)],self1 _ _,self1 _ _,one h2 h1 h3⟩
      .refine⟨[(q,.i kd n),(t,v)],?_,?_,fun t' v' h=>?_⟩
       .show(if q=t then some (SV.i kd n)else if t=t then some v else none)=_
        rw[if_neg e,if_pos rfl]
       .show(if q=q then some (SV.i kd n)else if t=q then some v else none)=_
        rw[if_pos rfl]
       .have h:(if q=t' then some (SV.i kd n)else if t=t' then some v else none)=some v':=h
        by_cases e1:q=t'
        .rw[if_pos e1]at h;cases h
         obtain⟨u,g1,g2⟩:=hc.fr q _ hq;cases g2.int_inv
         rw[<-e1];exact⟨_,g1,.i⟩
        .rw[if_neg e1]at h;exact one h2 h1 h3 t' v' h
    |const c=>exact⟨[(t,v)],self1 _ _,hk,one h2 h1 h3⟩
    |global g=>cases hk
    |func g=>cases hk
   obtain⟨X0,k1,k2,k3⟩:=hl ⟨l,[]⟩;refine fin ⟨l,[]⟩ X0 (conc0 _ hl3) ?_ k2 (k3 hXc);simp only[xOp,hpv _ hl1,hl2];exact k1
 |_=>cases hold
theorem ydtt{d:Option Nat}{sop:SOp}{X:XR}(h:xOp s d sop=some X):X.s.f=s.f:=by
 unfold xOp at h;unfold ywf ybbj idxX ybnz at h
 repeat' (first|(cases h;rfl)|split at h|cases h)
theorem ybru{op:BinOp}{t:TypeId}{x y fx:Operand}{xs:List Operand}(h:ycdv P op t x y = .call fx xs):False:=by
 unfold ycdv at h;split at h
 .unfold ycfr at h;split at h<;>cases h
 .split at h<;>first|(cases h;done)|(unfold ybul at h;split at h<;>first|(cases h;done)|(split at h<;>first|(cases h;done)|(split at h<;>cases h;done)))|(split at h<;>first|(cases h;done)|(split at h<;>cases h;done))
theorem ychr{op:Op}{fx:Operand}{xs:List Operand}(h:res P op=some (.call fx xs)):∃args ats,op = .call { callee:=.value fx,args:=args,argTypes:=ats }/\args.toList=xs:=by
 unfold res at h;split at h
 case h_4 =>
  exfalso
  obtain⟨_,_,h⟩:=bind_some h;obtain⟨_,_,h⟩:=bind_some h;obtain⟨_,_,h⟩:=bind_some h;have h:=Option.some.inj h;unfold ybbb at h;split at h
  .split at h
   .split at h
    .split at h<;>cases h
    .cases h
   .cases h
  .cases h
 case h_6 =>
  exfalso
  obtain⟨_,_,h⟩:=bind_some h;obtain⟨_,_,h⟩:=bind_some h;obtain⟨_,_,h⟩:=bind_some h;obtain⟨_,_,h⟩:=bind_some h;unfold yzd at h;split at h<;>cases h
 case h_7 =>
  exfalso
  obtain⟨_,_,h⟩:=bind_some h;split at h
  .obtain⟨_,_,h⟩:=bind_some h;obtain⟨_,_,h⟩:=bind_some h;unfold ysn at h;split at h
   .split at h<;>cases h
   .cases h
  .cases h
 case h_22 =>
  rename_i c
  obtain⟨cl,args,ats⟩:=c;unfold callOf at h;split at h
  .cases h;rename_i hcl;exact⟨args,ats,by rw[show cl=_ from hcl],rfl⟩
  .exfalso;split at h<;>cases h
  .exfalso
   split at h
   .split at h
    .split at h
     .split at h<;>cases h
     .cases h
    .cases h
   .cases h
  .cases h
  .cases h
  .cases h
 all_goals
  exfalso
  first
   |exact(ybru (Option.some.inj h)).elim
   |(cases h;done)
   |(obtain⟨_,_,h⟩:=bind_some h;cases h;done)
   |(obtain⟨_,_,h⟩:=bind_some h;obtain⟨_,_,h⟩:=bind_some h;cases h;done)
   |(obtain⟨_,_,h⟩:=bind_some h;obtain⟨_,_,h⟩:=bind_some h;split at h<;>cases h;done)
   |(obtain⟨_,_,h⟩:=bind_some h;split at h<;>first|(cases h;done)|(obtain⟨_,_,h⟩:=bind_some h;cases h;done)|(obtain⟨_,_,h⟩:=bind_some h;obtain⟨_,_,h⟩:=bind_some h;first|(cases h;done)|(split at h<;>cases h;done)|(obtain⟨_,_,h⟩:=bind_some h;cases h;done)))
def RunR(P:Program)(pr:List Nm)(lo:Nat)(F:AM)(ω:Om)(f:Fr)(m:Mem)(o:Oper)(d:Bool)(i an:Nat)(ps:List (Nat×Ent))(nx:List (Nat×SRec)->SS->Prop)(F0:AM):Prop :=
 ∃r2 f1 F' ω' s' rc rs',One P f o m r2/\f.put o.dst r2.v=some f1/\f1.n=f.n/\Conc lo F' ω' s' f1 r2.m/\(nx rs' s'/\(i,rc)∈rs'/\(d=true->OldI F0 rs' s' f1))/\Past F' ω' r2.m.next rc ⟨f,m,true,r2⟩/\ywk F' ω' r2.m.next rs' ps /\
  (d=true->∀p∈ps,zH an p.1=true\/(p.2.idle=true\/Ap i p.1 ⟨f,m,true,r2⟩ p.2)\/∃rc',Past F' ω' r2.m.next rc' p.2/\clash rc rc'=false/\p.2.r.m.next<=m.next)/\(Le F F'/\(∀x b,F' x=some b->F x=some b\/lo<=x)/\∀β∈pr,∀x,ω β=some x->ω' β=some x)
theorem ybzz {pr:List Nm}{mu:List FuncId}{d:Bool}{rs:List (Nat×SRec)}{i an:Nat}{nx:List (Nat×SRec)->SS->Prop}{sop:SOp}{ps:List (Nat×Ent)}(hc:Conc lo F ω s f m) (hres0:(res P o.op).getD .no=sop) (hnt:nt<=f.n) (hd:ycdy nt o.dst=true) (hps:ywk F ω m.next rs ps)
 {F0:AM}(hF0:Le F0 F) (hI:d=true->OldI F0 rs s f) (hbase:∀x b,F0 x=some b->∀p∈ps,x<p.2.m.next)
 (h:runO ⟨Ct P,Cm P,ItC P,pr,mu⟩ d rs s i an o.dst nx sop):RunR P pr lo F ω f m o d i an ps nx F0:=by
 have step : (∀X,xOp s o.dst sop=some X->X.c->OpS P lo F ω f m o X)->res P o.op=some sop->opO d rs i an o.dst nx (d&&ybqb s rs sop) (xOp s o.dst sop)->RunR P pr lo F ω f m o d i an ps nx F0:=by
  intro hall hres hk;unfold opO at hk;split at hk
  .rename_i X hX
   obtain⟨k1,k2,k3⟩:=hk;obtain⟨r0,ω',e1,e2,e3,e4,e5,e6,e7,e8,e9⟩:=hall X hX k1;have hxf:=ydtt hX;obtain⟨f1,g1,g2,g3⟩:=ybcc hd hnt r0.v;have hnext:=ynb m r0.e;have hle:m.next<=(m.app r0.e).next:=by rw[hnext];split<;>omega
   have hpm:=hps.mono (rs':=(i,X.r)::rs) (F':=F) (ω':=ω') (nxt':=(m.app r0.e).next) (fun x hx=>zC _ hx) (Le.refl _) e2 e5 (fun x b h=>.inl h) hle
   have hpast:Past F ω' (m.app r0.e).next X.r ⟨f,m,true,⟨r0.v,m.app r0.e,some r0.foot,some r0.e.mods⟩⟩:=by
    refine⟨⟨hle,zK _⟩,.inr ⟨⟨_,rfl,fun x hx=>?_⟩,.inr ⟨_,rfl,fun x hx=>?_⟩,fun β k z hk a b=>?_,fun hg x b hb q=>?_,fun a b=>?_⟩⟩
    .obtain⟨β,z,a,b⟩:=e7 x hx;exact⟨β,z,a,e2 _ _ b⟩
    .rcases e6 x hx with⟨β,z,a,b⟩|⟨a,y,b⟩
     .exact⟨(hc.apart β x z b).2.2,.inl ⟨β,z,a,e2 _ _ b⟩⟩
     .exact⟨hc.wf x y (hc.sub x y b),.inr (.inl ⟨a,y,b⟩)⟩
    .have a:m.next<=k:=a
     have b:k<(m.app r0.e).next:=b
     rw[hnext]at b;split at b
     .rename_i hq
      obtain⟨γ,z',c1,c2⟩:=e9 hq;obtain rfl:k=m.next:=by omega
      by_cases q:β=γ
      .rw[q];exact c1
      .exact absurd rfl (e3.inj β γ _ z _ z' hk c2 q)
     .omega
    .have:=hc.wf x b (hc.sub x b hb);have q1:m.next<=x:=q.1
     omega
    .show m.next=(m.app r0.e).next
     rw[hnext,e8 a];rfl
   have hnew:d=true->OldI F0 (yjw d o.dst (d&&ybqb s rs sop) ((i,X.r)::rs)) (X.s.put o.dst X.v) f1:=fun hdd=>by
    refine(hI hdd).put (fun t w hw=>by rw[hxf]at hw;exact hw) (fun t ht=>yky (yqe ht)) g3 fun k hk hy ho=>?_
    cases hold:ybqb s rs sop with
    |true=>exact(ycrg hc hF0 (hI hdd) hold hres hX k1 e1).1 ho
    | false =>
      rw[hold,hk,hdd]at hy;exact(yzu hy).elim
   refine⟨⟨r0.v,m.app r0.e,some r0.foot,some r0.e.mods⟩,f1,F,ω',X.s.put o.dst X.v,X.r,_,ybgy e1,g1,g2,e3.put g3 e4,⟨k3,ysp zB,hnew⟩,?_,hpm.mark,fun hdd p hp=>?_,Le.refl _,fun x b h=>.inl h,fun β _ x hx=>e2 β x hx⟩
   .exact hpast
   .rcases hpm p hp with q|⟨rc',a,b⟩
    .exact .inr (.inl (.inl q))
    .rcases hps p hp with q|⟨rc',a,b⟩
     .exact .inr (.inl (.inl q))
     .rcases ycfv k2 hdd a with q|⟨q,q8⟩
      .exact .inl q
      .refine .inr (.inl (.inr (ybkc (a:=X.r) (e:=⟨f,m,true,⟨r0.v,m.app r0.e,some r0.foot,some r0.e.mods⟩⟩) e3 hpast (b.mono (Le.refl _) e2 e5 (fun x b h=>.inl h) hle) b.le.2 q (q8.imp id fun hold ft hft x hx=>?_))));rw[hdd,zO]at hold;cases hft
       obtain⟨y,hy⟩:=(ycrg hc hF0 (hI hdd) hold hres hX k1 e1).2 x hx;exact hbase x y hy p hp
  .cases hk
 have hres:res P o.op=some sop:=by
  cases hq:res P o.op with
  |some x=>rw[hq]at hres0;exact congrArg some hres0
  |none=>rw[hq]at hres0;subst hres0;cases h
 cases sop with
 | call fx xs =>
   obtain⟨args,ats,hop,rfl⟩:=ychr hres
   change ybwa ⟨Ct P,Cm P,ItC P,pr,mu⟩ d rs s i an o.dst nx (s.get fx) (s.gets args.toList)at h
   unfold ybwa at h;split at h
   .rename_i g a b xs hf hx
    have main:∀{as:List SV}{Q:SV->Prop},Ct P g as Q->((as=a++xs++b/\(a++xs++b).any (owned 5)=false)\/(as=(a++xs++b).map (view s.o 5)/\allP (vok s.o 5) (a++xs++b)/\∀r,Q r->scalar 5 r=true)) ->
     (∀r,Q r->ybg d rs s i an o.dst nx (scalar 5 r) r)->RunR P pr lo F ω f m o d i an ps nx F0:=by
     intro as Q hct has hth;obtain⟨r2,F',rv,t1,t2,t3,t4,t5,t6,t7,t8,t9⟩:=ycee hc hop hf hx hct has;obtain⟨k2,k3⟩:=hth rv t2;obtain⟨f1,g1,g2,g3⟩:=ybcc hd hnt r2.v;have t8':∀x b,F' x=some b->F x=some b\/m.next<=x:=fun x b h=>(t8 x b h).imp id And.right
     have hpm:=hps.mono (rs':=(i,⟨[],[],[],true,true,!(scalar 5 rv),false⟩)::rs) (F':=F') (ω':=ω) (nxt':=r2.m.next) (fun x hx=>zC _ hx) t3 (Om.le_refl _) (fun _ _ _ h=>.inl h) t8' t6
     refine⟨r2,f1,F',ω,s.put o.dst rv,_,_,t1,g1,g2,t5.put g3 t4,⟨k3,ysp zB,fun hdd=>(hI hdd).put (fun t w hw=>hw) (fun t ht=>yky (yqe ht)) g3 fun k hk hy _=>by rw[hk,hdd]at hy;exact(yzu hy).elim⟩,?_,hpm.mark,fun hdd p hp=>?_,t3,fun x b h=>(t8' x b h).imp id (zU hc.nxt),fun β _ x hx=>hx⟩
     .refine⟨⟨t6,zK _⟩,.inr ⟨⟨[],t7,fun x hx=>(by cases hx)⟩,?_,fun β k z hk a b=>?_,fun hg x b hb q=>?_,fun a b=>(by cases b)⟩⟩
      .rcases t9 with⟨hs,ft,h1,h2⟩|⟨hs,h1⟩
       .refine .inr ⟨ft,h1,fun x hx=>⟨(h2 x hx).1,?_⟩⟩;rcases(h2 x hx).2 with⟨b,hb⟩|⟨β,z,hb⟩
        .exact .inr (.inl ⟨rfl,b,t3 _ _ hb⟩)
        .exact .inr (.inr ⟨rfl,β,z,hb⟩)
       .exact .inl ⟨rfl,by rw[hs];rfl,h1⟩
      .have:=(hc.apart β k z hk).2.2;have a:m.next<=k:=a
       omega
      .rcases t8 x b hb with h|⟨h,_⟩
       .have:=hc.wf x b (hc.sub x b h);have q1:m.next<=x:=q.1
        omega
       .have hg:(!(scalar 5 rv))=false:=hg;rw[h]at hg;cases hg
     .rcases hps p hp with q|⟨rc',a,b⟩
      .exact .inr (.inl (.inl q))
      .rcases ybjn k2 hdd a with q|q
       .exact .inl q
       .exact .inr (.inr ⟨rc',b.mono t3 (Om.le_refl _) (fun _ _ _ h=>.inl h) t8' t6,q,b.le.2⟩)
    have mutC : ycdu ⟨Ct P,Cm P,ItC P,pr,mu⟩ d rs s i an o.dst nx g (a++xs++b)->RunR P pr lo F ω f m o d i an ps nx F0:=by
     intro h;obtain⟨ρ,base,keep,kb,pr',o0,as,hlen,hw,hdom,hfit,hkept,hcm⟩:=h;obtain⟨r2,F',ω',rv,o',t1,t2,t3,t4,t5,t6,t7,t8,t9⟩:=ycaw hc hop hf hx hlen hw hdom hkept hcm;obtain⟨hd1,hnx⟩:=t2;obtain⟨c1,c2⟩:=t3 hd1;obtain⟨f1,g1,g2,g3⟩:=ybcc hd hnt r2.v;refine⟨r2,f1,F',ω',(yms s ρ base keep kb o').put o.dst (ren (nu ρ base) 5 rv),SRec.top,_,t1,g1,g2,c1.put g3 c2,⟨hnx,ysp zB,fun hdd=>(hI hdd).put (fun t w hw=>yww hw) (fun t ht=>ybtq (yky (yqe ht))) g3 fun k hk hy _=>by rw[hk,hdd]at hy;exact(yzu hy).elim⟩,⟨⟨t4,zK _⟩,.inl rfl⟩,ywk.mark fun p hp=>?_,fun hdd p hp=>?_,t5,t6,t7 hd1⟩
     .rcases hps p hp with q|⟨rc',a,b⟩
      .exact .inl q
      .rcases b.dim (F':=F') (ω':=ω') t4 with q|q
       .exact .inl q
       .exact .inr ⟨_,zC _ (List.mem_map.2 ⟨_,a,rfl⟩),q⟩
     .rcases hps p hp with q|⟨rc',a,b⟩
      .exact .inr (.inl (.inl q))
      .rcases Bool.or_eq_true_iff.1 hfit with hfit|hfit
       .rcases ybjn hfit hdd a with q|q
        .exact .inl q
        .refine .inr (.inl (.inl (b.pure ?_)));unfold clash at q;rw[zA,zA]at q;have:=q.1.1
         rwa [show SRec.top.mu=true from rfl,zO,zI]at this
       .rw[zF,zL]at hfit;rcases Bool.or_eq_true_iff.1 (List.all_eq_true.1 hfit.2 _ a)with q|q
        .exact .inl q
        .rcases Bool.or_eq_true_iff.1 q with q|q
         .exact .inr (.inl (.inl (b.pure q)))
         .exact .inr (.inl (.inr (ybhq (t9 hfit.1) t8 b q b.le.2)))
    split at h
    .exact mutC h
    split at h
    .rcases h with h|h
     .exact main h.2 (.inr ⟨rfl,h.1,fun r hr=>hr.1⟩) (fun r hr=>by rw[hr.1];exact hr.2)
     .exact mutC h
    .rename_i hown
     exact main h (.inl ⟨rfl,by simpa using hown⟩) (fun r hr=>hr)
   .cases h
 |_=>exact step (fun X hX hXc=>ybcl hc hres hX hXc) hres h
end
end Sh
end
section
namespace Sh
open Go Ev
section
variable {P:Program}{lo nt:Nat}{F F':AM}{ω ω':Om}{s:SS}{f:Fr}{m:Mem}{o:Oper}
theorem ybld:RV F ω (.tp []) undef:=RV.tp (L:=[]) .nil
theorem ybil{ops:List Oper}(h:o.guard=none):wantedA ops f o=some true:=by unfold wantedA;rw[h]
theorem ytx{ops:List Oper}{j d:Nat}{w:Bool}{oj:Oper}(h:o.guard=some (j,w))(hj:ops[j]?=some oj)(hd:oj.dst=some d){v:Value}(hv:f.t.get d=some v):wantedA ops f o=some (boolIs w v):=by
 unfold wantedA;rw[h];show wantedG ops f (j,w)=_;unfold wantedG;simp only[hj,hd];show ob (f.t.get d) _=_;rw[hv];rfl
theorem ybbs{ops:List Oper}{g:Option (Nat×Bool)}{t:Nat}{w:Bool}(h:guardOf ops g=some (some (t,w))):∃j oj,g=some (j,w)/\ops[j]?=some oj/\oj.dst=some t:=by
 unfold guardOf at h;split at h
 .cases h
 .rename_i j w'
  split at h
  .rename_i oj hj
   split at h
   .rename_i d hd;cases h;exact⟨j,oj,rfl,hj,hd⟩
   .cases h
  .cases h
theorem ybdp{ops:List Oper}{g:Option (Nat×Bool)}(h:guardOf ops g=some none):g=none:=by
 unfold guardOf at h;split at h
 .rfl
 .split at h
  .split at h<;>cases h
  .cases h
theorem Conc.lit(hc:Conc lo F ω s f m){t:Nat}{c:Bool}(h:look s.f t=some (.b c)):Conc lo F ω (s.put (some t) (.b c)) f m:=by
 refine⟨hc.wf,hc.low,hc.nxt,hc.sub,hc.own,hc.dom,hc.inj,hc.apart,fun k v hv=>?_⟩;have hv':(if t=k then some (SV.b c)else look s.f k)=some v:=hv
 split at hv'
 .rename_i q;subst q;cases hv';exact hc.fr _ _ h
 .exact hc.fr k v hv'
def Later(an:List Nat)(i:Nat)(es:List Ent)(ps:List (Nat×Ent)):Prop:=∀k e,es[k]?=some e->∀p∈ps,zH (an.getD (i+k) 0) p.1=true\/Ap (i+k) p.1 e p.2
def Among(an:List Nat)(i:Nat)(es:List Ent):Prop:=∀k q e d,q<k->es[k]?=some e->es[q]?=some d->zH (an.getD (i+k) 0) (i+q)=true\/Ap (i+k) (i+q) e d
theorem yxj{an:List Nat}{i:Nat}{e:Ent}{es:List Ent}{ps:List (Nat×Ent)}(h:Later an (i+1) es ((i,e)::ps))(h0:∀p∈ps,zH (an.getD i 0) p.1=true\/Ap i p.1 e p.2)(ha:Among an (i+1) es):Later an i (e::es) ps/\Among an i (e::es):=by
 refine⟨fun k x hk p hp=>?_,fun k q x d hlt hk hq=>?_⟩
 .cases k with
  |zero=>simp at hk;subst hk;simpa using h0 p hp
  |succ k=>have:=h k x (by simpa using hk) p (zC _ hp);rw[show i+(k+1)=i+1+k by omega];exact this
 .cases k with
  |zero=>omega
  | succ k =>
    rw[show i+(k+1)=i+1+k by omega]
    cases q with
    |zero=>simp at hq;subst hq;exact h k x (by simpa using hk) (i,e) zB
    |succ q=>rw[show i+(q+1)=i+1+q by omega];exact ha k q x d (by omega) (by simpa using hk) (by simpa using hq)
theorem OldI.lit{F0:AM}{rs:List (Nat×SRec)}{t:Nat}{c:Bool}(h:OldI F0 rs s f)(k:f.t.get t=some (.bool c)):OldI F0 rs (s.put (some t) (.b c)) f:=fun t' v hv hy ho=>by
 have hv:(if t=t' then some (SV.b c)else look s.f t')=some v:=hv
 by_cases q:t=t'
 .rw[if_pos q]at hv;cases hv;rw[<-q];exact⟨_,k,.b⟩
 .rw[if_neg q]at hv;exact h t' v hv hy ho
theorem yvb{pr:List Nm}{mu:List FuncId}{d:Bool}{K:SS->Prop}{ops:List Oper}{an:List Nat}{F0:AM}:∀(l:List Oper) (i:Nat) (sl:List SOper) (rs:List (Nat×SRec)) (ps:List (Nat×Ent)) (F:AM) (ω:Om) (s:SS) (f:Fr) (m:Mem),
 cmpL P nt ops an l i=some sl->ymz ⟨Ct P,Cm P,ItC P,pr,mu⟩ d K sl i rs s->Conc lo F ω s f m->nt<=f.n->ywk F ω m.next rs ps->Le F0 F->(d=true->OldI F0 rs s f)->(∀x b,F0 x=some b->x<m.next)->(∀x b,F0 x=some b->∀p∈ps,x<p.2.m.next) ->
 ∃x es s' F' ω',Ev.Trace P ops x l es f m/\Conc lo F' ω' s' x.f x.m/\K s'/\x.f.n=f.n/\(d=true->Later an i es ps/\Among an i es)/\(Le F F'/\(∀y b,F' y=some b->F y=some b\/lo<=y)/\∀β∈pr,∀x,ω β=some x->ω' β=some x)
 | [],i,sl,rs,ps,F,ω,s,f,m,hcmp,h,hc,hnt,hps,_,_,_,_=>by
   cases hcmp
   exact⟨⟨f,m⟩,[],s,F,ω,.nil,hc,h,rfl,fun _=>⟨fun k e hk=>by simp at hk,fun k q e d _ hk=>by simp at hk⟩,Le.refl _,fun y b h=>.inl h,fun β _ x hx=>hx⟩
 | o :: l,i,sl,rs,ps,F,ω,s,f,m,hcmp,h,hc,hnt,hps,hF0,hI,hlt,hbase=>by
   unfold cmpL at hcmp;obtain⟨sop,hres,hcmp⟩:=bind_some hcmp;have hres:=Option.some.inj hres;obtain⟨g,hg,hcmp⟩:=bind_some hcmp;obtain⟨sl',hl,hcmp⟩:=bind_some hcmp;split at hcmp
   .rename_i hd
    cases hcmp
    have wanted:∀(s:SS),Conc lo F ω s f m->(d=true->OldI F0 rs s f)->wantedA ops f o=some true->runO ⟨Ct P,Cm P,ItC P,pr,mu⟩ d rs s i (an.getD i 0) o.dst (ymz ⟨Ct P,Cm P,ItC P,pr,mu⟩ d K sl' (i+1)) sop ->
     ∃x es s' F' ω',Ev.Trace P ops x (o::l) es f m/\Conc lo F' ω' s' x.f x.m/\K s'/\x.f.n=f.n/\(d=true->Later an i es ps/\Among an i es)/\(Le F F'/\(∀y b,F' y=some b->F y=some b\/lo<=y)/\∀β∈pr,∀x,ω β=some x->ω' β=some x):=by
     intro s hc hI hw hrun;obtain⟨r2,f1,F1,ω1,s1,rc,rs1,t1,t2,t3,t4,⟨t5,tm,tI⟩,t6,t7,t8,t9,t10,t11⟩:=ybzz hc hres hnt hd hps hF0 hI hbase hrun;have hnext:m.next<=r2.m.next:=t6.le.1
     obtain⟨x,es,s',F',ω',u1,u2,u3,u4,u5,u6,u7,u8⟩:=yvb l (i+1) sl' rs1 ((i,⟨f,m,true,r2⟩)::ps) F1 ω1 s1 f1 r2.m hl t5 t4 (by rw[t3];exact hnt)
      (fun p hp=>by
        rcases List.mem_cons.1 hp with q|q
        .subst q;exact .inr ⟨rc,tm,t6⟩
        .exact t7 p q) (hF0.trans t9) tI (fun x b h=>zJ (hlt x b h) hnext) (fun x b h p hp=>by
        rcases List.mem_cons.1 hp with q|q
        .subst q;exact hlt x b h
        .exact hbase x b h p q)
     refine⟨x,⟨f,m,true,r2⟩::es,s',F',ω',.cons (e:=⟨f,m,true,r2⟩) ⟨hw,fun _=>t1,fun q=>by cases q⟩ t2 u1,u2,u3,by rw[u4,t3],fun hdd=>?_,t9.trans u6,fun y b h=>(u7 y b h).elim (t10 y b) .inr,fun β hβ x hx=>u8 β hβ x (t11 β hβ x hx)⟩
     obtain⟨v1,v2⟩:=u5 hdd;refine yxj v1 (fun p hp=>?_) v2;rcases t8 hdd p hp with q|(q|q)|⟨rc',a,b,c⟩
     .exact .inl q
     .exact .inr (.inr (.inl q))
     .exact .inr q
     .exact .inr (ybkc t4 t6 a c (ybac b).1 (.inl (ybac b).2))
    have idle:∀(s:SS),Conc lo F ω s f m->(d=true->OldI F0 rs s f)->wantedA ops f o=some false->ymz ⟨Ct P,Cm P,ItC P,pr,mu⟩ d K sl' (i+1) rs (s.put o.dst (.tp [])) ->
     ∃x es s' F' ω',Ev.Trace P ops x (o::l) es f m/\Conc lo F' ω' s' x.f x.m/\K s'/\x.f.n=f.n/\(d=true->Later an i es ps/\Among an i es)/\(Le F F'/\(∀y b,F' y=some b->F y=some b\/lo<=y)/\∀β∈pr,∀x,ω β=some x->ω' β=some x):=by
     intro s hc hI hw hrun;obtain⟨f1,g1,g2,g3⟩:=ybcc hd hnt undef;have hidle:Ent.idle ⟨f,m,false,⟨undef,m,some [],some []⟩⟩=true:=yoh rfl
     obtain⟨x,es,s',F',ω',u1,u2,u3,u4,u5,u6⟩:=yvb l (i+1) sl' rs ((i,⟨f,m,false,⟨undef,m,some [],some []⟩⟩)::ps) F ω _ f1 m hl hrun (hc.put g3 ybld) (by rw[g2];exact hnt)
      (fun p hp=>by
        rcases List.mem_cons.1 hp with q|q
        .subst q;exact .inl hidle
        .exact hps p q) hF0 (fun hdd=>(hI hdd).put (fun t w hw=>hw) (fun t ht=>ht) g3 fun k hk hy ho=>ybld) hlt (fun x b h p hp=>by
        rcases List.mem_cons.1 hp with q|q
        .subst q;exact hlt x b h
        .exact hbase x b h p q)
     refine⟨x,⟨f,m,false,⟨undef,m,some [],some []⟩⟩::es,s',F',ω',.cons (e:=⟨f,m,false,⟨undef,m,some [],some []⟩⟩) ⟨hw,fun q=>(by cases q),fun _=>rfl⟩ g1 u1,u2,u3,by rw[u4,g2],fun hdd=>?_,u6⟩
     obtain⟨v1,v2⟩:=u5 hdd;exact yxj v1 (fun p hp=>.inr (.inl hidle)) v2
    cases g with
    |none=>exact wanted s hc hI (ybil (ybdp hg)) h
    | some tw =>
      obtain⟨t,w⟩:=tw;obtain⟨j,oj,e1,e2,e3⟩:=ybbs hg
      change yti ⟨Ct P,Cm P,ItC P,pr,mu⟩ d rs s i (an.getD i 0) o.dst (ymz ⟨Ct P,Cm P,ItC P,pr,mu⟩ d K sl' (i+1)) sop t w (look s.f t)at h
      unfold yti at h;split at h
      .rename_i c hl'
       obtain⟨u,k1,k2⟩:=hc.fr t _ hl';cases k2.bool_inv
       have hw:=ytx e1 e2 e3 k1;have hb:boolIs w (.bool c)=(c==w):=rfl
       by_cases hcw:c=w
       .subst hcw;exact wanted _ (hc.lit hl') (fun hdd=>(hI hdd).lit k1) (by rw[hw,hb];simp) (h.1 rfl)
       .have hcn:c = !w:=by cases c<;>cases w<;>simp_all
        refine idle _ (by rw[<-hcn];exact hc.lit hl') (fun hdd=>by rw[<-hcn];exact(hI hdd).lit k1) (by rw[hw,hb];simp[hcw]) (h.2 hcn)
      .rename_i hl'
       obtain⟨u,k1,k2⟩:=hc.fr t _ hl';obtain⟨L,rfl,hL⟩:=k2.tp_inv;exact idle s hc hI (by rw[ytx e1 e2 e3 k1];rfl) h
      .cases h
   .cases hcmp
end
end Sh
end
section
namespace Sh
open Go Ev
noncomputable def cmp(P:Program)(nt:Nat):Code->Option SC
 |.skip=>some .skip
 |.seq a b=>(cmp P nt a).bind fun a=>(cmp P nt b).bind fun b=>some (.seq a b)
 |.cond c a b=>(cmp P nt a).bind fun a=>(cmp P nt b).bind fun b=>some (.cond c a b)
 |.block id b=>(cmp P nt b).bind fun b=>some (.block id b)
 |.loop b=>(cmp P nt b).bind fun b=>some (.loop b)
 |.exit id=>some (.exit id)
 |.ret=>some .ret
 |.region _ ops d=>(cmpL P nt ops.toList (ancs ops.toList []).reverse ops.toList 0).bind fun l=>if d=false\/slotsOk ops.toList (ancs ops.toList []).reverse=true then some (.reg d l)else none
 |.rangeFunc g ps a b=>(cmp P nt a).bind fun sa=>(cmp P nt b).bind fun sb=>if (noRF a=true/\noRF b=true)/\(ps.toList.all fun p=>decide (p<nt))=true then some (.range g ps.toList sa sb)else none
 |_=>some .no
def ybsb(n:SS->Prop)(K:Exit->SS->Prop):Exit->SS->Prop
 |.normal,s=>n s
 |e,s=>K e s
def ybea(id:Nat)(K:Exit->SS->Prop):Exit->SS->Prop
 |.exit i,s=>if i=id then K .normal s else K (.exit i) s
 |e,s=>K e s
def SS.lit(s:SS)(c:Operand)(x:Bool):SS:=match c with
 |.tmp t=>s.put (some t) (.b x)
 |_=>s
def ybwl(t:Option SV)(c:Operand)(s:SS)(a b:SS->Prop):Prop:=match t with
 |some (.b x)=>(x=true->a (s.lit c true))/\(x=false->b (s.lit c false))
 |_=>False
def ybvs(pr:List Nm)(I:Nat->SS->Prop)(n:Nat)(K:Exit->SS->Prop):Exit->SS->Prop
 |.normal,t=>∃n' u,n'<n/\I n' u/\Weak pr t u
 |e,t=>K e t
def ydip(pr:List Nm)(body:(Exit->SS->Prop)->SS->Prop)(K:Exit->SS->Prop)(s:SS):Prop :=
 ∃I:Nat->SS->Prop,(∃n t,I n t/\Weak pr s t)/\∀n t,I n t->body (ybvs pr I n K) t
def puts(s:SS):List Nat->List SV->Option SS
 |p::ps,v::vs=>puts (s.put (some p) v) ps vs
 |[],[]=>some s
 |_,_=>none
def ydbw(n:SS->Prop):Exit->SS->Prop
 |.normal,s=>n s
 |_,_=>False
def ybep(K:Exit->SS->Prop)(t:SS)(fin:Own->Prop):Exit->SS->Prop
 |.normal,u=>fin u.o
 |.ret,u=>K .ret ⟨t.f,u.o⟩
 |.exit id,u=>K (.exit id) ⟨t.f,u.o⟩
 |_,_=>False
def ybsx(C:CC)(gx:Operand)(ps:List Nat)(ra rb:CC->(Exit->SS->Prop)->SS->Prop)(K:Exit->SS->Prop)(s:SS):Prop :=
 ∃ (pr:List Nm) (I:Nat->SS->Prop) (g:FuncId) (caps:List SV) (S:ItS),C.it g caps S/\((∀β∈C.pr,β∈pr)/\∀β∈S.pr,β∈pr)/\(∃t,I 0 t/\Weak C.pr s t)/\(∀t,I 0 t->t.get gx=some (.fn g [] caps)) /\
   (∀k t,I k t->S.own k t.o/\allQ (fun p=>cln (nmem pr) 5 p.2=true) t.f) /\
   (∀k t,I k t->k<S.n->∃t1,puts t ps (S.el k)=some t1/\ra ⟨C.ct,C.cm,C.it,pr,C.mu⟩ (ydbw (rb ⟨C.ct,C.cm,C.it,pr,C.mu⟩ (ybep K t fun o=>S.own k o/\∃u,I (k+1) u/\Weak pr ⟨t.f,S.adv k o⟩ u))) t1) /\
   (∀t,I S.n t->K .normal t)
def vcR:SC->CC->(Exit->SS->Prop)->SS->Prop
 |.skip,_,K,s=>K .normal s
 |.seq a b,C,K,s=>vcR a C (ybsb (vcR b C K) K) s
 |.cond c a b,C,K,s=>ybwl (s.get c) c s (vcR a C K) (vcR b C K)
 |.block id b,C,K,s=>vcR b C (ybea id K) s
 |.loop b,C,K,s=>ydip C.pr (vcR b C) K s
 |.exit id,_,K,s=>K (.exit id) s
 |.ret,_,K,s=>K .ret s
 |.reg d ops,C,K,s=>ymz C d (K .normal) ops 0 [] s
 |.range g ps a b,C,K,s=>ybsx C g ps (vcR a) (vcR b) K s
 |.no,_,_,_=>False
def vc(C:CC)(c:SC)(K:Exit->SS->Prop)(s:SS):Prop:=vcR c C K s
section
variable {P:Program}{lo nt:Nat}{F F':AM}{ω ω':Om}{s:SS}{f f':Fr}{m m':Mem}
theorem yth{ops:Array Oper}{x:FM}{rr:Option Nat}:∀{l:List Oper}{es:List Ent}{f:Fr}{m:Mem},Ev.Trace P ops.toList x l es f m->Wf m ->
 Grow m x.m/\∀φ M w a Q,Rel φ M w->Sub m M->FrR φ f a->ygh φ m.next x.m.next->(∀a' w' φ' M',Ev.Good φ M w m x.m φ' M' w'->FrR φ' x.f a'->a'.defers=a.defers->Q .normal a' w')->wpListIn (wr rr) 0 P ops Q l a w
 |_,_,_,_,.nil,hw=>⟨Grow.refl hw,fun φ M w a Q hR hs hf _ hQ=>hQ a w φ M (Ev.Good.refl hR hs) hf rfl⟩
 | _,_,_,_,.cons (o:=o) (l:=l) (e:=e) (es:=es) (f1:=f1) he hp h,hw=>by
   obtain⟨h1,h2,h3⟩:=he;cases hwt:e.w with
   | false =>
     have hr:=h3 hwt;rw[hr]at hp h;obtain⟨g1,g2⟩:=yth h hw;refine⟨g1,fun φ M w a Q hR hs hf hfr hQ=>wpListIn_step fun K hK=>?_⟩;rw[yff (φ:=φ) h1 (fun _ _ _ d v _ _ _ hv=>hf.get d v hv),hwt];exact⟨fun _ _=>trivial,hK _ _ (g2 φ M w _ Q hR hs (hf.put hp VR.undef) hfr fun a' w' φ' M' q1 q2 q3=>hQ a' w' φ' M' q1 q2 (q3.trans (Ev.Act.put_defers _ _ _)))⟩
   | true =>
     have hone:=h2 hwt;have hpu:=hone.pure hw;obtain⟨g1,g2⟩:=yth h hpu.ext.wf;refine⟨Grow.trans ⟨hpu.ext,hpu.low⟩ g1,fun φ M w a Q hR hs hf hfr hQ=>wpListIn_step fun K hK=>?_⟩;rw[yff (φ:=φ) h1 (fun _ _ _ d v _ _ _ hv=>hf.get d v hv),hwt];refine opIn hone.plain (hone.seq hw hR hs hf (hfr.left g1.ext.next) fun v' w' φ' M' hg hv=>hK _ _ ?_)
     refine g2 φ' M' w' _ Q hg.rel hg.sub ((hf.mono hg.le).put hp hv) (hg.fresh hpu.ext hfr) fun a' w'' φ'' M'' hg' hf' hd=>?_;exact hQ a' w'' φ'' M'' (Ev.Good.trans hpu.ext g1.ext g1.low hg hg') hf' (hd.trans (Ev.Act.put_defers _ _ _))
def Grew(pr:List Nm)(lo:Nat)(F:AM)(ω:Om)(F':AM)(ω':Om):Prop:=Le F F'/\(∀y b,F' y=some b->F y=some b\/lo<=y)/\∀β∈pr,∀x,ω β=some x->ω' β=some x
theorem Grew.refl(pr:List Nm)(lo:Nat)(F:AM)(ω:Om):Grew pr lo F ω F ω:=⟨Le.refl _,fun _ _ h=>.inl h,fun _ _ _ h=>h⟩
theorem Grew.trans{pr:List Nm}{lo:Nat}{F F' F'':AM}{ω ω' ω'':Om}(a:Grew pr lo F ω F' ω')(b:Grew pr lo F' ω' F'' ω''):Grew pr lo F ω F'' ω'' :=
 ⟨a.1.trans b.1,fun y x h=>(b.2.1 y x h).elim (a.2.1 y x) .inr,fun β hβ x hx=>b.2.2 β hβ x (a.2.2 β hβ x hx)⟩
def ybzy(P:Program)(pr:List Nm)(lo:Nat)(c:Code)(F:AM)(ω:Om)(f:Fr)(m:Mem)(K:Exit->SS->Prop):Prop :=
 ∃e f' m' s' F' ω',ycn P c f m e f' m'/\Conc lo F' ω' s' f' m'/\K e s'/\f'.n=f.n/\Grew pr lo F ω F' ω'
theorem ybda {pr:List Nm}{mu:List FuncId}(hmix:P.follows .mixedOrders=true) {id:Nat}{ops:Array Oper}{d:Bool}{l:List SOper}{K:Exit->SS->Prop}(hcmp:cmpL P nt ops.toList (ancs ops.toList []).reverse ops.toList 0=some l) (hsl:d=false\/slotsOk ops.toList (ancs ops.toList []).reverse=true)
 (h:ymz ⟨Ct P,Cm P,ItC P,pr,mu⟩ d (K .normal) l 0 [] s) (hc:Conc lo F ω s f m) (hnt:nt<=f.n):ybzy P pr lo (.region id ops d) F ω f m K:=by
 obtain⟨x,es,s',F',ω',t1,t2,t3,t4,t5,t6⟩:=yvb (an:=(ancs ops.toList []).reverse) (F0:=F) ops.toList 0 l [] [] F ω s f m hcmp h hc hnt (fun p hp=>by cases hp) (Le.refl _) (fun _ t v hv _ ho=>by
  obtain⟨u,h1,h2⟩:=hc.fr t v hv;exact⟨u,h1,yep ho h2⟩) (fun x b h=>hc.wf x b (hc.sub x b h)) (fun x b _ p hp=>by cases hp)
 refine⟨.normal,x.f,x.m,s',F',ω',?_,t2,t3,t4,t6⟩;cases d with
 | false =>
   have hall:=fun rr=>yth (rr:=rr) t1 hc.wf;exact⟨(hall none).1,fun φ M w a r _ hR hs hf hfr=>wpIn_region_list ((hall r).2 φ M w a _ hR hs hf hfr fun a' w' φ' M' hgd hf' hd=>⟨rfl,φ',M',hgd,hf',Df.same hd⟩)⟩
 | true =>
   rcases hsl with q|hsl
   .cases q
   .obtain⟨_,ham⟩:=t5 rfl;have hall:=fun rr=>ybcs (rr:=rr) hmix hsl t1 (fun k q e d hlt hk hq=>by have:=ham k q e d hlt hk hq;simpa using this) hc.wf
    exact⟨(hall none).1,fun φ M w a r _ hR hs hf hfr=>(hall r).2 id φ M w a _ hR hs hf hfr fun a' w' φ' M' hgd hf' hd=>⟨rfl,φ',M',hgd,hf',Df.same hd⟩⟩
inductive Rounds (P:Program) (b:Code):Nat->Fr->Mem->Exit->Fr->Mem->Prop
 |stop {f m e f' m'} (h:ycn P b f m e f' m') (he:e ≠ .normal):Rounds P b 1 f m e f' m'
 |next {n f m f1 m1 e f' m'} (h:ycn P b f m .normal f1 m1) (hr:Rounds P b n f1 m1 e f' m'):Rounds P b (n+1) f m e f' m'
theorem Rounds.grow{b:Code}{n:Nat}{e:Exit}(h:Rounds P b n f m e f' m'):Grow m m'/\e ≠ .normal:=by
 induction h with
 |stop h he=>exact⟨h.1,he⟩
 |next h _ ih=>exact⟨h.1.trans ih.1,ih.2⟩
theorem Rounds.run{b:Code}{rr:Option Nat}(hrr:rr.isSome=true->noRF b=true){n:Nat}{f f':Fr}{m m':Mem}{e:Exit}(h:Rounds P b n f m e f' m'):
 ∀φ M w a Q,Rel φ M w->Sub m M->FrR φ f a->ygh φ m.next m'.next->(∀a' w' φ' M',Ev.Good φ M w m m' φ' M' w'->FrR φ' f' a'->Df w w' a a'->Q e a' w')->Code.roundsIn (wr rr) 0 P b Q n a w:=by
 induction h with
 | stop hs1 he =>
   intro φ M w a Q hR hs hf hfr hQ;rw[roundsIn_succ];refine wpIn_mono (hs1.2 φ M w a rr hrr hR hs hf hfr) ?_;rintro e' a' w' ⟨rfl,φ',M',hg,hf',hd⟩;exact ykx he (hQ a' w' φ' M' hg hf' hd)
 | next hs1 hr ih =>
   intro φ M w a Q hR hs hf hfr hQ;have hg2:=hr.grow.1;rw[roundsIn_succ];refine wpIn_mono (hs1.2 φ M w a rr hrr hR hs hf (hfr.left hg2.ext.next)) ?_
   rintro e' a' w' ⟨rfl,φ',M',hg,hf',hd⟩;exact ih φ' M' w' a' Q hg.rel hg.sub hf' (hg.fresh hs1.1.ext hfr) fun a'' w'' φ'' M'' hg' hf'' hd'=>hQ a'' w'' φ'' M'' (Ev.Good.trans hs1.1.ext hg2.ext hg2.low hg hg') hf'' (hd.trans hg.wg.size hg.rel hg'.wg hd')
theorem Rounds.sound{b:Code}{n:Nat}{e:Exit}(h:Rounds P b n f m e f' m'):ycn P (.loop b) f m e f' m' :=
 ⟨h.grow.1,fun φ M w a _ hn hR hs hf hfr=>wpIn_loop_rounds n (Rounds.run (b:=b) (fun q=>hn q) h φ M w a _ hR hs hf hfr fun _ _ φ' M' hgd hf' hd=>⟨rfl,φ',M',hgd,hf',hd⟩)⟩
theorem ybmi(hc:Conc lo F ω s f m){c:Operand}{x:Bool}(h:s.get c=some (.b x)):Conc lo F ω (s.lit c x) f m:=by
 cases c with
 |tmp t=>exact hc.lit h
 |_=>exact hc
theorem Grew.less{pr pr':List Nm}(h:∀β∈pr,β∈pr')(g:Grew pr' lo F ω F' ω'):Grew pr lo F ω F' ω':=⟨g.1,g.2.1,fun β hb x hx=>g.2.2 β (h β hb) x hx⟩
theorem ybbl:∀{ps:List Nat}{vs:List SV}{us:List Value}{s:SS}{f:Fr}{t:SS},Conc lo F ω s f m->puts s ps vs=some t->RVL F ω vs us->(ps.all fun p=>decide (p<nt))=true->nt<=f.n ->
 ∃f1,ybhr us ps f=some f1/\Conc lo F ω t f1 m/\f1.n=f.n
 |[],[],[],s,f,t,hc,h,.nil,_,_=>by cases h;exact⟨f,rfl,hc,rfl⟩
 | p::ps,v::vs,u::us,s,f,t,hc,h,.cons a b,hb,hn=>by
   simp only[List.all_cons,zF,decide_eq_true_eq]at hb;obtain⟨f1,h1,h2,h3⟩:=ybcc (f:=f) (nt:=nt) (d:=some p) (by simpa[ycdy]using hb.1) hn u
   obtain⟨f2,g1,g2,g3⟩:=ybbl (hc.put h3 a) h b hb.2 (by rw[h2];exact hn)
   have h1:Fr.putD u p f=some f1:=h1;exact⟨f2,by show(Fr.putD u p f).bind _=_;rw[h1];exact g1,g2,by rw[g3,h2]⟩
 |[],_::_,_,_,_,_,_,h,_,_,_=>by cases h
 |_::_,[],_,_,_,_,_,h,_,_,_=>by cases h
theorem ycin{l:List Nm}{x:Nm}(h:nmem l x=true):x∈l:=yhp.1 h
theorem Conc.back(hc:Conc lo F ω s f m){t:SS}{pr:List Nm}(hc':Conc lo F' ω' t f' m')(hcl:allQ (fun p=>cln (nmem pr) 5 p.2=true) s.f)(hF:Le F F')(ho:∀β∈pr,∀x,ω β=some x->ω' β=some x):Conc lo F' ω' ⟨s.f,t.o⟩ f m' :=
 ⟨hc'.wf,hc'.low,hc'.nxt,hc'.sub,hc'.own,hc'.dom,hc'.inj,hc'.apart,fun x v hv=>by
   obtain⟨u,h1,h2⟩:=hc.fr x v hv;exact⟨u,h1,(ybjp (L:=nmem pr) (fun β y hb hy=>ho β (ycin hb) y hy) h2 (ycj hcl _ (ydl hv))).mono hF (Om.le_refl _)⟩⟩
theorem yxn{mu:List FuncId}(hmix:P.follows .mixedOrders=true):∀(c:Code) (sc:SC),cmp P nt c=some sc->∀(pr:List Nm) (K:Exit->SS->Prop) (s:SS) (lo:Nat) (F:AM) (ω:Om) (f:Fr) (m:Mem),vc ⟨Ct P,Cm P,ItC P,pr,mu⟩ sc K s->Conc lo F ω s f m->nt<=f.n->ybzy P pr lo c F ω f m K:=by
 intro c
 induction c with
 | skip =>
   intro sc h pr K s lo F ω f m hv hc hn;cases h
   exact⟨.normal,f,m,s,F,ω,⟨Grow.refl hc.wf,fun φ M w a r _ hR hs hf _=>wpIn_skip ⟨rfl,φ,M,Ev.Good.refl hR hs,hf,Df.same rfl⟩⟩,hc,hv,rfl,Grew.refl _ _ _ _⟩
 | exit id =>
   intro sc h pr K s lo F ω f m hv hc hn;cases h
   exact⟨.exit id,f,m,s,F,ω,⟨Grow.refl hc.wf,fun φ M w a r _ hR hs hf _=>wpIn_exit ⟨rfl,φ,M,Ev.Good.refl hR hs,hf,Df.same rfl⟩⟩,hc,hv,rfl,Grew.refl _ _ _ _⟩
 | ret =>
   intro sc h pr K s lo F ω f m hv hc hn;cases h
   exact⟨.ret,f,m,s,F,ω,⟨Grow.refl hc.wf,fun φ M w a r _ hR hs hf _=>wpIn_ret ⟨rfl,φ,M,Ev.Good.refl hR hs,hf,Df.same rfl⟩⟩,hc,hv,rfl,Grew.refl _ _ _ _⟩
 | region id ops d =>
   intro sc h pr K s lo F ω f m hv hc hn;obtain⟨l,h1,h⟩:=bind_some h;split at h
   .rename_i hsl
    cases h
    exact ybda hmix h1 hsl hv hc hn
   .cases h
 | seq a b iha ihb =>
   intro sc h pr K s lo F ω f m hv hc hn;obtain⟨sa,h1,h⟩:=bind_some h;obtain⟨sb,h2,h⟩:=bind_some h;cases h
   obtain⟨e,f1,m1,s1,F1,ω1,t1,t2,t3,t4,t5⟩:=iha sa h1 pr _ s lo F ω f m hv hc hn
   by_cases he:e = .normal
   .subst he;obtain⟨e2,f2,m2,s2,F2,ω2,u1,u2,u3,u4,u5⟩:=ihb sb h2 pr K s1 lo F1 ω1 f1 m1 t3 t2 (by rw[t4];exact hn)
    exact⟨e2,f2,m2,s2,F2,ω2,t1.seq u1,u2,u3,by rw[u4,t4],t5.trans u5⟩
   .refine⟨e,f1,m1,s1,F1,ω1,⟨t1.1,fun φ M w a' r hnr hR hs hf hfr=>wpIn_seq (wpIn_mono (t1.2 φ M w a' r (fun q=>(ysy (hnr q)).1) hR hs hf hfr) ?_)⟩,t2,by cases e<;>first|exact absurd rfl he|exact t3,t4,t5⟩
    intro e' a'' w' hp;exact ykx (by rw[hp.1];exact he) hp
 | cond c a b iha ihb =>
   intro sc h pr K s lo F ω f m hv hc hn;obtain⟨sa,h1,h⟩:=bind_some h;obtain⟨sb,h2,h⟩:=bind_some h;cases h
   change ybwl (s.get c) c s (vc ⟨Ct P,Cm P,ItC P,pr,mu⟩ sa K) (vc ⟨Ct P,Cm P,ItC P,pr,mu⟩ sb K)at hv
   unfold ybwl at hv;split at hv
   .rename_i x hx
    obtain⟨u,k1,k2⟩:=hc.get hx;cases k2.bool_inv
    have key:∀z:Code,ybzy P pr lo z F ω f m K->(if x then a else b)=z->ybzy P pr lo (.cond c a b) F ω f m K:=by
     rintro z ⟨e,f1,m1,s1,F1,ω1,t1,t2,t3,t4,t5⟩ he;refine⟨e,f1,m1,s1,F1,ω1,⟨t1.1,fun φ M w a' r hnr hR hs hf hfr=>wpIn_cond (t:=x) ?_ (by rw[he];exact t1.2 φ M w a' r (fun q=>by have:=ybch (hnr q);rw[<-he];cases x<;>first|exact this.2|exact this.1) hR hs hf hfr)⟩,t2,t3,t4,t5⟩
     exact((yii (fun t v _ ht=>hf.get t v ht) k1).bool_iff x).2 rfl
    cases x with
    |true=>exact key a (iha sa h1 pr K _ lo F ω f m (hv.1 rfl) (ybmi hc hx) hn) rfl
    |false=>exact key b (ihb sb h2 pr K _ lo F ω f m (hv.2 rfl) (ybmi hc hx) hn) rfl
   .cases hv
 | block id b ih =>
   intro sc h pr K s lo F ω f m hv hc hn;obtain⟨sb,h1,h⟩:=bind_some h;cases h
   obtain⟨e,f1,m1,s1,F1,ω1,t1,t2,t3,t4,t5⟩:=ih sb h1 pr _ s lo F ω f m hv hc hn
   have out:∀e',(∀φ M w a a' w',ycew φ M w m e f1 m1 a e a' w'->Exit.inBlock id (ycew φ M w m e' f1 m1 a) e a' w')->K e' s1->ybzy P pr lo (.block id b) F ω f m K:=by
    intro e' hh hk;refine⟨e',f1,m1,s1,F1,ω1,⟨t1.1,fun φ M w a r hnr hR hs hf hfr=>wpIn_block (wpIn_mono (t1.2 φ M w a r hnr hR hs hf hfr) ?_)⟩,t2,hk,t4,t5⟩;intro e2 a' w' hp;have he2:=hp.1;subst he2;exact hh φ M w a a' w' hp
   cases e with
   | exit i =>
     change (if i=id then K .normal s1 else K (.exit i) s1)at t3
     by_cases hi:i=id
     .subst hi;rw[if_pos rfl]at t3;exact out .normal (fun φ M w a a' w' hp=>by simp only[Exit.inBlock,if_true];exact⟨rfl,hp.2⟩) t3
     .rw[if_neg hi]at t3;exact out (.exit i) (fun φ M w a a' w' hp=>by simp only[Exit.inBlock,if_neg hi];exact hp) t3
   |normal=>exact out .normal (fun φ M w a a' w' hp=>hp) t3
   |ret=>exact out .ret (fun φ M w a a' w' hp=>hp) t3
   |_=>exact out _ (fun φ M w a a' w' hp=>hp) t3
 | loop b ih =>
   intro sc h pr K s lo F ω f m hv hc hn;obtain⟨sb,h1,h⟩:=bind_some h;cases h
   obtain⟨I,⟨n0,t0,hI0,hw0⟩,hstep⟩:=hv
   have main:∀n t F ω f m,I n t->Conc lo F ω t f m->nt<=f.n->∃N e f' m' s' F' ω',Rounds P b N f m e f' m'/\Conc lo F' ω' s' f' m'/\K e s'/\f'.n=f.n/\Grew pr lo F ω F' ω':=by
    intro n
    induction n using Nat.strongRecOn with
    | _ n ihn =>
      intro t F ω f m hI hc hn;obtain⟨e,f1,m1,s1,F1,ω1,t1,t2,t3,t4,t5⟩:=ih sb h1 pr _ t lo F ω f m (hstep n t hI) hc hn
      by_cases he:e = .normal
      .subst he;obtain⟨n',u,hlt,hI',hwk⟩:=t3;obtain⟨ω2,F2',w1,w2,hc2,w3⟩:=hwk lo F1 ω1 f1 m1 t2;obtain⟨N,e2,f2,m2,s2,F2,ω3,r1,r2,r3,r4,r5⟩:=ihn n' hlt u F2' ω2 f1 m1 hI' hc2 (by rw[t4];exact hn)
       exact⟨N+1,e2,f2,m2,s2,F2,ω3,.next t1 r1,r2,r3,by rw[r4,t4],t5.trans (Grew.trans ⟨w1,w2,w3⟩ r5)⟩
      .exact⟨1,e,f1,m1,s1,F1,ω1,.stop t1 he,t2,by cases e<;>first|exact absurd rfl he|exact t3,t4,t5⟩
   obtain⟨ω2,F2',w1,w2,hc2,w3⟩:=hw0 lo F ω f m hc;obtain⟨N,e,f',m',s',F',ω',r1,r2,r3,r4,r5⟩:=main n0 t0 F2' ω2 f m hI0 hc2 hn;exact⟨e,f',m',s',F',ω',r1.sound,r2,r3,r4,Grew.trans ⟨w1,w2,w3⟩ r5⟩
 | rangeFunc gx ps a b iha ihb =>
   intro sc h pr K s lo F ω f m hv hc hn;obtain⟨sa,h1,h⟩:=bind_some h;obtain⟨sb,h2,h⟩:=bind_some h;split at h
   .rename_i hck
    cases h
    obtain⟨pr',I,g,caps,S,hit,⟨hp1,hp2⟩,⟨t0,hI0,hw0⟩,hget,hinv,hround,hend⟩:=hv;obtain⟨ω2,F2,w1,w2,hc2,w3⟩:=hw0 lo F ω f m hc;obtain⟨u,hu1,hu2⟩:=hc2.get (hget t0 hI0)
    obtain⟨B,rfl,hB⟩:∃B:List Value,u = .func (.func g) #[] B.toArray/\RVL F2 ω2 caps B:=by
     cases hu2 with
     |fn h1 h2=>cases h1;exact⟨_,rfl,h2⟩
    obtain⟨T,hT,hTn,hall⟩:=hit lo F2 ω2 t0 f m B hc2 hB (hinv 0 t0 hI0).1
    have main:∀d k t F' ω' m',S.n-k=d->k<=S.n->I k t->Conc lo F' ω' t f m'->Le F2 F'->(∀β∈pr',∀x,ω2 β=some x->ω' β=some x) ->
     ∃e m'' s' F'' ω'',RRounds P f ps.toList a b T k m' e m''/\Conc lo F'' ω'' s' f m''/\K e s'/\Grew pr' lo F' ω' F'' ω'':=by
     intro d
     induction d with
     | zero =>
       intro k t F' ω' m' hd hk hI hck' hF ho;obtain rfl:k=S.n:=by omega
       have hp:=(hall F' ω' t f m' _ hF (fun β hb=>ho β (hp2 β hb)) hck' (zK _) (hinv _ t hI).1).1;refine⟨.normal,m',t,F',ω',?_,hck',hend t hI,Grew.refl _ _ _ _⟩;rw[<-hTn]at hp ⊢;exact .done hp
     | succ d ihd =>
       intro k t F' ω' m' hd hk hI hck' hF ho;have hlt:k<S.n:=by omega
       obtain⟨hown,hcl⟩:=hinv k t hI;obtain⟨hpre,hnx⟩:=hall F' ω' t f m' k hF (fun β hb=>ho β (hp2 β hb)) hck' hk hown;obtain⟨hel,_⟩:=hnx hlt;obtain⟨t1,hput,hra⟩:=hround k t hI hlt;obtain⟨f1,q1,q2,q3⟩:=ybbl hck' hput hel hck.2 hn;obtain⟨e1,f3,m1,s1,F3,ω3,a1,a2,a3,a4,a5⟩:=iha sa h1 pr' _ t1 lo F' ω' f1 m' hra q2 (by rw[q3];exact hn)
       have he1:e1 = .normal:=by cases e1<;>first|rfl|exact a3.elim
       subst he1;obtain⟨e2,f4,m2,s2,F4,ω4,b1,b2,b3,b4,b5⟩:=ihb sb h2 pr' _ s1 lo F3 ω3 f3 m1 a3 a2 (by rw[a4,q3];exact hn)
       have hG:=a5.trans b5;have hback:=hck'.back b2 hcl hG.1 hG.2.2
       have stop:(e2 = .ret\/∃id,e2 = .exit id)->K e2 ⟨t.f,s2.o⟩->∃e m'' s' F'' ω'',RRounds P f ps.toList a b T k m' e m''/\Conc lo F'' ω'' s' f m''/\K e s'/\Grew pr' lo F' ω' F'' ω'':=fun he hK =>
        ⟨e2,m2,⟨t.f,s2.o⟩,F4,ω4,.stop (by rw[hTn];exact hlt) hpre q1 a1 he b1,hback,hK,hG⟩
       cases e2 with
       | normal =>
         obtain⟨ho2,u,hIu,hwk⟩:=b3;have hF4:Le F2 F4:=hF.trans hG.1;have ho4:∀β∈pr',∀x,ω2 β=some x->ω4 β=some x:=fun β hb x hx=>hG.2.2 β hb x (ho β hb x hx);obtain⟨hpre2,hnx2⟩:=hall F4 ω4 ⟨t.f,s2.o⟩ f m2 k hF4 (fun β hb=>ho4 β (hp2 β hb)) hback hk ho2;obtain⟨ω5,F5,v1,v2,hc5,v3⟩:=hwk lo F4 ω4 f _ (hnx2 hlt).2;obtain⟨e,m'',s',F6,ω6,r1,r2,r3,r4⟩:=ihd (k+1) u F5 ω5 _ (by omega) hlt hIu hc5 (hF4.trans v1) (fun β hb x hx=>v3 β hb x (ho4 β hb x hx))
         exact⟨e,m'',s',F6,ω6,.next (by rw[hTn];exact hlt) hpre q1 a1 b1 hpre2 r1,r2,r3,hG.trans (Grew.trans ⟨v1,v2,v3⟩ r4)⟩
       |ret=>exact stop (.inl rfl) b3
       |exit id=>exact stop (.inr ⟨id,rfl⟩) b3
       |_=>exact b3.elim
    obtain⟨e,m'',s',F'',ω'',r1,r2,r3,r4⟩:=main _ 0 t0 F2 ω2 m rfl (zAA _) hI0 hc2 (Le.refl _) (fun _ _ _ h=>h);exact⟨e,f,m'',s',F'',ω'',ycdj hT hu1 hck.1.1 hck.1.2 hc.wf r1,r2,r3,rfl,Grew.trans ⟨w1,w2,w3⟩ (r4.less hp1)⟩
   .cases h
 |_=>intro sc h pr K s lo F ω f m hv;cases h;exact hv.elim
end
end Sh
end
section
namespace Sh
open Go Ev
inductive SR where
 |t (n:Nat)
 |c (a:Nat) (ag:Bool) (n:Nat)
noncomputable def cmpR(P:Program):List ResultVar->Option (List SR)
 |[]=>some []
 |.tmp t::l=>(cmpR P l).bind fun r=>some (.t t::r)
 |.cell a t::l=>(P.underlying t).bind fun d=>(P.info? t).bind fun i=>(cmpR P l).bind fun r=>some (.c a (isAggD d) i.size::r)
def resX(s:SS):List SR->(List SV->Prop)->Prop
 |[],K=>K []
 | .t n::l,K=>match look s.f n with
   |some v=>resX s l fun vs=>K (v::vs)
   |none=>False
 | .c a ag n::l,K=>match look s.f a with
   | some p=>(match ywf s ag n p with
     |some r=>r.c/\resX s l fun vs=>K (r.v::vs)
     |none=>False)
   |none=>False
def yid:List SV->SV
 |[v]=>v
 |vs=>.tp vs
def retK(rs:List SR)(Q:SV->Prop):Exit->SS->Prop
 |.normal,s=>resX s rs fun vs=>vok s.o 5 (yid vs)/\Q (view s.o 5 (yid vs))
 |.ret,s=>resX s rs fun vs=>vok s.o 5 (yid vs)/\Q (view s.o 5 (yid vs))
 |_,_=>False
def yhn(pr:List Nm)(s:SS)(Q:SV->Own->Prop)(v:SV):Prop :=
 ∃r o',Weak pr ⟨[(0,v)],s.o⟩ ⟨[(0,r)],o'⟩/\(cln (live o') 5 r=true/\allQ (fun p=>ycz (live o') p.2) o'/\allQ (fun β=>live o' β=true) pr)/\Q r o'
def retM(rs:List SR)(pr:List Nm)(Q:SV->Own->Prop):Exit->SS->Prop
 |.normal,s=>resX s rs fun vs=>yhn pr s Q (yid vs)
 |.ret,s=>resX s rs fun vs=>yhn pr s Q (yid vs)
 |_,_=>False
section
variable {P:Program}{lo nt:Nat}{F F':AM}{ω ω':Om}{s:SS}{f f':Fr}{m m':Mem}
theorem yyr (hc:Conc lo F ω s f m):∀{l:List ResultVar}{rs:List SR}{K:List SV->Prop},cmpR P l=some rs->resX s rs K->∃vs us,resA P m f l=some us/\RVL F ω vs us/\K vs
 |[],rs,K,h,hk=>by cases h;exact⟨[],[],rfl,.nil,hk⟩
 | .tmp t::l,rs,K,h,hk=>by
   obtain⟨r,h1,h⟩:=bind_some h;cases h
   unfold resX at hk;split at hk
   .rename_i v hv
    obtain⟨vs,us,g1,g2,g3⟩:=yyr hc h1 hk;obtain⟨u,e1,e2⟩:=hc.fr t v hv;refine⟨v::vs,u::us,?_,.cons e2 g2,g3⟩;unfold resA;rw[e1,g1]
   .cases hk
 | .cell a t :: l,rs,K,h,hk=>by
   obtain⟨d,h1,h⟩:=bind_some h;obtain⟨i,h2,h⟩:=bind_some h;obtain⟨r,h3,h⟩:=bind_some h;cases h
   unfold resX at hk;split at hk
   .rename_i p hp
    split at hk
    .rename_i q hq
     obtain⟨hqc,hk⟩:=hk;obtain⟨vs,us,g1,g2,g3⟩:=yyr hc h3 hk;obtain⟨u,e1,e2⟩:=hc.fr a p hp
     let o : Oper := ⟨none, .load t (.tmp a), 0, "", #[], none⟩
     obtain⟨r0,ω',k1,k2,k3,k4,_⟩:=ycxu (P:=P) (o:=o) hc rfl h1 h2 (x:=.tmp a) hp hq hqc;have hev:ob (f.get (.tmp a)) (evLoad P t m)=some r0:=k1;have hfa:f.get (.tmp a)=some u:=e1;rw[hfa]at hev
     have hu:∃ad w,u = .pointer (some ad)/\loadA P m t ad=some w/\r0=⟨w,.none,[ad.block]⟩:=by
      change evLoad P t m u=some r0 at hev
      unfold evLoad at hev;split at hev
      .rename_i ad
       obtain⟨w,w1,w2⟩:=yg hev;cases w2
       exact⟨ad,w,rfl,w1,rfl⟩
      .cases hev
     obtain⟨ad,w,rfl,w1,rfl⟩:=hu
     have hω : RV F ω q.v w:=by
      unfold ywf at hq;split at hq
      .split at hq
       .rename_i v hv
        cases hq
        obtain⟨bk,y,T,N,e',zz,L,hpp,q1,q2,q3,q4,_⟩:=e2.rf_inv;cases hpp
        obtain⟨z1,z2⟩:=yul hv q4;obtain⟨w',w1',w2'⟩:=yso (F:=F) h1 h2 (hc.sub _ _ q1) (q:=y) q2 q3 z1 z2;rw[Nat.add_zero]at w1';rw[w1]at w1';cases w1'
        exact w2'.mono (Le.refl _) (yxo _)
       .cases hq
      .rename_i β ai j
       split at hq
       .rename_i b hb
        split at hq
        .split at hq
         .rename_i v hv
          cases hq
          obtain⟨k,z,hk',hpp⟩:=e2.pt_inv;cases hpp
          obtain⟨rfl,T,L,g1',g2'⟩:=hc.ownAt hb hk';obtain⟨l1,l2,_,l3⟩:=g2' ai hqc;obtain⟨z1,z2⟩:=yul hv l2;have hqc':ai<b.n:=hqc;obtain⟨w',w1',w2'⟩:=yso (F:=F) h1 h2 g1' (q:=ai*b.z) (L:=L ai) (by rw[l1];have:=yjo (z:=b.z) hqc';omega) (fun y hy=>l3 y (by omega)) z1 z2
          rw[w1]at w1';cases w1'
          exact w2'
         .cases hq
        .cases hq
       .cases hq
      .cases hq
     refine⟨q.v::vs,w::us,?_,.cons hω g2,g3⟩;unfold resA;have e1':f.t.get a=some (.pointer (some ad)):=e1;rw[e1',g1];simp only;rw[w1]
    .cases hk
   .cases hk
theorem ybkj{vs:List SV}{us:List Value}(h:RVL F ω vs us):RV F ω (yid vs) (oneOrTuple us):=by
 cases h with
 |nil=>exact .tp .nil
 | cons a b =>
   cases b with
   |nil=>exact a
   |cons c d=>exact .tp (.cons a (.cons c d))
theorem yckt(hnn:yoz P){g:FuncId}{fn:Func}{c:Code}(hg:P.funcs[g]?=some fn)(hb:fn.body=some c){us ws:List Value}{e:Exit}{m1:Mem}(he:e = .normal\/e = .ret)(h:ycn P c ⟨zAB us.length fn.ntmps,tOf us⟩ (enterM m) e f' m1)(hr:resA P m1 f' fn.results.toList=some ws):ybw P (.call g us m) (.call (oneOrTuple ws) m1):=by
 intro hw;refine⟨⟨h.1.ext.next,h.1.ext.dom,h.1.ext.old,h.1.ext.wf⟩,fun φ M w args' hR hs hv hfr=>.inl ⟨yby hnn hg hb _ _,?_⟩⟩
 have key:Calls P g args'.toArray w (fun e w'=>∃v',e = .returned v'/\∃φ' M',Ev.Good φ M w (enterM m) m1 φ' M' w'/\VR φ' (oneOrTuple ws) v'):=by
  refine callsIn_wide.1 (callsIn_of_wp_marks (n:=0) hg hb trivial ?_);refine wpIn_mono (h.2 φ M w _ none (fun q=>by cases q) hR hs (yvs hv fn.ntmps) hfr) ?_
  rintro e' a' w' ⟨rfl,φ',M',hgd,hf',hd⟩;obtain⟨ms,hms,hmk⟩:=hd;have hl:=yro hgd hf' hr hmk;rw[show ms=a'.defers by rw[hms];simp]at hl
  rcases he with rfl|rfl
  .exact hl
  .exact hl
 refine key.mono ?_;rintro e' w' ⟨v',rfl,φ',M',hgd,hvr⟩;exact⟨v',rfl,φ',M',⟨hgd.le,hgd.out,hgd.rel,hgd.sub,hgd.frame,hgd.wg⟩,hvr⟩
theorem ychg (hmix:P.follows .mixedOrders=true) (hnn:yoz P) {g:FuncId}{fn:Func}{c:Code}{sc:SC}{rs:List SR}(hg:P.funcs[g]?=some fn) (hb:fn.body=some c) (hcmp:cmp P fn.ntmps c=some sc) (hrs:cmpR P fn.results.toList=some rs)
 {mu:List FuncId}{args:List SV}{Q:SV->Prop}(h:vc ⟨Ct P,Cm P,ItC P,[],mu⟩ sc (retK rs Q) ⟨slots args 0,[]⟩):Ct P g args Q:=by
 classical
 intro G m us hw hle hargs
 have hc0:Conc m.next G om0 ⟨slots args 0,[]⟩ ⟨zAB us.length fn.ntmps,tOf us⟩ (enterM m):=by
  refine⟨hw,zK _,zK _,hle,fun β b h=>(by cases h),fun β _=>rfl,fun β γ k z k' z' h=>(by cases h),fun β k z h=>(by cases h),fun t v hv=>?_⟩
  obtain⟨_,h2⟩:=ykr hv;obtain⟨u,h3,h4⟩:=hargs.get h2;exact⟨u,by rw[ycq];simpa using h3,h4⟩
 obtain⟨e,f',m1,s',F',ω',t1,t2,t3,t4,t5⟩:=yxn hmix c sc hcmp _ _ _ m.next G om0 _ (enterM m) h hc0 (zX _ _)
 have hres:(e = .normal\/e = .ret)/\resX s' rs fun vs=>vok s'.o 5 (yid vs)/\Q (view s'.o 5 (yid vs)):=by
  cases e with
  |normal=>exact⟨.inl rfl,t3⟩
  |ret=>exact⟨.inr rfl,t3⟩
  |_=>cases t3
 obtain⟨he,hres⟩:=hres;obtain⟨vs,ws,r1,r2,r3,r4⟩:=yyr t2 hrs hres;have hs0:ybw P (.call g us m) (.call (oneOrTuple ws) m1):=yckt hnn hg hb he t1 r1;have hm1:m.next<=m1.low:=t2.low
 have hold:∀{i x},m.b.get i=some x->i<m.next:=fun {i x} q=>hw i x q
 have hrv:=ybkj r2;have hview:∀H:AM,Le F' H->(∀β k z,ω' β=some (some (k,z))->∀b,m1.b.get k=some b->H k=some b)->RV H om0 (view s'.o 5 (yid vs)) (oneOrTuple ws):=fun H h1 h2=>yiy t2 h1 h2 hrv r3
 .have hs1:ybw P (.call g us m) (.call (oneOrTuple ws) ⟨m1.next,yhc m.b m1.b,m1.low⟩):=by
   intro hwm;obtain⟨ext,hcall⟩:=hs0 hwm
   have hget:∀{i x},(yhc m.b m1.b).get i=some x->m.b.get i=some x\/m1.b.get i=some x:=fun {i x} q=>by
    rw[ydf]at q;split at q
    .rename_i y hy;cases q;exact .inl hy
    .exact .inr q
   refine⟨⟨ext.next,fun i b hq=>?_,fun i b h1 h2 hq=>?_,fun i b hq=>?_⟩,fun φ M w args' hR hs ha hf=>?_⟩
   .rcases hget hq with q|q
    .exact .inl ⟨b,q⟩
    .exact ext.dom i b q
   .rcases hget hq with q|q
    .exact q
    .exact ext.old i b h1 h2 q
   .rcases hget hq with q|q
    .exact zJ (hold q) ext.next
    .exact ext.wf i b q
   .refine(hcall φ M w args' hR hs ha hf).mono ?_;rintro e' w' ⟨v',rfl,φ',M',hgd,hv⟩;refine⟨v',rfl,φ',M',⟨hgd.le,hgd.out,hgd.rel,fun i b hq=>?_,hgd.frame,hgd.wg⟩,hv⟩;rcases hget hq with q|q
    .have hi:=hold q;rw[hgd.frame i (fun z=>by omega) (.inr (zJ hi hm1))]
     exact hs i b q
    .exact hgd.sub i b q
  have hnone:∀{i},m.next<=i->m.b.get i=none:=fun {i} q=>by
   cases hh:m.b.get i with
   |none=>rfl
   |some x=>have:=hold hh;omega
  refine⟨_,_,view s'.o 5 (yid vs),hs1,hm1,fun i b hq=>?_,r4,hview _ (fun i b hq=>?_) (fun β k z hk b hq=>?_)⟩
  .show(yhc m.b m1.b).get i=some b;rw[ydf,hq]
  .unfold frsh;rcases t5.2.1 i b hq with q|q
   .rw[if_neg (by have:=hold (hle i b q);omega)];exact q
   .rw[if_pos q];show(yhc m.b m1.b).get i=some b;rw[ydf,hnone q];exact t2.sub i b hq
  .unfold frsh;have:=(t2.apart β k z hk).2.1;rw[if_pos this];show(yhc m.b m1.b).get k=some b;rw[ydf,hnone this];exact hq
theorem ybum (hmix:P.follows .mixedOrders=true) (hnn:yoz P) {g:FuncId}{fn:Func}{c:Code}{sc:SC}{rs:List SR}(hg:P.funcs[g]?=some fn) (hb:fn.body=some c) (hcmp:cmp P fn.ntmps c=some sc) (hrs:cmpR P fn.results.toList=some rs)
 {pr:List Nm}{mu:List FuncId}{o:Own}{args:List SV}{Q:SV->Own->Prop}(h:vc ⟨Ct P,Cm P,ItC P,pr,mu⟩ sc (retM rs pr Q) ⟨slots args 0,o⟩):Cm P g pr o args Q:=by
 classical
 intro lo G ω f m us hc hargs
 have hc0:Conc lo G ω ⟨slots args 0,o⟩ ⟨zAB us.length fn.ntmps,tOf us⟩ (enterM m):=by
  refine⟨hc.wf,hc.nxt,hc.nxt,hc.sub,hc.own,hc.dom,hc.inj,hc.apart,fun t v hv=>?_⟩;obtain⟨_,h2⟩:=ykr hv;obtain⟨u,h3,h4⟩:=hargs.get h2;exact⟨u,by rw[ycq];simpa using h3,h4⟩
 obtain⟨e,f',m1,s',F',ω',t1,t2,t3,t4,t5⟩:=yxn hmix c sc hcmp _ _ _ lo G ω _ (enterM m) h hc0 (zX _ _)
 have hres:(e = .normal\/e = .ret)/\resX s' rs fun vs=>yhn pr s' Q (yid vs):=by
  cases e with
  |normal=>exact⟨.inl rfl,t3⟩
  |ret=>exact⟨.inr rfl,t3⟩
  |_=>cases t3
 obtain⟨he,hres⟩:=hres;obtain⟨vs,ws,r1,r2,r,o',hwk,hcl,hq⟩:=yyr t2 hrs hres;have hrv:=ybkj r2
 have hc1:Conc lo F' ω' ⟨[(0,yid vs)],s'.o⟩ ⟨1,tOf [oneOrTuple ws]⟩ m1:=⟨t2.wf,t2.low,t2.nxt,t2.sub,t2.own,t2.dom,t2.inj,t2.apart,fun t v hv=>by
  have hv:(if 0=t then some (yid vs)else none)=some v:=hv
  split at hv
  .rename_i q;subst q;cases hv;exact⟨oneOrTuple ws,by rw[ycq];rfl,hrv⟩
  .cases hv⟩
 obtain⟨ω2,F2,w1,w2,hc2,w3⟩:=hwk lo F' ω' _ m1 hc1;obtain⟨u,q1,q2⟩:=hc2.fr 0 r (by show(if 0=0 then some r else none)=some r;rw[if_pos rfl])
 rw[ycq]at q1;cases q1
 have hG:=t5.trans ⟨w1,w2,w3⟩;exact⟨_,m1,r,o',F2,ω2,yckt hnn hg hb he t1 r1,⟨hc2.wf,hc2.low,hc2.nxt,hc2.sub,hc2.own,hc2.dom,hc2.inj,hc2.apart,fun t v hv=>by cases hv⟩,q2,hG.1,hG.2.1,hG.2.2,hcl,hq⟩
end
end Sh
end
section
namespace Sh
open Go Ev
theorem Sim.refl(v:SV):Sim v v:=fun _ _ _ h=>h
theorem yc(v:SV):Sim v v↔True:=⟨fun _=>trivial,fun _=>Sim.refl v⟩
theorem ybb{k k':IntKind}{a b:Int}:Sim (.i k a) (.i k' b)↔k=k'/\a=b :=
 ⟨fun h=>by have:=h (fun _=>none) om0 _ .i;cases this;exact⟨rfl,rfl⟩,fun h=>by rw[h.1,h.2];exact Sim.refl _⟩
theorem yig{a b:Bool}:Sim (.b a) (.b b)↔a=b :=
 ⟨fun h=>by have:=h (fun _=>none) om0 _ .b;cases this;rfl,fun h=>by rw[h];exact Sim.refl _⟩
theorem ykn{z n:Nat}{g g':Nat->List SV}(h:∀k,k<n->g k=g' k):Sim (.sl z n g) (.sl z n g'):=by
 intro F ω u hr;rcases hr.sl_inv with⟨rfl,h0⟩|⟨bk,p,cp,T,N,e,zz,L,rfl,g1,g2,g3,g4,g5,g6,g7⟩
 .exact .sl0 h0
 .exact .sl g1 g2 g3 g4 g5 (fun k hk=>h k hk▸g6 k hk) (fun k hk=>h k hk▸g7 k hk)
theorem ybfy {pr:List Nm}(ρ:List (Nat×(Nat->Nm))) (vir:List Nat) (fr:List Nm) {s t:SS}(h1:yze s.o fr) (h2:ybfr (rid ρ) vir t.o) (h3:allQ (yuc (rid ρ) vir fr t.o s) t.f) (h4:allQ (yma (rid ρ) vir fr t.o s) t.o)
 (hp:allQ (fun β=>live t.o β=true/\vir.elem β.1=false/\rid ρ β=β) pr):Weak pr s t:=WeakBy.weak ⟨h1,h2,h3,h4⟩ hp
theorem yddr(ρ:List (Nat×(Nat->Nm)))(vir:List Nat)(fr:List Nm){s t:SS}(h1:yze s.o fr)(h2:ybfr (rid ρ) vir t.o)(h3:allQ (yuc (rid ρ) vir fr t.o s) t.f)(h4:allQ (yma (rid ρ) vir fr t.o s) t.o):Weak [] s t:=ybfy ρ vir fr h1 h2 h3 h4 trivial
theorem yh(ρ:List (Nat×(Nat->Nm)))(vir:List Nat)(fr:List Nm){s t:SS}(h:yze s.o fr/\ybfr (rid ρ) vir t.o/\allQ (yuc (rid ρ) vir fr t.o s) t.f/\allQ (yma (rid ρ) vir fr t.o s) t.o):Weak [] s t:=yddr ρ vir fr h.1 h.2.1 h.2.2.1 h.2.2.2
theorem ydd{pr:List Nm}(ρ:List (Nat×(Nat->Nm)))(vir:List Nat)(fr:List Nm){s t:SS}(h:(yze s.o fr/\ybfr (rid ρ) vir t.o/\allQ (yuc (rid ρ) vir fr t.o s) t.f/\allQ (yma (rid ρ) vir fr t.o s) t.o)/\allQ (fun β=>live t.o β=true/\vir.elem β.1=false/\rid ρ β=β) pr):Weak pr s t:=ybfy ρ vir fr h.1.1 h.1.2.1 h.1.2.2.1 h.1.2.2.2 h.2
theorem yuw(o:Own):∀(n:Nat) (v:SV),ydk [] o n v=v
 |0,_=>rfl
 | n + 1,v=>by
   have ml:∀l:List SV,l.map (ydk [] o n)=l:=fun l=>by
    induction l with
    |nil=>rfl
    |cons x l ih=>rw[zT,yuw o n x,ih]
   cases v with
   |ag c=>show SV.ag _=_;rw[ml]
   |tp c=>show SV.tp _=_;rw[ml]
   |fn g a b=>show SV.fn g _ _=_;rw[ml,ml]
   |_=>rfl
theorem ybgz(o:Own):∀(n:Nat) (v:SV),pok [] o n v↔True
 |0,_=>zAC
 | n + 1,v=>by
   have ml:∀l:List SV,allP (pok [] o n) l:=fun l=>by
    induction l with
    |nil=>trivial
    |cons x l ih=>exact⟨(ybgz o n x).2 trivial,ih⟩
   cases v with
   |ag c=>exact⟨fun _=>trivial,fun _=>ml _⟩
   |tp c=>exact⟨fun _=>trivial,fun _=>ml _⟩
   |fn g a b=>exact⟨fun _=>trivial,fun _=>⟨ml _,ml _⟩⟩
   |pt β i j=>exact⟨fun _=>trivial,fun _ h=>by cases h⟩
   |os β p k c=>exact⟨fun _=>trivial,fun _ h=>by cases h⟩
   |_=>exact zAC
theorem ydhv{n:Nat}(fr:List Nm)(o:Own)(k:IntKind)(x:Int):ydk fr o (n+1) (.i k x)=(.i k x):=rfl
theorem ydtu{n:Nat}(fr:List Nm)(o:Own)(k:IntKind)(x:Int):pok fr o (n+1) (.i k x)=True:=rfl
theorem ydia{n:Nat}(fr:List Nm)(o:Own)(x:Bool):ydk fr o (n+1) (.b x)=(.b x):=rfl
theorem ydtj{n:Nat}(fr:List Nm)(o:Own)(x:Bool):pok fr o (n+1) (.b x)=True:=rfl
theorem ydiu{n:Nat}(fr:List Nm)(o:Own)(x:Value):ydk fr o (n+1) (.a x)=(.a x):=rfl
theorem ydtg{n:Nat}(fr:List Nm)(o:Own)(x:Value):pok fr o (n+1) (.a x)=True:=rfl
theorem ycfs{n:Nat}(fr:List Nm)(o:Own)(z k:Nat)(g:Nat->List SV):ydk fr o (n+1) (.sl z k g)=(.sl z k g):=rfl
theorem ydkx{n:Nat}(fr:List Nm)(o:Own)(z k:Nat)(g:Nat->List SV):pok fr o (n+1) (.sl z k g)=True:=rfl
theorem ycie{n:Nat}(fr:List Nm)(o:Own)(c:List SV):ydk fr o (n+1) (.rf c)=(.rf c):=rfl
theorem ydqc{n:Nat}(fr:List Nm)(o:Own)(c:List SV):pok fr o (n+1) (.rf c)=True:=rfl
theorem ycct{n:Nat}(fr:List Nm)(o:Own)(Q:(Nat->Option ABlk)->Value->Prop)(v:SV):ydk fr o (n+1) (.ex Q v)=(.ex Q v):=rfl
theorem ydkt{n:Nat}(fr:List Nm)(o:Own)(Q:(Nat->Option ABlk)->Value->Prop)(v:SV):pok fr o (n+1) (.ex Q v)=True:=rfl
theorem yceo{n:Nat}(fr:List Nm)(o:Own)(c:List SV):ydk fr o (n+1) (.ag c) = .ag (c.map (ydk fr o n)):=rfl
theorem ydqg{n:Nat}(fr:List Nm)(o:Own)(c:List SV):pok fr o (n+1) (.ag c)=allP (pok fr o n) c:=rfl
theorem ycen{n:Nat}(fr:List Nm)(o:Own)(c:List SV):ydk fr o (n+1) (.tp c) = .tp (c.map (ydk fr o n)):=rfl
theorem ydqw{n:Nat}(fr:List Nm)(o:Own)(c:List SV):pok fr o (n+1) (.tp c)=allP (pok fr o n) c:=rfl
theorem ycgq{n:Nat}(fr:List Nm)(o:Own)(g:FuncId)(a b:List SV):ydk fr o (n+1) (.fn g a b) = .fn g (a.map (ydk fr o n)) (b.map (ydk fr o n)):=rfl
theorem ydob{n:Nat}(fr:List Nm)(o:Own)(g:FuncId)(a b:List SV):pok fr o (n+1) (.fn g a b)=(allP (pok fr o n) a/\allP (pok fr o n) b):=rfl
theorem ycdz{n:Nat}(fr:List Nm)(o:Own)(β:Nm)(i j:Nat):ydk fr o (n+1) (.pt β i j)=(if nmem fr β=true then(match lookO o β with|some b=>.rf ((b.g i).drop j)|none=>.bad)else .pt β i j):=rfl
theorem ydjh{n:Nat}(fr:List Nm)(o:Own)(β:Nm)(i j:Nat):pok fr o (n+1) (.pt β i j)=(nmem fr β=true->(match lookO o β with|some b=>i<b.n/\j<=b.z|none=>False)):=rfl
theorem ycja{n:Nat}(fr:List Nm)(o:Own)(β:Nm)(p k:Nat)(ap:Bool):ydk fr o (n+1) (.os β p k ap)=(if nmem fr β=true then(match lookO o β with|some b=>.sl b.z k (fun q=>b.g (p+q))|none=>.bad)else .os β p k ap):=rfl
theorem ydlj{n:Nat}(fr:List Nm)(o:Own)(β:Nm)(p k:Nat)(ap:Bool):pok fr o (n+1) (.os β p k ap)=(nmem fr β=true->(match lookO o β with|some b=>p+k<=b.n|none=>False)):=rfl
theorem ydew(k:IntKind)(x:Int):SV.cells (.i k x)=[(.i k x)]:=rfl
theorem ydbr(x:Bool):SV.cells (.b x)=[(.b x)]:=rfl
theorem ydbd(x:Value):SV.cells (.a x)=[(.a x)]:=rfl
theorem ychs(z k:Nat)(g:Nat->List SV):SV.cells (.sl z k g)=[(.sl z k g)]:=rfl
theorem ycje(c:List SV):SV.cells (.rf c)=[(.rf c)]:=rfl
theorem ycig(Q:(Nat->Option ABlk)->Value->Prop)(v:SV):SV.cells (.ex Q v)=[(.ex Q v)]:=rfl
theorem ychp(c:List SV):SV.cells (.tp c)=[(.tp c)]:=rfl
theorem ycgu(g:FuncId)(a b:List SV):SV.cells (.fn g a b)=[(.fn g a b)]:=rfl
theorem ycgv(β:Nm)(i j:Nat):SV.cells (.pt β i j)=[(.pt β i j)]:=rfl
theorem ycem(β:Nm)(p k:Nat)(ap:Bool):SV.cells (.os β p k ap)=[(.os β p k ap)]:=rfl
theorem ycim(c:List SV):SV.cells (.ag c)=c:=rfl
theorem ybk {pr:List Nm}{body:(Exit->SS->Prop)->SS->Prop}{K:Exit->SS->Prop}{s:SS}{σ:Type}(st:σ->SS) (inv:σ->Prop) (μ:σ->Nat) (x0:σ) (h0:inv x0) (hs:Weak pr s (st x0))
 (hstep:∀x,inv x->body (ybvs pr (fun n t=>∃y,inv y/\μ y=n/\t=st y) (μ x) K) (st x)):ydip pr body K s :=
 ⟨fun n t=>∃y,inv y/\μ y=n/\t=st y,⟨μ x0,st x0,⟨x0,h0,rfl,rfl⟩,hs⟩,fun n t ⟨y,h1,h2,h3⟩=>by subst h2 h3;exact hstep y h1⟩
theorem yj{pr:List Nm}{σ:Type}{st:σ->SS}{inv:σ->Prop}{μ:σ->Nat}{n:Nat}{K:Exit->SS->Prop}{t:SS}(y:σ)(h1:inv y)(h2:μ y<n)(h3:Weak pr t (st y)):ybvs pr (fun n t=>∃y,inv y/\μ y=n/\t=st y) n K .normal t :=
 ⟨μ y,st y,h2,⟨y,h1,rfl,rfl⟩,h3⟩
def Returns(P:Program)(g:FuncId)(args:List SV)(r:SV):Prop:=Ct P g args (· = r)
theorem Returns.of{P:Program}{g:FuncId}{args:List SV}{r:SV}(h:Ct P g args fun x=>Sim x r):Returns P g args r:=fun G m us h1 h2 h3=>by
 obtain⟨v,m',x,a,b,c,d,e⟩:=h G m us h1 h2 h3;exact⟨v,m',r,a,b,c,rfl,d _ _ _ e⟩
theorem Returns.use{P:Program}{g:FuncId}{args:List SV}{r:SV}{Q:SV->Prop}(h:Returns P g args r)(hq:Q r):Ct P g args Q:=h.mono fun _ e=>e▸hq
def SimL:List SV->List SV->Prop
 |[],[]=>True
 |v::l,w::k=>Sim v w/\SimL l k
 |_,_=>False
theorem SimL.rvl{F:AM}{ω:Om}:∀{l k:List SV}{L:List Value},SimL l k->RVL F ω l L->RVL F ω k L
 |[],[],_,_,.nil=>.nil
 |_::_,_::_,_,h,.cons a b=>.cons (h.1 _ _ _ a) (h.2.rvl b)
 |[],_::_,_,h,_=>h.elim
 |_::_,[],_,h,_=>h.elim
theorem ydmb{a b:List SV}(h:SimL a b)(h1:b.all one1=true):Sim (.rf a) (.rf b):=fun F ω u hr=>by
 obtain⟨bk,p,T,N,e,zz,L,rfl,g1,g2,g3,g4,_⟩:=hr.rf_inv;exact .rf g1 g2 g3 (h.rvl g4) h1
theorem yun{a b:List SV}(h:SimL a b):Sim (.ag a) (.ag b):=fun F ω u hr=>by
 obtain⟨L,rfl,hl⟩:=hr.ag_inv;exact .ag (h.rvl hl)
theorem ycnn{a b:List SV}(h:SimL a b):Sim (.tp a) (.tp b):=fun F ω u hr=>by
 obtain⟨L,rfl,hl⟩:=hr.tp_inv;exact .tp (h.rvl hl)
theorem yiv{z n:Nat}{g g':Nat->List SV}(h:∀k,k<n->SimL (g k) (g' k)/\(g' k).all one1=true):Sim (.sl z n g) (.sl z n g'):=by
 intro F ω u hr;rcases hr.sl_inv with⟨rfl,h0⟩|⟨bk,p,cp,T,N,e,zz,L,rfl,g1,g2,g3,g4,g5,g6,g7⟩
 .exact .sl0 h0
 .exact .sl g1 g2 g3 g4 g5 (fun k hk=>(h k hk).1.rvl (g6 k hk)) (fun k hk=>(h k hk).2)
theorem Ct.simL{P:Program}{g:FuncId}{as bs:List SV}{Q:SV->Prop}(h:Ct P g bs Q)(hs:SimL as bs):Ct P g as Q:=fun G m us h1 h2 h3=>h G m us h1 h2 (hs.rvl h3)
theorem Returns.useS{P:Program}{g:FuncId}{as bs:List SV}{r:SV}{Q:SV->Prop}(h:Returns P g bs r)(hs:SimL as bs)(hq:Q r):Ct P g as Q:=(h.use hq).simL hs
theorem yfr {P:Program}{pc:List Nm}{mu:List FuncId}{d:Bool}{rs:List (Nat×SRec)}{s:SS}{i an:Nat}{dst:Option Nat}{nx:List (Nat×SRec)->SS->Prop}{g:FuncId}{xs:List SV}{pr:List Nm}{o:Own}{as:List SV}{Q:SV->Own->Prop}
 (hcm:Cm P g pr o as Q) (ρ:List (Nat×Nat)) (base:Nat) (keep kb:List Nat)
 (h:(xs.length=as.length/\ybfr (to1 ρ) [] o/\allQ (yuc (to1 ρ) [] [] o ⟨slots xs 0,s.o⟩) (slots as 0)/\allQ (yma (to1 ρ) [] [] o ⟨slots xs 0,s.o⟩) o/\allQ (fun p=>(look ρ p.1).isSome=true) o)/\ydfd d an o rs=true /\
   (allQ (fun β=>live o β=true) pr/\allQ (fun p=>kb.elem p.2=false) ρ/\allQ (fun p=>cln (okN ρ pr kb) 5 p.2=true) (yfj s.f keep)/\allQ (fun p=>ycz (okN ρ pr kb) p.2) (yeh s.o kb)/\allQ (fun β=>okN ρ pr kb β=true) pc))
 (hq:∀r o',Q r o'->yrx d rs s i dst nx ρ base keep kb r o'):ycdu ⟨Ct P,Cm P,ItC P,pc,mu⟩ d rs s i an dst nx g xs:=by
 obtain⟨⟨h1,h2,h3,h4,h5⟩,h6,k1,k2,k3,k4,k5⟩:=h;exact⟨ρ,base,keep,kb,pr,o,as,h1,⟨trivial,h2,h3,h4⟩,ycj h5,h6,⟨k1,ycj k2,k3,k4,k5⟩,hcm.mono hq⟩
section
variable (C:CC) (K:Exit->SS->Prop) (s:SS)
def vN(b:SC):SS->Prop:=vc C b K
theorem yduq(b:SC):vN C K b s=vc C b K s:=rfl
theorem ydbo:vc C .skip K s=K .normal s:=rfl
theorem ydja(a b:SC):vc C (.seq a b) K s=vc C a (ybsb (vN C K b) K) s:=rfl
theorem ydej(c:Operand)(a b:SC):vc C (.cond c a b) K s=ybwl (s.get c) c s (vN C K a) (vN C K b):=rfl
theorem ycga(id:Nat)(b:SC):vc C (.block id b) K s=vc C b (ybea id K) s:=rfl
theorem ydgn(b:SC):vc C (.loop b) K s=ydip C.pr (vc C b) K s:=rfl
theorem ychm(g:Operand)(ps:List Nat)(a b:SC):vc C (.range g ps a b) K s=ybsx C g ps (vcR a) (vcR b) K s:=rfl
theorem ydbb(id:Nat):vc C (.exit id) K s=K (.exit id) s:=rfl
theorem ydup:vc C .no K s=False:=rfl
theorem ydjj:vc C .ret K s=K .ret s:=rfl
theorem ydps(d:Bool)(ops:List SOper):vc C (.reg d ops) K s=ymz C d (K .normal) ops 0 [] s:=rfl
theorem ybem(n:SS->Prop):ybsb n K .normal s=n s:=rfl
theorem ybpa(n:SS->Prop)(i:Nat):ybsb n K (.exit i) s=K (.exit i) s:=rfl
theorem ybtg(n:SS->Prop):ybsb n K .ret s=K .ret s:=rfl
theorem ybdl(n:SS->Prop):ydbw n .normal s=n s:=rfl
theorem ybak(t:SS)(fin:Own->Prop):ybep K t fin .normal s=fin s.o:=rfl
theorem ybps(t:SS)(fin:Own->Prop):ybep K t fin .ret s=K .ret ⟨t.f,s.o⟩:=rfl
theorem ybgk(t:SS)(fin:Own->Prop)(id:Nat):ybep K t fin (.exit id) s=K (.exit id) ⟨t.f,s.o⟩:=rfl
theorem yzy(id:Nat):ybea id K .normal s=K .normal s:=rfl
theorem ybjf(id i:Nat):ybea id K (.exit i) s=if i=id then K .normal s else K (.exit i) s:=rfl
theorem ybna(id:Nat):ybea id K .ret s=K .ret s:=rfl
theorem ybpo(pr:List Nm)(I:Nat->SS->Prop)(n i:Nat):ybvs pr I n K (.exit i) s=K (.exit i) s:=rfl
theorem ybzt(pr:List Nm)(I:Nat->SS->Prop)(n:Nat):ybvs pr I n K .ret s=K .ret s:=rfl
theorem ybgr(rs:List SR)(Q:SV->Prop):retK rs Q .normal s=resX s rs fun vs=>vok s.o 5 (yid vs)/\Q (view s.o 5 (yid vs)):=rfl
theorem ybhc(rs:List SR)(pr:List Nm)(Q:SV->Own->Prop):retM rs pr Q .normal s=resX s rs fun vs=>yhn pr s Q (yid vs):=rfl
theorem ycix(rs:List SR)(pr:List Nm)(Q:SV->Own->Prop):retM rs pr Q .ret s=resX s rs fun vs=>yhn pr s Q (yid vs):=rfl
theorem yccy(rs:List SR)(Q:SV->Prop):retK rs Q .ret s=resX s rs fun vs=>vok s.o 5 (yid vs)/\Q (view s.o 5 (yid vs)):=rfl
end
section
variable (C:CC) (d:Bool) (K:SS->Prop)
def vO(l:List SOper)(i:Nat):List (Nat×SRec)->SS->Prop:=ymz C d K l i
theorem ydvb(l:List SOper)(i:Nat)(rs:List (Nat×SRec))(s:SS):vO C d K l i rs s=ymz C d K l i rs s:=rfl
theorem ydea(i:Nat)(rs:List (Nat×SRec))(s:SS):ymz C d K [] i rs s=K s:=rfl
theorem yces(op:SOp)(dst:Option Nat)(an:Nat)(l:List SOper)(i:Nat)(rs:List (Nat×SRec))(s:SS):ymz C d K (⟨op,dst,none,an⟩::l) i rs s=runO C d rs s i an dst (vO C d K l (i+1)) op:=rfl
theorem ybvi(op:SOp)(dst:Option Nat)(t:Nat)(w:Bool)(an:Nat)(l:List SOper)(i:Nat)(rs:List (Nat×SRec))(s:SS):ymz C d K (⟨op,dst,some (t,w),an⟩::l) i rs s=yti C d rs s i an dst (vO C d K l (i+1)) op t w (look s.f t):=rfl
def gb(c:Bool)(A B:Prop):Prop:=(c=true->A)/\(c=false->B)
def gb2(c:Bool)(A B:Prop):Prop:=(c=false->A)/\(c=true->B)
theorem gb_t(A B:Prop):gb true A B=A:=propext ⟨fun h=>h.1 rfl,fun h=>⟨fun _=>h,fun q=>by cases q⟩⟩
theorem gb_f(A B:Prop):gb false A B=B:=propext ⟨fun h=>h.2 rfl,fun h=>⟨fun q=>(nomatch q),fun _=>h⟩⟩
theorem ydsp(A B:Prop):gb2 true A B=B:=propext ⟨fun h=>h.2 rfl,fun h=>⟨fun q=>(nomatch q),fun _=>h⟩⟩
theorem ydsr(A B:Prop):gb2 false A B=A:=propext ⟨fun h=>h.1 rfl,fun h=>⟨fun _=>h,fun q=>by cases q⟩⟩
theorem gb_x(c:Bool)(A B:Prop):gb c A B=((c=true->A)/\(c=false->B)):=rfl
theorem ydul(c:Bool)(A B:Prop):gb2 c A B=((c=false->A)/\(c=true->B)):=rfl
theorem ydhx(x:Bool)(c:Operand)(s:SS)(a b:SS->Prop):ybwl (some (.b x)) c s a b=gb x (a (s.lit c true)) (b (s.lit c false)):=rfl
theorem ycdm(rs:List (Nat×SRec))(s:SS)(i an:Nat)(dst:Option Nat)(nx:List (Nat×SRec)->SS->Prop)(op:SOp)(t:Nat)(c:Bool):yti C d rs s i an dst nx op t true (some (.b c))=gb c (runO C d rs (s.put (some t) (.b true)) i an dst nx op) (nx rs ((s.put (some t) (.b false)).put dst (.tp []))):=rfl
theorem yceb(rs:List (Nat×SRec))(s:SS)(i an:Nat)(dst:Option Nat)(nx:List (Nat×SRec)->SS->Prop)(op:SOp)(t:Nat)(c:Bool):yti C d rs s i an dst nx op t false (some (.b c))=gb2 c (runO C d rs (s.put (some t) (.b false)) i an dst nx op) (nx rs ((s.put (some t) (.b true)).put dst (.tp []))):=rfl
theorem ybyo(rs:List (Nat×SRec))(s:SS)(i an:Nat)(dst:Option Nat)(nx:List (Nat×SRec)->SS->Prop)(op:SOp)(t:Nat)(w:Bool):yti C d rs s i an dst nx op t w (some (.tp []))=nx rs (s.put dst (.tp [])):=rfl
end
theorem ydcu(dst:Option Nat)(old:Bool)(rs:List (Nat×SRec)):yjw false dst old rs=rs:=by unfold yjw;rfl
theorem ydei(d:Bool)(dst:Option Nat)(rs:List (Nat×SRec)):yjw d dst true rs=rs:=by unfold yjw;cases d<;>cases dst<;>rfl
theorem ydfu(d old:Bool)(rs:List (Nat×SRec)):yjw d none old rs=rs:=by unfold yjw;cases d<;>rfl
theorem ydfm(t:Nat)(rs:List (Nat×SRec)):yjw true (some t) false rs=(1000+t,SRec.no)::rs:=rfl
theorem yddu(d:Bool)(an:Nat)(r:SRec)(rs:List (Nat×SRec)):ychz d an false r rs=fits d an r rs:=rfl
theorem ydil(d:Bool)(an:Nat)(r:SRec)(rs:List (Nat×SRec)):ychz d an true r rs=(!d||rs.all fun q=>zH an q.1 || !(ynt r q.2)):=rfl
theorem ybad {C:CC}{gx:Operand}{ps:List Nat}{a b:SC}{K:Exit->SS->Prop}{s:SS}{g:FuncId}{caps:List SV}{S:ItS}(hit:C.it g caps S) {σ:Type}(pr:List Nm) (st:Nat->σ->SS) (inv:Nat->σ->Prop) (x0:σ) (hx0:inv 0 x0)
 (hpr:(∀β∈C.pr,β∈pr)/\∀β∈S.pr,β∈pr) (h0:Weak C.pr s (st 0 x0)) (hg:∀x,(st 0 x).get gx=some (.fn g [] caps)) (hinv:∀k x,inv k x->k<=S.n->S.own k (st k x).o/\allQ (fun p=>cln (nmem pr) 5 p.2=true) (st k x).f)
 (hround:∀k x,inv k x->k<S.n->∃t1,puts (st k x) ps (S.el k)=some t1/\vc ⟨C.ct,C.cm,C.it,pr,C.mu⟩ a (ydbw (vN ⟨C.ct,C.cm,C.it,pr,C.mu⟩ (ybep K (st k x) fun o=>S.own k o/\∃y,inv (k+1) y/\Weak pr ⟨(st k x).f,S.adv k o⟩ (st (k+1) y)) b)) t1)
 (hend:∀x,inv S.n x->K .normal (st S.n x)):ybsx C gx ps (vcR a) (vcR b) K s:=by
 refine⟨pr,fun k t=>k<=S.n/\∃x,inv k x/\t=st k x,g,caps,S,hit,hpr,⟨st 0 x0,⟨zAA _,x0,hx0,rfl⟩,h0⟩,?_,?_,?_,?_⟩
 .rintro t ⟨_,x,hx,rfl⟩;exact hg x
 .rintro k t ⟨hk,x,hx,rfl⟩;exact hinv k x hx hk
 .rintro k t ⟨_,x,hx,rfl⟩ hk;obtain⟨t1,h1,h2⟩:=hround k x hx hk;refine⟨t1,h1,?_⟩
  have e:(fun o=>S.own k o/\∃u,(k+1<=S.n/\∃x,inv (k+1) x/\u=st (k+1) x)/\Weak pr ⟨(st k x).f,S.adv k o⟩ u)=(fun o=>S.own k o/\∃y,inv (k+1) y/\Weak pr ⟨(st k x).f,S.adv k o⟩ (st (k+1) y)):=by
   funext o
   refine propext ⟨?_,?_⟩
   .rintro⟨h,u,⟨_,y,hy,rfl⟩,hw⟩;exact⟨h,y,hy,hw⟩
   .rintro⟨h,y,hy,hw⟩;exact⟨h,_,⟨hk,y,hy,rfl⟩,hw⟩
  rw[e];exact h2
 .rintro t ⟨_,x,hx,rfl⟩;exact hend x hx
theorem ydco{α:Type}{a:α}{p:α->Prop}:(∃v,some a=some v/\p v)↔p a:=⟨fun⟨_,h,q⟩=>by cases h;exact q,fun h=>⟨a,rfl,h⟩⟩
theorem ydhb{n:Nat}(k:IntKind)(x:Int):owned (n+1) (.i k x)=false:=rfl
theorem ycir{n:Nat}(k:IntKind)(x:Int):scalar (n+1) (.i k x)=true:=rfl
theorem ydra{n:Nat}(o:Own)(k:IntKind)(x:Int):view o (n+1) (.i k x)=(.i k x):=rfl
theorem ydur{n:Nat}(o:Own)(k:IntKind)(x:Int):vok o (n+1) (.i k x)=True:=rfl
theorem yhm{n:Nat}(ρ:Nm->Nm)(k:IntKind)(x:Int):ren ρ (n+1) (.i k x)=(.i k x):=rfl
theorem ydta{n:Nat}(D:Nm->Bool)(k:IntKind)(x:Int):cln D (n+1) (.i k x)=true:=rfl
theorem ydmv(k:IntKind)(x:Int):one1 (.i k x)=true:=rfl
theorem ydfr{n:Nat}(x:Bool):owned (n+1) (.b x)=false:=rfl
theorem ychk{n:Nat}(x:Bool):scalar (n+1) (.b x)=true:=rfl
theorem ydqd{n:Nat}(o:Own)(x:Bool):view o (n+1) (.b x)=(.b x):=rfl
theorem ydtm{n:Nat}(o:Own)(x:Bool):vok o (n+1) (.b x)=True:=rfl
theorem ydtz{n:Nat}(ρ:Nm->Nm)(x:Bool):ren ρ (n+1) (.b x)=(.b x):=rfl
theorem ydue{n:Nat}(D:Nm->Bool)(x:Bool):cln D (n+1) (.b x)=true:=rfl
theorem ydlw(x:Bool):one1 (.b x)=true:=rfl
theorem yddd{n:Nat}(x:Value):owned (n+1) (.a x)=false:=rfl
theorem ycio{n:Nat}(x:Value):scalar (n+1) (.a x)=true:=rfl
theorem ydky{n:Nat}(o:Own)(x:Value):view o (n+1) (.a x)=(.a x):=rfl
theorem ydtb{n:Nat}(o:Own)(x:Value):vok o (n+1) (.a x)=True:=rfl
theorem ydgu{n:Nat}(ρ:Nm->Nm)(x:Value):ren ρ (n+1) (.a x)=(.a x):=rfl
theorem yduk{n:Nat}(D:Nm->Bool)(x:Value):cln D (n+1) (.a x)=true:=rfl
theorem ydmu(x:Value):one1 (.a x)=true:=rfl
theorem ycge{n:Nat}(z k:Nat)(g:Nat->List SV):owned (n+1) (.sl z k g)=false:=rfl
theorem ybwz{n:Nat}(z k:Nat)(g:Nat->List SV):scalar (n+1) (.sl z k g)=false:=rfl
theorem ydgj{n:Nat}(o:Own)(z k:Nat)(g:Nat->List SV):view o (n+1) (.sl z k g)=(.sl z k g):=rfl
theorem ydmn{n:Nat}(o:Own)(z k:Nat)(g:Nat->List SV):vok o (n+1) (.sl z k g)=True:=rfl
theorem ybek{n:Nat}(ρ:Nm->Nm)(z k:Nat)(g:Nat->List SV):ren ρ (n+1) (.sl z k g)=(.sl z k g):=rfl
theorem ydro{n:Nat}(D:Nm->Bool)(z k:Nat)(g:Nat->List SV):cln D (n+1) (.sl z k g)=true:=rfl
theorem ydbl(z k:Nat)(g:Nat->List SV):one1 (.sl z k g)=true:=rfl
theorem ycex{n:Nat}(c:List SV):owned (n+1) (.rf c)=false:=rfl
theorem ycbh{n:Nat}(c:List SV):scalar (n+1) (.rf c)=false:=rfl
theorem ydfg{n:Nat}(o:Own)(c:List SV):view o (n+1) (.rf c)=(.rf c):=rfl
theorem ydmm{n:Nat}(o:Own)(c:List SV):vok o (n+1) (.rf c)=True:=rfl
theorem ydmy{n:Nat}(ρ:Nm->Nm)(c:List SV):ren ρ (n+1) (.rf c)=(.rf c):=rfl
theorem ydjw{n:Nat}(D:Nm->Bool)(c:List SV):cln D (n+1) (.rf c)=true:=rfl
theorem ydcq(c:List SV):one1 (.rf c)=true:=rfl
theorem ychu{n:Nat}(Q:(Nat->Option ABlk)->Value->Prop)(v:SV):owned (n+1) (.ex Q v)=false:=rfl
theorem ybze{n:Nat}(Q:(Nat->Option ABlk)->Value->Prop)(v:SV):scalar (n+1) (.ex Q v)=false:=rfl
theorem ydax{n:Nat}(o:Own)(Q:(Nat->Option ABlk)->Value->Prop)(v:SV):view o (n+1) (.ex Q v) = .ex Q v:=rfl
theorem ydsa{n:Nat}(o:Own)(Q:(Nat->Option ABlk)->Value->Prop)(v:SV):vok o (n+1) (.ex Q v)=True:=rfl
theorem ycqw{n:Nat}(ρ:Nm->Nm)(Q:(Nat->Option ABlk)->Value->Prop)(v:SV):ren ρ (n+1) (.ex Q v) = .ex Q v:=rfl
theorem ydkn{n:Nat}(D:Nm->Bool)(Q:(Nat->Option ABlk)->Value->Prop)(v:SV):cln D (n+1) (.ex Q v)=true:=rfl
theorem ydcy(Q:(Nat->Option ABlk)->Value->Prop)(v:SV):one1 (.ex Q v)=one1 v:=rfl
theorem ynv(Q:(Nat->Option ABlk)->Value->Prop)(v:SV):Sim (.ex Q v) v:=fun F ω u h=>by
 cases h with
 |ex _ _ h=>exact h.mono (Le.refl _) (yxo _)
theorem ybxn{n:Nat} :owned (n+1) .bad=true:=rfl
theorem ybnn{n:Nat} :scalar (n+1) .bad=false:=rfl
theorem ycdn{n:Nat}(o:Own) :view o (n+1) .bad = .bad:=rfl
theorem ydhm{n:Nat}(o:Own) :vok o (n+1) .bad=False:=rfl
theorem ydar{n:Nat}(ρ:Nm->Nm) :ren ρ (n+1) .bad = .bad:=rfl
theorem ydbc{n:Nat}(D:Nm->Bool) :cln D (n+1) .bad=true:=rfl
theorem ycet :one1 .bad=false:=rfl
theorem yceg{n:Nat}(c:List SV):owned (n+1) (.ag c)=c.any (owned n):=rfl
theorem ycam{n:Nat}(c:List SV):scalar (n+1) (.ag c)=c.all (scalar n):=rfl
theorem ydcj{n:Nat}(o:Own)(c:List SV):view o (n+1) (.ag c) = .ag (c.map (view o n)):=rfl
theorem ydqr{n:Nat}(o:Own)(c:List SV):vok o (n+1) (.ag c)=allP (vok o n) c:=rfl
theorem ybcp{n:Nat}(ρ:Nm->Nm)(c:List SV):ren ρ (n+1) (.ag c) = .ag (c.map (ren ρ n)):=rfl
theorem ydjf{n:Nat}(D:Nm->Bool)(c:List SV):cln D (n+1) (.ag c)=c.all (cln D n):=rfl
theorem yddq(c:List SV):one1 (.ag c)=false:=rfl
theorem ycei{n:Nat}(c:List SV):owned (n+1) (.tp c)=c.any (owned n):=rfl
theorem ybzo{n:Nat}(c:List SV):scalar (n+1) (.tp c)=c.all (scalar n):=rfl
theorem yddw{n:Nat}(o:Own)(c:List SV):view o (n+1) (.tp c) = .tp (c.map (view o n)):=rfl
theorem ydok{n:Nat}(o:Own)(c:List SV):vok o (n+1) (.tp c)=allP (vok o n) c:=rfl
theorem yya{n:Nat}(ρ:Nm->Nm)(c:List SV):ren ρ (n+1) (.tp c) = .tp (c.map (ren ρ n)):=rfl
theorem ydrt{n:Nat}(D:Nm->Bool)(c:List SV):cln D (n+1) (.tp c)=c.all (cln D n):=rfl
theorem ydff(c:List SV):one1 (.tp c)=false:=rfl
theorem ycgi{n:Nat}(g:FuncId)(a b:List SV):owned (n+1) (.fn g a b)=(a.any (owned n)||b.any (owned n)):=rfl
theorem ybvq{n:Nat}(g:FuncId)(a b:List SV):scalar (n+1) (.fn g a b)=false:=rfl
theorem ydef{n:Nat}(o:Own)(g:FuncId)(a b:List SV):view o (n+1) (.fn g a b) = .fn g (a.map (view o n)) (b.map (view o n)):=rfl
theorem ydom{n:Nat}(o:Own)(g:FuncId)(a b:List SV):vok o (n+1) (.fn g a b)=(allP (vok o n) a/\allP (vok o n) b):=rfl
theorem ybmc{n:Nat}(ρ:Nm->Nm)(g:FuncId)(a b:List SV):ren ρ (n+1) (.fn g a b) = .fn g (a.map (ren ρ n)) (b.map (ren ρ n)):=rfl
theorem ydpj{n:Nat}(D:Nm->Bool)(g:FuncId)(a b:List SV):cln D (n+1) (.fn g a b)=(a.all (cln D n)&&b.all (cln D n)):=rfl
theorem ydfj(g:FuncId)(a b:List SV):one1 (.fn g a b)=true:=rfl
theorem ycfk{n:Nat}(β:Nm)(i j:Nat):owned (n+1) (.pt β i j)=true:=rfl
theorem ycap{n:Nat}(β:Nm)(i j:Nat):scalar (n+1) (.pt β i j)=false:=rfl
theorem yden{n:Nat}(o:Own)(β:Nm)(i j:Nat):view o (n+1) (.pt β i j)=(match lookO o β with|some b=>.rf ((((b.g i).drop j)).map (view o n))|none=>.bad):=rfl
theorem ydku{n:Nat}(o:Own)(β:Nm)(i j:Nat):vok o (n+1) (.pt β i j)=(match lookO o β with|some b=>(i<b.n/\j<=b.z)/\allP (vok o n) ((b.g i).drop j)|none=>False):=rfl
theorem yblu{n:Nat}(ρ:Nm->Nm)(β:Nm)(i j:Nat):ren ρ (n+1) (.pt β i j) = .pt (ρ β) i j:=rfl
theorem ydnp{n:Nat}(D:Nm->Bool)(β:Nm)(i j:Nat):cln D (n+1) (.pt β i j)=D β:=rfl
theorem yddk(β:Nm)(i j:Nat):one1 (.pt β i j)=true:=rfl
theorem ycdp{n:Nat}(β:Nm)(p k:Nat)(ap:Bool):owned (n+1) (.os β p k ap)=true:=rfl
theorem ybtd{n:Nat}(β:Nm)(p k:Nat)(ap:Bool):scalar (n+1) (.os β p k ap)=false:=rfl
theorem ydeo{n:Nat}(o:Own)(β:Nm)(p k:Nat)(ap:Bool):view o (n+1) (.os β p k ap)=(match lookO o β with|some b=>.sl b.z k (fun q=>(b.g (p+q)).map (view o n))|none=>.bad):=rfl
theorem ydml{n:Nat}(o:Own)(β:Nm)(p k:Nat)(ap:Bool):vok o (n+1) (.os β p k ap)=(match lookO o β with|some b=>p+k<=b.n/\∀q,q<k->allP (vok o n) (b.g (p+q))|none=>False):=rfl
theorem yqy{n:Nat}(ρ:Nm->Nm)(β:Nm)(p k:Nat)(ap:Bool):ren ρ (n+1) (.os β p k ap) = .os (ρ β) p k ap:=rfl
theorem ydre{n:Nat}(D:Nm->Bool)(β:Nm)(p k:Nat)(ap:Bool):cln D (n+1) (.os β p k ap)=D β:=rfl
theorem ydfn(β:Nm)(p k:Nat)(ap:Bool):one1 (.os β p k ap)=true:=rfl
theorem any_false{α:Type}{p:α->Bool}{l:List α}(h:l.any p=false):∀x∈l,p x=false:=fun x hx=>by
 cases hq:p x with
 |false=>rfl
 |true=>rw[List.any_eq_true.2 ⟨x,hx,hq⟩]at h;cases h
theorem ydu{α:Type}{p:α->Bool}{l:List α}(h:∀x∈l,p x=false):l.any p=false:=by
 cases hq:l.any p with
 |false=>rfl
 |true=>obtain⟨x,h1,h2⟩:=List.any_eq_true.1 hq;rw[h x h1]at h2;cases h2
theorem yil:∀{n:Nat}{v:SV},owned n v=false->owned (n+1) v=false
 |0,_,h=>by cases h
 | n + 1,v,h=>by
   cases v with
   |ag c=>exact ydu fun x hx=>yil (any_false h x hx)
   |tp c=>exact ydu fun x hx=>yil (any_false h x hx)
   | fn g a b =>
     have h:(_||_)=false:=h;rw[zA]at h;show(_||_)=false;rw[zA];exact⟨ydu fun x hx=>yil (any_false h.1 x hx),ydu fun x hx=>yil (any_false h.2 x hx)⟩
   |_=>first|rfl|cases h
theorem ylu{n:Nat}{l:List SV}(h:l.any (owned n)=false):l.any (owned (n+1))=false:=ydu fun x hx=>yil (any_false h x hx)
theorem ybcj(ρ:Nm->Nm):∀{n:Nat}{v:SV},owned n v=false->ren ρ n v=v
 |0,_,h=>by cases h
 | n + 1,v,h=>by
   have ml:∀{l:List SV},l.any (owned n)=false->l.map (ren ρ n)=l:=fun {l} h=>by
    induction l with
    |nil=>rfl
    |cons x l ih=>rw[zT,ybcj ρ (any_false h x zB),ih (ydu fun y hy=>any_false h y (zC _ hy))]
   cases v with
   |ag c=>show SV.ag _=_;rw[ml h]
   |tp c=>show SV.tp _=_;rw[ml h]
   | fn g a b =>
     have h:(_||_)=false:=h;rw[zA]at h;show SV.fn g _ _=_;rw[ml h.1,ml h.2]
   |_=>first|rfl|cases h
theorem yea(ρ:Nm->Nm){n:Nat}{l:List SV}(h:l.any (owned n)=false):l.map (ren ρ n)=l:=by
 induction l with
 |nil=>rfl
 |cons x l ih=>rw[zT,ybcj ρ (any_false h x zB),ih (ydu fun y hy=>any_false h y (zC _ hy))]
theorem ybfm(D:Nm->Bool):∀{n:Nat}{v:SV},owned n v=false->cln D n v=true
 |0,_,h=>by cases h
 | n + 1,v,h=>by
   have ml:∀{l:List SV},l.any (owned n)=false->l.all (cln D n)=true:=fun {l} h=>List.all_eq_true.2 fun x hx=>ybfm D (any_false h x hx);cases v with
   |ag c=>exact ml h
   |tp c=>exact ml h
   | fn g a b =>
     have h:(_||_)=false:=h;rw[zA]at h;show(_&&_)=true;rw[ml h.1,ml h.2];rfl
   |_=>first|rfl|cases h
theorem yef(D:Nm->Bool){n:Nat}{l:List SV}(h:l.any (owned n)=false):l.all (cln D n)=true:=List.all_eq_true.2 fun x hx=>ybfm D (any_false h x hx)
end Sh
end
end Go.Proofs.YtiejahgklcjhkaaGreatDoor
