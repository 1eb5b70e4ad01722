/- Lemmas, joined: RvG Li RvX Catch RvY RvZ. -/
import Derived.Test.YtpngeppkgoaimaaGreatDoorPkLp15
import Derived.Test.YtpngeppkgoaimaaGreatDoorPkLp12
import Derived.Test.YtpngeppkgoaimaaGreatDoorPkLp3
import Derived.Test.YtpngeppkgoaimaaGreatDoorPkLp8
import Derived.Lib.Bytealg
import Derived.Defers
import Derived.Recover
import Derived.Laws.Pointers
set_option linter.unusedSimpArgs false
set_option linter.unusedVariables false
namespace Go.Proofs.YtpngeppkgoaimaaGreatDoor
namespace Ev
open Go
theorem yqg:∀ l:List UInt8,eqBytes l l=true
 | []=>rfl
 | x :: l=>by
  show(Nat.beq x.toNat x.toNat && eqBytes l l)=true;rw[Nat.beq_refl,yqg l];rfl
theorem yve{ρ:Nat->Nat}{a:Addr}(h:a.spot.isNone=true):eqAddr (renA ρ a) (renA ρ a)=true:=by
 rw[yke];unfold eqAddr;simp only[Nat.beq_refl,h,Bool.and_self]
theorem ycch{ρ:Nat->Nat}{v:Value}(hf:yqw v=true)(h:eq1 v v=true):eq1 (ren1 ρ v) (ren1 ρ v)=true:=by
 unfold yqw at hf;split at hf
 ·exact yve hf
 ·rename_i a n c
  show(eqAddr (renA ρ a) (renA ρ a) && Nat.beq n n && Nat.beq c c)=true;rw[yve hf,Nat.beq_refl,Nat.beq_refl];rfl
 ·rename_i h1 h2
  have:ren1 ρ v=v:=by
   unfold ren1;split
   ·rename_i a;exact absurd rfl (h1 a)
   ·rename_i a n c;exact absurd rfl (h2 a n c)
   ·rfl
  rw[this];exact h
theorem yrv{ρ:Nat->Nat}:∀ {l:List Value},l.all yqw=true->eqL1 l l=true->eqL1 (l.map (ren1 ρ)) (l.map (ren1 ρ))=true
 | [],_,_=>rfl
 | x :: l,hf,h=>by
  simp only[List.all_cons,Bool.and_eq_true]at hf;have h:(eq1 x x && eqL1 l l)=true:=h;rw[Bool.and_eq_true]at h;show(eq1 (ren1 ρ x) (ren1 ρ x) && eqL1 (l.map (ren1 ρ)) (l.map (ren1 ρ)))=true;rw[ycch hf.1 h.1,yrv hf.2 h.2];rfl
theorem ybzf{v:Value}(h1:∀ a,v = .agg a->False)(h2:∀ g a c,v = .func (.func g) a c->False):eq2 v v=eq1 v v:=by
 cases v with
 | agg a=>exact(h1 a rfl).elim
 | func f a c=>cases f with
  | func g=>exact(h2 g a c rfl).elim
  | _=>rfl
 | _=>rfl
theorem ycbz{ρ:Nat->Nat}{v:Value}(h1:∀ a,v = .agg a->False)(h2:∀ g a c,v = .func (.func g) a c->False)(hf:yqw v=true):ren2 ρ v=ren1 ρ v:=by
 cases v with
 | agg a=>exact(h1 a rfl).elim
 | func f a c=>cases f with
  | func g=>exact(h2 g a c rfl).elim
  | _=>cases hf
 | _=>rfl
theorem yvd{ρ:Nat->Nat}{v:Value}(hf:yqw v=true):(∀ a,ren1 ρ v = .agg a->False) /\ ∀ g a c,ren1 ρ v = .func (.func g) a c->False:=by
 cases v with
 | agg a=>cases hf
 | func f a c=>cases hf
 | pointer p=>cases p<;>exact⟨fun _ h=>(by cases h),fun _ _ _ h=>(by cases h)⟩
 | slice p n c=>cases p<;>exact⟨fun _ h=>(by cases h),fun _ _ _ h=>(by cases h)⟩
 | _=>exact⟨fun _ h=>(by cases h),fun _ _ _ h=>(by cases h)⟩
theorem ycbh{ρ:Nat->Nat}{v:Value}(hf:yla v=true)(h:eq2 v v=true):eq2 (ren2 ρ v) (ren2 ρ v)=true:=by
 unfold yla at hf;split at hf
 ·rename_i a
  have h:eqL1 a.toList a.toList=true:=h;show eqL1 (a.toList.map (ren1 ρ)).toArray.toList (a.toList.map (ren1 ρ)).toArray.toList=true;exact yrv hf h
 ·rename_i g a c
  rw[Bool.and_eq_true]at hf;have h:(Nat.beq g g && eqL1 a.toList a.toList && eqL1 c.toList c.toList)=true:=h;simp only[Bool.and_eq_true]at h;show(Nat.beq g g && eqL1 (a.toList.map (ren1 ρ)).toArray.toList (a.toList.map (ren1 ρ)).toArray.toList && eqL1 (c.toList.map (ren1 ρ)).toArray.toList (c.toList.map (ren1 ρ)).toArray.toList)=true;rw[Nat.beq_refl,yrv hf.1 h.1.2,yrv hf.2 h.2];rfl
 ·rename_i h1 h2
  rw[ybzf h1 h2]at h;rw[ycbz h1 h2 hf,ybzf (yvd hf).1 (yvd hf).2];exact ycch hf h
def reflB(b:BlkL):Bool:=b.l.all (fun v=>eq2 v v && yla v) && Nat.blt b.l.length 1000000
theorem yuj{ρ:Nat->Nat}{b:BlkL}(h:reflB b=true):∀ v ∈ (b.ren ρ).l,eq2 v v=true:=by
 unfold reflB at h;rw[Bool.and_eq_true]at h;intro v hv;obtain⟨x,hx,rfl⟩:=List.mem_map.1 hv;have:=List.all_eq_true.1 h.1 x hx;rw[Bool.and_eq_true]at this;exact ycbh this.2 this.1
theorem ynr{l:List Value}(h:∀ v ∈ l,eq2 v v=true):∀ (k:List Value) (n:Nat),l.drop n=k->cellsAre (tOf l) n k=true
 | [],_,_=>rfl
 | v :: k,n,e=>by
  have hn:n<l.length:=by
   rcases Nat.lt_or_ge n l.length with q | q
   ·exact q
   ·rw[List.drop_eq_nil_of_le q]at e;cases e
  rw[List.drop_eq_getElem_cons hn]at e
  injection e with e1 e2
  unfold cellsAre;rw[ycz,List.getElem?_eq_getElem hn,e1];simp only;rw[h v (by rw[<- e1];exact List.getElem_mem _),ynr h k (n+1) e2]
  rfl
theorem yoi{m:Mem}{b:BlkL}(hg:m.b.get b.i=some b.blk)(h:∀ v ∈ b.l,eq2 v v=true)(hl:Nat.blt b.l.length 1000000=true):blkIs m b=true:=by
 unfold blkIs;rw[hg];show(Nat.beq b.l.length b.l.length && Nat.beq b.e b.e && Nat.beq b.z b.z && Nat.blt b.l.length 1000000 && cellsAre (tOf b.l) 0 b.l)=true;rw[Nat.beq_refl,Nat.beq_refl,Nat.beq_refl,hl,ynr h b.l 0 (List.drop_zero ..)];rfl
theorem ytz:∀ {l:List BlkL} {t:T ABlk} {i:Nat},(∀ b ∈ l,b.i ≠ i)->(blksT t l).get i=t.get i
 | [],_,_,_=>rfl
 | b :: l,t,i,h=>by
  unfold blksT;rw[T.strict_eq,ytz fun c hc=>h c (List.mem_cons_of_mem _ hc),T.set_at,if_neg (fun e=>h b List.mem_cons_self e.symm)]
theorem yre:∀ {l:List BlkL} {t:T ABlk},yhc (l.map (·.i))=true -> ∀ b ∈ l,(blksT t l).get b.i=some b.blk
 | [],_,_,b,hb=>by cases hb
 | c :: l,t,h,b,hb=>by
  have h:(!(l.map (·.i)).elem c.i && yhc (l.map (·.i)))=true:=h;rw[Bool.and_eq_true,Bool.not_eq_true']at h;unfold blksT;rw[T.strict_eq];rcases List.mem_cons.1 hb with e | hb
  ·subst e;rw[ytz fun d hd e=>?_,T.set_at,if_pos rfl];have:(l.map (·.i)).elem b.i=true:=List.elem_eq_true_of_mem (List.mem_map.2 ⟨d,hd,e⟩);rw[this]at h;cases h.1
  ·exact yre h.2 b hb
theorem ynz:∀ {l:List Nat},l.Nodup->yhc l=true
 | [],_=>rfl
 | x :: l,h=>by
  rw[List.nodup_cons]at h;show(!(l.elem x) && yhc l)=true
  have:l.elem x=false:=by
   cases hq:l.elem x with
   | false=>rfl
   | true=>exact absurd (by simpa using hq) h.1
  rw[this,ynz h.2];rfl
theorem yyr:∀ {l:List Nat},yhc l=true->l.Nodup
 | [],_=>List.nodup_nil
 | x :: l,h=>by
  have h:(!(l.elem x) && yhc l)=true:=h;rw[Bool.and_eq_true,Bool.not_eq_true']at h;rw[List.nodup_cons];refine⟨fun hm=>?_,yyr h.2⟩;have:l.elem x=true:=by simpa using hm
  rw[this]at h;cases h.1
theorem ybjt{d:Nat}:∀ {l:List BlkL} {k:List Nat},(l.map (·.i)).Nodup->l.length=k.length->l.map (fun b=>yxp l k d b.i)=k
 | [],[],_,_=>rfl
 | b :: l,t :: k,hn,hl=>by
  rw[List.map_cons,List.nodup_cons]at hn;have ih:=ybjt (d:=d) hn.2 (by simpa using hl)
  rw[List.map_cons];have e1:yxp (b :: l) (t :: k) d b.i=t:=by unfold yxp;rw[Nat.beq_refl];rfl
  rw[e1];congr 1;refine Eq.trans (List.map_congr_left fun c hc=>?_) ih;show(bif Nat.beq b.i c.i then t else yxp l k d c.i)=_
  have:Nat.beq b.i c.i=false:=by
   cases hq:Nat.beq b.i c.i with
   | false=>rfl
   | true=>exact absurd (List.mem_map.2 ⟨c,hc,(Nat.eq_of_beq_eq_true hq).symm⟩) hn.1
  rw[this];rfl
 | [],_ :: _,_,h=>by cases h
 | _ :: _,[],_,h=>by cases h
def Fact.still(f:Fact):Bool:=Nat.ble f.next0 f.low && f.args.all yla && ybuc f.v && f.pre.all (fun b=>Nat.blt b.i f.next0 && reflB b) && yhc (f.pre.map (·.i)) && f.post.all (fun b=>Nat.ble f.next0 b.i && Nat.blt b.i f.next1 && reflB b) && yhc (f.post.map (·.i)) && Nat.ble f.next0 f.next1
theorem ycqn{a b:Nat}(h:Nat.blt a b=true):a<b:=Nat.lt_of_lt_of_le (Nat.lt_succ_self _) (Nat.le_of_ble_eq_true h)
theorem ybjj{a b:Nat}(h:a<b):Nat.blt a b=true:=Nat.ble_eq_true_of_le h
theorem ylr{f:Fact}(h:f.still=true):f.next0<=f.low/\(f.args.all yla=true/\ybuc f.v=true)/\(∀ b ∈ f.pre,b.i<f.next0/\reflB b=true)/\(f.pre.map (·.i)).Nodup/\(∀ b ∈ f.post,f.next0<=b.i/\b.i<f.next1/\reflB b=true)/\(f.post.map (·.i)).Nodup/\f.next0<=f.next1:=by
 unfold Fact.still at h;simp only[Bool.and_eq_true]at h;obtain⟨⟨⟨⟨⟨⟨⟨h1,h2⟩,h3⟩,h4⟩,h5⟩,h6⟩,h7⟩,h8⟩:=h;refine⟨Nat.le_of_ble_eq_true h1,⟨h2,h3⟩,fun b hb=>?_,yyr h5,fun b hb=>?_,yyr h7,Nat.le_of_ble_eq_true h8⟩
 ·have:=List.all_eq_true.1 h4 b hb;rw[Bool.and_eq_true]at this;exact⟨ycqn this.1,this.2⟩
 ·have:=List.all_eq_true.1 h6 b hb;simp only[Bool.and_eq_true]at this;exact⟨Nat.le_of_ble_eq_true this.1.1,ycqn this.1.2,this.2⟩
theorem ybxx{f:Fact}{tgt:List Nat}{n0:Nat}(hp:∀ b ∈ f.pre,b.i<f.next0/\reflB b=true)(hn:(f.pre.map (·.i)).Nodup)(hl:f.pre.length=tgt.length):f.pre.map (fun b=>f.rho tgt n0 b.i)=tgt:=by
 refine Eq.trans (List.map_congr_left fun b hb=>?_) (ybjt (d:=Nat.add n0 (Nat.sub f.next1 f.next0)) hn hl);unfold Fact.rho;have h1:=(hp b hb).1
 have:(Nat.ble f.next0 b.i && Nat.blt b.i f.next1)=false:=by
  rw[Bool.and_eq_false_iff];left
  cases hq:Nat.ble f.next0 b.i with
  | false=>rfl
  | true=>have:=Nat.le_of_ble_eq_true hq;omega
 rw[this];rfl
theorem ybjv{f:Fact}{tgt:List Nat}{n0 i:Nat}(h1:f.next0<=i)(h2:i<f.next1):f.rho tgt n0 i=i - f.next0+n0:=by
 unfold Fact.rho;rw[Bool.cond_eq_ite,if_pos (by rw[Nat.ble_eq_true_of_le h1,ybjj h2];rfl)]
 rfl
theorem yvq{P:Program}{f:Fact}{tgt:List Nat}{n0:Nat}(hok:yea P f)(hs:f.still=true)(hl:f.pre.length=tgt.length)(hn:tgt.Nodup)(hlt:∀ t ∈ tgt,t<n0):yea P (f.move tgt n0):=by
 refine yfx hok ?_;obtain⟨s1,⟨s2,s3⟩,s4,s5,s6,s7,s8⟩:=ylr hs
 have hpi:(f.move tgt n0).pre.map (·.i)=tgt:=by
  show(f.pre.map (BlkL.ren (f.rho tgt n0))).map (·.i)=tgt;rw[List.map_map];exact Eq.trans (List.map_congr_left fun b hb=>b.yhy) (ybxx (n0:=n0) s4 s5 hl)
 have hqi:yhc ((f.move tgt n0).post.map (·.i))=true:=by
  refine ynz ?_;show((f.post.map (BlkL.ren (f.rho tgt n0))).map (·.i)).Nodup
  have e:(f.post.map (BlkL.ren (f.rho tgt n0))).map (·.i)=(f.post.map (·.i)).map (fun i=>i - f.next0+n0):=by
   rw[List.map_map,List.map_map];refine List.map_congr_left fun b hb=>?_;show(b.ren (f.rho tgt n0)).i=b.i - f.next0+n0;rw[b.yhy,ybjv (s6 b hb).1 (s6 b hb).2.1]
  rw[e];unfold List.Nodup at s7 ⊢;rw[List.pairwise_map];refine List.Pairwise.imp_of_mem (fun {x y} hx hy h=>?_) s7;obtain⟨bx,hbx,rfl⟩:=List.mem_map.1 hx;obtain⟨by_,hby,rfl⟩:=List.mem_map.1 hy;have:=(s6 bx hbx).1;have:=(s6 by_ hby).1;omega
 have hpre:yhc ((f.move tgt n0).pre.map (·.i))=true:=by rw[hpi];exact ynz hn
 unfold Fact.moves;simp only[Bool.and_eq_true];refine⟨⟨⟨⟨⟨⟨⟨⟨Nat.ble_eq_true_of_le s1,s2⟩,s3⟩,?_⟩,?_⟩,hpre⟩,?_⟩,?_⟩,Nat.ble_eq_true_of_le s8⟩
 ·refine List.all_eq_true.2 fun b hb=>?_;have:=(s4 b hb).2;unfold reflB at this;rw[Bool.and_eq_true]at this;rw[ybjj (s4 b hb).1,Bool.true_and];exact List.all_eq_true.2 fun v hv=>by have:=List.all_eq_true.1 this.1 v hv;rw[Bool.and_eq_true]at this;exact this.2
 ·refine List.all_eq_true.2 fun b hb=>?_;have:=(s6 b hb).2.2;unfold reflB at this;rw[Bool.and_eq_true]at this;rw[ybjj (s6 b hb).2.1,Bool.true_and];exact List.all_eq_true.2 fun v hv=>by have:=List.all_eq_true.1 this.1 v hv;rw[Bool.and_eq_true]at this;exact this.2
 ·refine List.all_eq_true.2 fun b' hb'=>?_;obtain⟨b,hb,rfl⟩:=List.mem_map.1 hb';have h2:=(s4 b hb).2;have h3:(b.ren (f.rho tgt n0)).i ∈ (f.move tgt n0).pre.map (·.i):=List.mem_map.2 ⟨_,hb',rfl⟩;rw[hpi]at h3;rw[ybjj (hlt _ h3),Bool.true_and];refine yoi (yre hpre _ hb') (yuj h2) ?_;show Nat.blt (b.l.map _).length 1000000=true;rw[List.length_map];unfold reflB at h2;rw[Bool.and_eq_true]at h2
  exact h2.2
 ·refine List.all_eq_true.2 fun b' hb'=>?_;obtain⟨b,hb,rfl⟩:=List.mem_map.1 hb';have h2:=(s6 b hb).2.2;refine yoi (yre hqi _ hb') (yuj h2) ?_;show Nat.blt (b.l.map _).length 1000000=true;rw[List.length_map];unfold reflB at h2;rw[Bool.and_eq_true]at h2;exact h2.2
end Ev
end Go.Proofs.YtpngeppkgoaimaaGreatDoor

namespace Go.Proofs.YtpngeppkgoaimaaGreatDoor
namespace Sh
open Go Ev

def Lies(B:List BlkL)(v:Value)(F:AM)(u:Value):Prop :=
 ∃ ρ:Nat->Nat,(∀ b ∈ B,∀ c ∈ B,ρ b.i=ρ c.i->b.i=c.i)/\(∀ b ∈ B,F (ρ b.i)=some (b.ren ρ).blk)/\u=ren1 ρ v
theorem Lies.mono{B:List BlkL}{v:Value}(F G:AM)(u:Value)(h:Le F G)(k:Lies B v F u):Lies B v G u:=by
 obtain⟨ρ,h1,h2,h3⟩:=k;exact⟨ρ,h1,fun b hb=>h _ _ (h2 b hb),h3⟩

def ydyf(B:List BlkL)(j:Nat):Option BlkL:=B.find? fun b=>Nat.beq b.i j
def ycei(p:Nat->Bool):Nat->Bool
 | 0=>true
 | n+1=>p n && ycei p n
theorem ybkv{p:Nat->Bool}:∀ {n:Nat},ycei p n=true -> ∀ k,k<n->p k=true
 | 0,_,k,h=>absurd h (Nat.not_lt_zero k)
 | n+1,h,k,hk=>by
  have h:(p n && ycei p n)=true:=h;rw[Bool.and_eq_true]at h
  by_cases q:k=n
  ·rw[q];exact h.1
  ·exact ybkv h.2 k (by omega)
def ybgf(B:List BlkL)(z n:Nat)(row:Nat->List Value->Bool):Value->Bool
 | .slice (some a) m _=>a.spot.isNone && Nat.beq m n && (match ydyf B a.block with
  | some b=>Nat.beq b.z z && Nat.ble (a.off+n * z) b.l.length && ycei (fun k=>row k ((b.l.drop (a.off+k * z)).take z)) n
  | none=>false)
 | .slice none 0 0=>Nat.beq n 0
 | _=>false
theorem yrt {B:List BlkL} {F:AM} {ρ:Nat->Nat} {z n:Nat} {row:Nat->List Value->Bool} {v:Value} {g:Nat->List SV} (hF:∀ b ∈ B,F (ρ b.i)=some (b.ren ρ).blk) (h:ybgf B z n row v=true)
  (hr:∀ k L,k<n->row k L=true->L.length=z/\RVL F om0 (g k) (L.map (ren2 ρ))/\(g k).all one1=true):RV F om0 (.sl z n g) (ren1 ρ v):=by
 unfold ybgf at h;split at h
 ·rename_i a m c
  simp only[Bool.and_eq_true]at h;obtain⟨⟨h1,h2⟩,h3⟩:=h;split at h3
  ·rename_i b hb
   simp only[Bool.and_eq_true]at h3;obtain⟨⟨h3,h4⟩,h5⟩:=h3;have hm:m=n:=Nat.eq_of_beq_eq_true h2;have hz:=Nat.eq_of_beq_eq_true h3;have h4:=Nat.le_of_ble_eq_true h4;have hmem:=List.mem_of_find?_eq_some hb;have hi:b.i=a.block:=Nat.eq_of_beq_eq_true (List.find?_some (p:=fun b:BlkL=>Nat.beq b.i a.block) hb);have h6:=hF b hmem;rw[hi]at h6;show RV F om0 _ (.slice (some (renA ρ a)) m c);rw[yke];subst hm
   obtain⟨A,o,sp⟩:=a;have hsp:sp=none:=by simpa using h1
   subst hsp;have h6:F (ρ A)=some (.cells (tOf (b.l.map (ren2 ρ))) (b.l.map (ren2 ρ)).length b.e b.z):=h6;have hrow:∀ k,k<m->_:=fun k hk=>hr k _ hk (ybkv h5 k hk);refine .sl (L:=fun k=>((b.l.drop (o+k * z)).take z).map (ren2 ρ)) h6 (.inl hz) (by rw[List.length_map];exact h4) ?_ ?_ (fun k hk=>(hrow k hk).2.1) (fun k hk=>(hrow k hk).2.2)
   ·intro k hk;rw[List.length_map];exact(hrow k hk).1
   ·intro k hk j hj;rw[ycz];simp only[List.getElem?_map,List.getElem?_take,List.getElem?_drop,hj,if_true]
  ·cases h3
 ·have h:Nat.beq n 0=true:=h;have h0:=Nat.eq_of_beq_eq_true h;subst h0;exact .sl0 (.inl rfl)
 ·cases h
def isI(v:Value)(n:Int):Bool:=match v with
 | .int .i64 m=>eqInt m n
 | _=>false
def isS(v:Value)(s:ByteArray):Bool:=match v with
 | .string t=>eqBytes t.data.toList s.data.toList
 | _=>false
theorem yql{F:AM}{ρ:Nat->Nat}{v:Value}{n:Int}(h:isI v n=true):RV F om0 (.i .i64 n) (ren2 ρ v):=by
 unfold isI at h;split at h
 ·rw[yrp h];exact .i
 ·cases h
theorem ycqh{F:AM}{ρ:Nat->Nat}{v:Value}{s:ByteArray}(h:isS v s=true):RV F om0 (.a (.string s)) (ren2 ρ v):=by
 unfold isS at h;split at h
 ·rename_i t
  have e:=yof h
  have:t=s:=by
   cases t;cases s
   congr 1;exact Array.toList_inj.1 e
  rw[this];exact .a rfl
 ·cases h
def ydqf(ls:List (Int × Int))(k:Nat):List Value->Bool
 | [x,y]=>isI x (ls.getD k (0,0)).1 && isI y (ls.getD k (0,0)).2
 | _=>false
def ycmz(l:List VarR)(k:Nat):List Value->Bool
 | [s,a,b,c,d,e]=>isS s (l.getD k default).name && isI a (l.getD k default).kind && isI b (l.getD k default).lo && isI c (l.getD k default).hi && isI d (l.getD k default).perNode && isI e (l.getD k default).perID
 | _=>false
def yzo(B:List BlkL)(ls:List (Int × Int))(v:Value):Bool:=ybgf B 2 ls.length (ydqf ls) v
def isSl:Value->Bool
 | .slice _ _ _=>true
 | _=>false
def ybzs(B:List BlkL)(l:List SetR)(k:Nat):List Value->Bool
 | [a,v]=>isI a (l.getD k default).var && isSl v && yzo B (l.getD k default).val v
 | _=>false
def ybwf(B:List BlkL)(l:List RuleR)(k:Nat):List Value->Bool
 | [s,v,w]=>isS s (l.getD k default).name && isSl v && yzo B (l.getD k default).guard v && isSl w && ybgf B 2 (l.getD k default).sets.length (ybzs B (l.getD k default).sets) w
 | _=>false
def ybsz(B:List BlkL)(v:Value)(l:List VarR):Bool:=ybgf B 6 l.length (ycmz l) v
def ybke(B:List BlkL)(v:Value)(l:List RuleR):Bool:=ybgf B 3 l.length (ybwf B l) v
section
variable {B:List BlkL} {F:AM} {ρ:Nat->Nat}
theorem ybgn{v:Value}(h:isSl v=true):ren2 ρ v=ren1 ρ v:=by
 unfold isSl at h;split at h
 ·rfl
 ·cases h
theorem ysl(hF:∀ b ∈ B,F (ρ b.i)=some (b.ren ρ).blk){ls:List (Int × Int)}{v:Value}(h:yzo B ls v=true):RV F om0 (ybc ls) (ren1 ρ v):=by
 refine yrt hF h fun k L hk hq=>?_;unfold ydqf at hq;split at hq
 ·simp only[Bool.and_eq_true]at hq;exact⟨rfl,.cons (yql hq.1) (.cons (yql hq.2) .nil),rfl⟩
 ·cases hq
theorem ybmq(hF:∀ b ∈ B,F (ρ b.i)=some (b.ren ρ).blk){l:List VarR}{v:Value}(h:ybsz B v l=true):RV F om0 (ydf l) (ren1 ρ v):=by
 refine yrt hF h fun k L hk hq=>?_;unfold ycmz at hq;split at hq
 ·simp only[Bool.and_eq_true]at hq;obtain⟨⟨⟨⟨⟨h1,h2⟩,h3⟩,h4⟩,h5⟩,h6⟩:=hq;exact⟨rfl,.cons (ycqh h1) (.cons (yql h2) (.cons (yql h3) (.cons (yql h4) (.cons (yql h5) (.cons (yql h6) .nil))))),rfl⟩
 ·cases hq
theorem ybnb(hF:∀ b ∈ B,F (ρ b.i)=some (b.ren ρ).blk){l:List SetR}{v:Value}(h:ybgf B 2 l.length (ybzs B l) v=true):RV F om0 (yiq l) (ren1 ρ v):=by
 refine yrt hF h fun k L hk hq=>?_;unfold ybzs at hq;split at hq
 ·simp only[Bool.and_eq_true]at hq;obtain⟨⟨h1,h2⟩,h3⟩:=hq;refine⟨rfl,.cons (yql h1) (.cons ?_ .nil),rfl⟩;rw[ybgn h2];exact ysl hF h3
 ·cases hq
theorem ybes(hF:∀ b ∈ B,F (ρ b.i)=some (b.ren ρ).blk){l:List RuleR}{v:Value}(h:ybke B v l=true):RV F om0 (ycq l) (ren1 ρ v):=by
 refine yrt hF h fun k L hk hq=>?_;unfold ybwf at hq;split at hq
 ·simp only[Bool.and_eq_true]at hq;obtain⟨⟨⟨⟨h1,h2⟩,h3⟩,h4⟩,h5⟩:=hq;refine⟨rfl,.cons (ycqh h1) (.cons ?_ (.cons ?_ .nil)),rfl⟩
  ·rw[ybgn h2];exact ysl hF h3
  ·rw[ybgn h4];exact ybnb hF h5
 ·cases hq
end
structure LaidP(fp:Fact)(t:ByteArray)(p:ProgR)(vv vr:Value)(Bv Br:List BlkL):Prop where
 args:fp.args = [.string t]
 pre:fp.pre = []
 v:fp.v = .agg #[.string p.name,vv,vr]
 still:fp.still=true
 bv:∀ b ∈ Bv,b ∈ fp.post
 br:∀ b ∈ Br,b ∈ fp.post
 vars:ybsz Bv vv p.vars=true
 rules:ybke Br vr p.rules=true
theorem ybjf{P:Program}{fp:Fact}{t:ByteArray}{p:ProgR}{vv vr:Value}{Bv Br:List BlkL}(hok:yea P fp)(h:LaidP fp t p vv vr Bv Br):Returns P fp.g [.a (.string t)] (.ag (ycn (Lies Bv vv) (Lies Br vr) p)):=by
 intro G m us hwf hle hus
 have hu:us = [.string t]:=by
  cases hus with
  | cons a b=>cases a with | a _=>cases b with | nil=>rfl
 subst hu;obtain⟨s1,⟨s2,s3⟩,s4,s5,s6,s7,s8⟩:=ylr h.still;have hmv:=yvq (tgt:=[]) (n0:=m.next) hok h.still (by rw[h.pre];rfl) List.nodup_nil (fun t ht=>by cases ht)
 obtain⟨ρ,hρ⟩:∃ ρ,fp.rho [] m.next=ρ:=⟨_,rfl⟩
 have hpost:(fp.move [] m.next).post=fp.post.map (BlkL.ren ρ):=by rw[<- hρ];rfl
 have hv:(fp.move [] m.next).v = .agg #[.string p.name,ren1 ρ vv,ren1 ρ vr]:=by
  show renV (fp.rho [] m.next) fp.v=_
  rw[hρ,h.v];rfl
 have hpre:(fp.move [] m.next).pre = []:=by
  show fp.pre.map _ = [];rw[h.pre];rfl
 have hfit:(fp.move [] m.next).fits fp.g [.string t] m=true:=by
  unfold Fact.fits;rw[hpre];show(Nat.beq fp.g fp.g && Nat.beq m.next m.next && eqL2 (fp.args.map (ren2 _)) [.string t] && true)=true
  rw[Nat.beq_refl,Nat.beq_refl,h.args];show(true && true && (eqBytes t.data.toList t.data.toList && true) && true)=true;rw[yqg];rfl
 have hri:∀ b ∈ fp.post,ρ b.i=b.i - fp.next0+m.next:=fun b hb=>by rw[<- hρ];exact ybjv (s6 b hb).1 (s6 b hb).2.1
 have hnd:yhc ((fp.post.map (BlkL.ren ρ)).map (·.i))=true:=by
  refine ynz ?_
  have e:(fp.post.map (BlkL.ren ρ)).map (·.i)=(fp.post.map (·.i)).map (fun i=>i - fp.next0+m.next):=by
   rw[List.map_map,List.map_map];refine List.map_congr_left fun b hb=>?_;show(b.ren ρ).i=_;rw[b.yhy,hri b hb];rfl
  rw[e];unfold List.Nodup at s7 ⊢;rw[List.pairwise_map];refine List.Pairwise.imp_of_mem (fun {x y} hx hy h=>?_) s7;obtain⟨bx,hbx,rfl⟩:=List.mem_map.1 hx;obtain⟨by_,hby,rfl⟩:=List.mem_map.1 hy;have:=(s6 bx hbx).1;have:=(s6 by_ hby).1;omega
 have hs:=yyn hmv hfit;unfold Fact.out at hs;rw[hv,hpre,hpost]at hs;refine⟨_,_,_,hs,Nat.le_refl _,?_,rfl,?_⟩
 ·intro i b hb;show(blksT m.b (fp.post.map (BlkL.ren ρ))).get i=some b;rw[ytz fun c hc=>?_]
  ·exact hb
  ·obtain⟨c,hc',rfl⟩:=List.mem_map.1 hc;have:=hwf i b hb;rw[c.yhy,hri c hc'];omega
 ·have hF:∀ b ∈ fp.post,frsh m.next ⟨(fp.move [] m.next).next1,blksT m.b (fp.post.map (BlkL.ren ρ)),(fp.move [] m.next).low⟩ G (ρ b.i)=some (b.ren ρ).blk:=fun b hb=>by
   unfold frsh;rw[if_pos (by rw[hri b hb];omega)]
   have:=yre (t:=m.b) hnd _ (List.mem_map.2 ⟨b,hb,rfl⟩);rw[b.yhy]at this;exact this
  have hinj:∀ b ∈ fp.post,∀ c ∈ fp.post,ρ b.i=ρ c.i->b.i=c.i:=fun b hb c hc e=>by
   rw[hri b hb,hri c hc]at e;have:=(s6 b hb).1;have:=(s6 c hc).1;omega
  refine .ag (.cons (.a rfl) (.cons (.ex ?_ (fun A B w=>Lies.mono A B w) ?_) (.cons (.ex ?_ (fun A B w=>Lies.mono A B w) ?_) .nil)))
  ·exact⟨ρ,fun b hb c hc=>hinj b (h.bv b hb) c (h.bv c hc),fun b hb=>hF b (h.bv b hb),rfl⟩
  ·exact ybmq (fun b hb=>hF b (h.bv b hb)) h.vars
  ·exact⟨ρ,fun b hb c hc=>hinj b (h.br b hb) c (h.br c hc),fun b hb=>hF b (h.br b hb),rfl⟩
  ·exact ybes (fun b hb=>hF b (h.br b hb)) h.rules

def inB(B:List BlkL):Value->Bool
 | .slice (some a) _ _=>(B.map (·.i)).elem a.block
 | .pointer (some a)=>(B.map (·.i)).elem a.block
 | .agg _=>false
 | .func _ _ _=>false
 | _=>true
theorem yif{B:List BlkL}{ρ σ:Nat->Nat}(h:∀ b ∈ B,ρ b.i=σ b.i){v:Value}(hv:inB B v=true):ren1 ρ v=ren1 σ v:=by
 have hk:∀ j,(B.map (·.i)).elem j=true->ρ j=σ j:=fun j hj=>by
  have:j ∈ B.map (·.i):=by simpa using hj
  obtain⟨b,hb,rfl⟩:=List.mem_map.1 this;exact h b hb
 cases v with
 | slice p n c=>cases p with
  | none=>rfl
  | some a =>
   show Value.slice (some (renA ρ a)) n c = .slice (some (renA σ a)) n c;rw[yke,yke,hk _ hv]
 | pointer p=>cases p with
  | none=>rfl
  | some a =>
   show Value.pointer (some (renA ρ a)) = .pointer (some (renA σ a));rw[yke,yke,hk _ hv]
 | agg a=>cases hv
 | func f a c=>cases hv
 | _=>rfl
theorem ybla{B:List BlkL}{τ:Nat->Nat}{v:Value}(hv:inB B v=true):ren2 τ v=ren1 τ v:=by
 cases v with
 | agg a=>cases hv
 | func f a c=>cases hv
 | _=>rfl
theorem yboh{B:List BlkL}{ρ σ:Nat->Nat}(h:∀ b ∈ B,ρ b.i=σ b.i){v:Value}(hv:inB B v=true):ren2 ρ v=ren2 σ v:=by
 rw[ybla hv,ybla hv];exact yif h hv
def ybez(B:List BlkL):Bool:=B.all fun b=>b.l.all (inB B)
theorem ybad{B:List BlkL}{ρ σ:Nat->Nat}(hc:ybez B=true)(h:∀ b ∈ B,ρ b.i=σ b.i){b:BlkL}(hb:b ∈ B):b.ren ρ=b.ren σ:=by
 have h1:=List.all_eq_true.1 (List.all_eq_true.1 hc b hb)
 have e:∀ τ:Nat->Nat,b.ren τ=⟨τ b.i,b.e,b.z,b.l.map (ren2 τ)⟩:=fun τ=>by
  unfold BlkL.ren;rw[forceN_eq]
 rw[e,e,h b hb];congr 1;exact List.map_congr_left fun v hv=>yboh h (h1 v hv)
theorem ywx{low:Nat}:∀ {l:List BlkL} {t:T ABlk},(∀ b ∈ l,b.i<low)->dropT t low l=t
 | [],_,_=>rfl
 | b :: l,t,h=>by
  have hb:=h b List.mem_cons_self;unfold dropT
  have e:Nat.ble low b.i=false:=by
   cases q:Nat.ble low b.i with
   | false=>rfl
   | true=>have:=Nat.le_of_ble_eq_true q;omega
  rw[e,iteB_eq,if_neg (by simp)]
  exact ywx fun c hc=>h c (List.mem_cons_of_mem _ hc)
structure GoodV(fv:Fact)(p:ProgR)(vv vr:Value)(Bv Br:List BlkL):Prop where
 args:fv.args = [.agg #[.string p.name,vv,vr]]
 pre:∀ b ∈ fv.pre,b ∈ Bv\/b ∈ Br
 bv:∀ b ∈ Bv,b ∈ fv.pre
 br:∀ b ∈ Br,b ∈ fv.pre
 v:fv.v = .bool true
 post:fv.post = []
 still:fv.still=true
 apart:(Bv.all fun b=>Br.all fun c=>!(Nat.beq b.e c.e) && !(Nat.beq b.i c.i))=true
 cv:ybez Bv=true
 cr:ybez Br=true
 iv:inB Bv vv=true
 ir:inB Br vr=true
 refl:eq2 (.agg #[.string p.name,vv,vr]) (.agg #[.string p.name,vv,vr])=true
theorem ybkj{P:Program}{fv:Fact}{p:ProgR}{vv vr:Value}{Bv Br:List BlkL}(hok:yea P fv)(h:GoodV fv p vv vr Bv Br):Returns P fv.g [.ag (ycn (Lies Bv vv) (Lies Br vr) p)] (.b true):=by
 intro G m us hwf hle hus
 obtain⟨ρ1,ρ2,hu,a1,a2,a3,a4⟩:∃ ρ1 ρ2:Nat->Nat,us = [.agg #[.string p.name,ren1 ρ1 vv,ren1 ρ2 vr]]/\(∀ b ∈ Bv,∀ c ∈ Bv,ρ1 b.i=ρ1 c.i->b.i=c.i)/\(∀ b ∈ Bv,G (ρ1 b.i)=some (b.ren ρ1).blk) /\
   (∀ b ∈ Br,∀ c ∈ Br,ρ2 b.i=ρ2 c.i->b.i=c.i) /\ ∀ b ∈ Br,G (ρ2 b.i)=some (b.ren ρ2).blk:=by
  cases hus with
  | cons a b =>
   cases b
   cases a with
   | ag hl =>
    cases hl with
    | cons x1 hl =>
     cases x1
     cases hl with
     | cons x2 hl =>
      cases x2 with
      | ex q2 _ _ =>
       cases hl with
       | cons x3 hl =>
        cases x3 with
        | ex q3 _ _ =>
         cases hl
         obtain⟨ρ1,b1,b2,rfl⟩:=q2;obtain⟨ρ2,b3,b4,rfl⟩:=q3;exact⟨ρ1,ρ2,rfl,b1,b2,b3,b4⟩
 subst hu;obtain⟨s1,⟨s2,s3⟩,s4,s5,s6,s7,s8⟩:=ylr h.still
 have hap:∀ b ∈ Bv,∀ c ∈ Br,b.e ≠ c.e/\b.i ≠ c.i:=fun b hb c hc=>by
  have:=List.all_eq_true.1 (List.all_eq_true.1 h.apart b hb) c hc;simp only[Bool.and_eq_true,Bool.not_eq_true']at this;exact⟨fun e=>(by rw[e,Nat.beq_refl]at this;exact absurd this.1 (by decide)),fun e=>(by rw[e,Nat.beq_refl]at this;exact absurd this.2 (by decide))⟩
 let σ:Nat->Nat:=fun i=>if (Bv.map (·.i)).elem i then ρ1 i else ρ2 i
 have hcross:∀ b ∈ Bv,∀ c ∈ Br,ρ1 b.i ≠ ρ2 c.i:=fun b hb c hc e=>by
  have e1:=a2 b hb;have e2:=a4 c hc;rw[e,e2]at e1
  injection e1 with e1
  unfold BlkL.blk at e1
  injection e1 with _ _ e3 _
  exact(hap b hb c hc).1 e3.symm
 have hG:∀ i b,G i=some b->i<m.next:=fun i b hb=>hwf i b (hle i b hb)
 have sv:∀ b ∈ Bv,σ b.i=ρ1 b.i:=fun b hb=>if_pos (by simpa using⟨b,hb,rfl⟩)
 have sr:∀ b ∈ Br,σ b.i=ρ2 b.i:=fun b hb=>by
  refine if_neg fun q=>?_;have:b.i ∈ Bv.map (·.i):=by simpa using q
  obtain⟨d,hd,hdi⟩:=List.mem_map.1 this;exact(hap d hd b hb).2 hdi
 have tgtLt:∀ b ∈ fv.pre,σ b.i<m.next:=fun b hb=>by
  rcases h.pre b hb with q | q
  ·rw[sv b q];exact hG _ _ (a2 b q)
  ·rw[sr b q];exact hG _ _ (a4 b q)
 have sinj:∀ b ∈ fv.pre,∀ c ∈ fv.pre,σ b.i=σ c.i->b.i=c.i:=fun b hb c hc e=>by
  rcases h.pre b hb with q | q<;>rcases h.pre c hc with q' | q'
  ·rw[sv b q,sv c q']at e;exact a1 b q c q' e
  ·rw[sv b q,sr c q']at e;exact absurd e (hcross b q c q')
  ·rw[sr b q,sv c q']at e;exact absurd e.symm (hcross c q' b q)
  ·rw[sr b q,sr c q']at e;exact a3 b q c q' e
 obtain⟨tgt,htgt⟩:∃ t,fv.pre.map (fun b=>σ b.i)=t:=⟨_,rfl⟩
 have tlt:∀ t ∈ tgt,t<m.next:=fun t ht=>by
  rw[<- htgt]at ht;obtain⟨b,hb,rfl⟩:=List.mem_map.1 ht;exact tgtLt b hb
 have tnd:tgt.Nodup:=by
  rw[<- htgt];have s5:=s5;unfold List.Nodup at s5 ⊢;rw[List.pairwise_map]at s5 ⊢;exact List.Pairwise.imp_of_mem (fun {x y} hx hy h e=>h (sinj x hx y hy e)) s5
 have tlen:fv.pre.length=tgt.length:=by rw[<- htgt,List.length_map]
 have hmv:=yvq (n0:=m.next) hok h.still tlen tnd tlt
 have hrho:=ybxx (n0:=m.next) s4 s5 tlen
 obtain⟨ρ,hρ⟩:∃ ρ,fv.rho tgt m.next=ρ:=⟨_,rfl⟩
 rw[hρ,<- htgt]at hrho;have hri:∀ b ∈ fv.pre,ρ b.i=σ b.i:=List.map_inj_left.1 hrho;have hv1:∀ b ∈ Bv,ρ b.i=ρ1 b.i:=fun b hb=>by rw[hri b (h.bv b hb),sv b hb]
 have hr1:∀ b ∈ Br,ρ b.i=ρ2 b.i:=fun b hb=>by rw[hri b (h.br b hb),sr b hb]
 have hargs:(fv.move tgt m.next).args = [.agg #[.string p.name,ren1 ρ1 vv,ren1 ρ2 vr]]:=by
  show fv.args.map (ren2 (fv.rho tgt m.next))=_
  rw[hρ,h.args,<- yif hv1 h.iv,<- yif hr1 h.ir];rfl
 have hself:eqL2 [.agg #[.string p.name,ren1 ρ1 vv,ren1 ρ2 vr]] [.agg #[.string p.name,ren1 ρ1 vv,ren1 ρ2 vr]]=true:=by
  have hf:yla (.agg #[.string p.name,vv,vr])=true:=by
   have:=s2;rw[h.args]at this
   simpa using this
  have e:=ycbh (ρ:=ρ) hf h.refl;rw[show ren2 ρ (.agg #[.string p.name,vv,vr]) = .agg #[.string p.name,ren1 ρ vv,ren1 ρ vr]from rfl,yif hv1 h.iv,yif hr1 h.ir]at e
  show(eq2 _ _ && true)=true;rw[e];rfl
 have hpre:∀ b ∈ fv.pre,m.b.get (ρ b.i)=some (b.ren ρ).blk:=fun b hb=>by
  rcases h.pre b hb with q | q
  ·rw[ybad h.cv hv1 q,hv1 b q];exact hle _ _ (a2 b q)
  ·rw[ybad h.cr hr1 q,hr1 b q];exact hle _ _ (a4 b q)
 have hp:(fv.move tgt m.next).pre=fv.pre.map (BlkL.ren ρ):=by rw[<- hρ];rfl
 have hfit:(fv.move tgt m.next).fits fv.g [.agg #[.string p.name,ren1 ρ1 vv,ren1 ρ2 vr]] m=true:=by
  unfold Fact.fits;rw[hargs,hself];show(Nat.beq fv.g fv.g && Nat.beq m.next m.next && true && (fv.move tgt m.next).pre.all (blkIs m))=true
  rw[Nat.beq_refl,Nat.beq_refl,hp];show List.all _ _=true;refine List.all_eq_true.2 fun b' hb'=>?_;obtain⟨b,hb,rfl⟩:=List.mem_map.1 hb';have h2:=(s4 b hb).2;refine yoi ?_ (yuj h2) ?_
  ·rw[b.yhy];exact hpre b hb
  ·show Nat.blt (b.l.map _).length 1000000=true;rw[List.length_map];unfold reflB at h2;rw[Bool.and_eq_true]at h2;exact h2.2
 have hs:=yyn hmv hfit;unfold Fact.out at hs
 have hv:(fv.move tgt m.next).v = .bool true:=by
  show renV (fv.rho tgt m.next) fv.v=_
  rw[h.v];rfl
 have hpost:(fv.move tgt m.next).post = []:=by
  show fv.post.map _ = [];rw[h.post];rfl
 rw[hv,hpost]at hs;refine⟨_,_,_,hs,Nat.le_refl _,?_,rfl,.b⟩;intro i b hb;show(dropT m.b m.next (fv.move tgt m.next).pre).get i=some b
 rw[ywx fun c hc=>?_]
 ·exact hb
 ·rw[hp]at hc;obtain⟨c,hc',rfl⟩:=List.mem_map.1 hc;rw[c.yhy,hri c hc'];exact tgtLt c hc'
end Sh
end Go.Proofs.YtpngeppkgoaimaaGreatDoor

namespace Go.Proofs.YtpngeppkgoaimaaGreatDoor
namespace Ev
open Go Go.RowKit

theorem ymw(c:UInt8):∀ (l:List UInt8) (k:Nat),(match findByte c l k with | some i=>Int.ofNat i | none=>-1)=(if Lib.indexByte l c == -1 then -1 else Lib.indexByte l c+(k:Int))
 | [],k=>by simp[findByte,Lib.indexByte]
 | x :: l,k=>by
  unfold findByte Lib.indexByte
  by_cases hx:x=c
  ·subst hx;simp
  ·have h1:Nat.beq x.toNat c.toNat=false:=by
    rw[Bool.eq_false_iff];intro h;exact hx (UInt8.toNat_inj.1 (Nat.eq_of_beq_eq_true h))
   have h2:(x == c)=false:=by simpa using hx
   rw[h1,h2];have ih:=ymw c l (k+1);simp only[Bool.cond_eq_ite,Bool.false_eq_true,if_false];rw[ih];have:=Lib.indexByte_ge l c
   by_cases hm:Lib.indexByte l c = -1
   ·simp[hm]
   ·have hm':(Lib.indexByte l c == -1)=false:=by simpa using hm
    rw[hm'];simp only[Bool.false_eq_true,if_false];rw[if_neg (by simp;omega)]
    push_cast;omega

theorem ybcx(args:List Value)(m:Mem)(out:Out)(h:evIndexByte m args=some out):ybv Tryz.prog (.call 215 args m) out:=by
 unfold evIndexByte at h;split at h
 ·rename_i s c
  have hf:=ymw c.toUInt8 s.data.toList 0
  have key:∀ n:Int,n=Lib.indexByte s.data.toList c.toUInt8->ybv Tryz.prog (.call 215 [.string s,.int .u8 (.ofNat c)] m) (.call (.int .i64 n) (enterM m)):=by
   intro n hn hw;refine⟨⟨Nat.le_refl _,fun i b hb=>.inl ⟨b,hb⟩,fun i b _ _ hb=>hb,hw⟩,fun φ M w args' hR hs hv _=>.inr ⟨.int .i64 n,w,?_,?_⟩⟩
   ·have e:args' = [.string s,.int .u8 (.ofNat c)]:=by
     cases hv with
     | cons h1 h2 =>
      cases h2 with
      | cons h3 h4 =>
       cases h4
       rw[h1.eq_simple rfl,h3.eq_simple rfl]
    subst e;rw[run_callFunc_extern Tryz.func215 (by kernel_rfl) (by kernel_rfl) (by kernel_rfl) (by kernel_rfl),Lib.run_indexByteString,hn]
    rfl
   ·exact⟨_,rfl,φ,M,⟨φ.le_refl,fun _ _=>rfl,hR,hs,fun _ _ _=>rfl,WG.refl _ _ _⟩,.simple rfl⟩
  have h0:(if Lib.indexByte s.data.toList c.toUInt8 == -1 then -1 else Lib.indexByte s.data.toList c.toUInt8+((0:Nat):Int))=Lib.indexByte s.data.toList c.toUInt8:=by
   by_cases hm:Lib.indexByte s.data.toList c.toUInt8 = -1
   ·simp[hm]
   ·simp[hm]
  rw[h0]at hf;split at h
  ·rename_i i hi
   rw[hi]at hf;simp only[forceN_eq]at h;cases h
   exact key _ hf
  ·rename_i hi
   rw[hi]at hf;cases h
   exact key _ hf
 ·cases h
end Ev
end Go.Proofs.YtpngeppkgoaimaaGreatDoor

namespace Go.Proofs.YtpngeppkgoaimaaGreatDoor
open Go.RowKit

theorem yyh(w:World):Calls Tryz.prog 127 #[.nilIface] w fun e w'=>e = .returned (.tuple #[.agg #[.int .i64 0,.int .i64 0],.bool false])/\Below w.heap.size w w':=by
 go_enter Tryz.func127,Tryz.ntmps127
 go_wp2
 refine⟨rfl,.tuple #[.agg #[.int .i64 0,.int .i64 0],.bool false],?_,rfl,?_⟩
 ·simp[results,Tryz.results127,go_sem]
 ·exact(Below.refl _ _).alloc (Nat.le_refl _) _

theorem catch_idle(p q:Addr)(w:World) :
  CallsD Tryz.prog 126 #[.pointer (some p),.pointer (some q)] .returning w fun e u' w'=>e = .returned (.tuple #[])/\u' = .returning/\Below w.heap.size w w':=by
 refine callsD_of_wpS Tryz.func126 rfl fun c₀ cs hu=>?_;apply wpS_seq;apply wpS_region;simp[wpOpsS,go_sem,recoverD,hu,Tryz.ntmps126,Exit.thenS];refine(yyh w).mono ?_;rintro e w1 ⟨rfl,hb⟩;simp[go_sem];apply wpS_seq;apply wpS_region;simp[wpOpsS,go_sem,Exit.thenS];refine wpS_cond (t:=false) (by simp[Act.eval,Array.replicate]) ?_
 simp only[Bool.false_eq_true,if_false];refine wpS_of_wp (wp_skip ?_);refine⟨rfl,.returning,by cases c₀;simp_all,.tuple #[],by simp[results,Tryz.results126],rfl,rfl,hb.alloc hb.size _⟩

def catchW(w:World):World:=(w.alloc (.cells #[.int .i64 0] 3)).alloc (.cells #[.int .i64 0] 64)
theorem catchW_0(w:World):(catchW w).heap[w.heap.size]? = some (.cells #[.int .i64 0] 3):=by
 unfold catchW;rw[Below.heap_alloc _ _ _ (by simp[go_sem])]
 exact heap_alloc_new w _
theorem catchW_1(w:World):(catchW w).heap[w.heap.size+1]? = some (.cells #[.int .i64 0] 64):=by
 have:=heap_alloc_new (w.alloc (.cells #[.int .i64 0] 3)) (.cells #[.int .i64 0] 64);rw[show(w.alloc (.cells #[.int .i64 0] 3)).heap.size=w.heap.size+1 by simp[go_sem]]at this
 exact this
theorem catch_calls (h:FuncId) (first cap:Array Value) (w:World) (Q:World->Prop)
  (hq:∀ w',Q w'->w'.heap[w.heap.size]? = (catchW w).heap[w.heap.size]? /\ w'.heap[w.heap.size+1]? = (catchW w).heap[w.heap.size+1]?)
  (hc:((callFunc h (first ++ cap)).run Tryz.prog (catchW w) = .ok (.enter h (first ++ cap)) (catchW w)/\Calls Tryz.prog h (first ++ cap) (catchW w) fun e w'=>(∃ v,e = .returned v)/\Q w') \/
   (∃ v w',(callFunc h (first ++ cap)).run Tryz.prog (catchW w) = .ok (.value v) w'/\Q w')) :
  Calls Tryz.prog 97 #[.func (.func h) first cap] w fun e w''=>e = .returned (.tuple #[.int .i64 0,.int .i64 0]) /\
   ∃ w',Q w'/\Below w'.heap.size ((w'.setCell ⟨w.heap.size,0,none⟩ (.int .i64 0)).setCell ⟨w.heap.size+1,0,none⟩ (.int .i64 0)) w'':=by
 have hmf:∀ (fn:Fn) (first cap:Array Value) (w:World),(Instr.makeFunc fn first cap).run Tryz.prog w = .ok (.func fn first cap) w:=fun _ _ _ _=>rfl
 have Hq:=Lib.hid hq;clear hq
 have Hc:=Lib.hid hc;clear hc
 go_enter_defers Tryz.func97,Tryz.ntmps97
 generalize hC:(Code.seq (Code.region 2 _ false) _)=C
 generalize hB:(bodyPostD _ _ _)=B
 go_wp2
 subst hC hB;refine wp_seq (wp_region_list ?_);refine wpList_plain rfl fun K hK=>?_;simp[Oper.wp,go_sem];apply hK;refine wpList_plain rfl fun K2 hK2=>?_;simp[Oper.wp,go_sem]
 have key:∀ v w',Q w'->K2 { tmps:=#[.func (.func h) first cap,undef,.pointer (some ⟨w.heap.size,0,none⟩),.pointer (some ⟨w.heap.size+1,0,none⟩),.func (.func 126) #[] #[.pointer (some ⟨w.heap.size,0,none⟩),.pointer (some ⟨w.heap.size+1,0,none⟩)],.func (.func h) first cap,v],defers:=[{ target:=.fn (.func 126) #[.pointer (some ⟨w.heap.size,0,none⟩),.pointer (some ⟨w.heap.size+1,0,none⟩)],args:=#[] }] } w':=by
  intro v w' hQ;apply hK2;refine wpList_nil ?_;obtain⟨h1,h2⟩:=Hq.out w' hQ;have h1:w'.heap[w.heap.size]? = some (.cells #[.int .i64 0] 3):=h1.trans (catchW_0 w);have h2:w'.heap[w.heap.size+1]? = some (.cells #[.int .i64 0] 64):=h2.trans (catchW_1 w);have c1:w'.cell? ⟨w.heap.size,0,none⟩=some (.int .i64 0):=by simp[World.cell?,h1]
  have c2:w'.cell? ⟨w.heap.size+1,0,none⟩=some (.int .i64 0):=by simp[World.cell?,h2]
  have z1:w'.frozen? ⟨w.heap.size,0,none⟩=false:=by simp[World.frozen?,h1]
  have z2:w'.frozen? ⟨w.heap.size+1,0,none⟩=false:=by simp[World.frozen?,h2]
  have l1:=(Array.getElem?_eq_some_iff.1 h1).1;have l2:=(Array.getElem?_eq_some_iff.1 h2).1;have HQ:=Lib.hid hQ;clear hQ
  clear h1 h2
  simp only[Exit.then]
  go_wp2
  refine leaves_cons (f:=126) (args:=#[.pointer (some ⟨w.heap.size,0,none⟩),.pointer (some ⟨w.heap.size+1,0,none⟩)]) (by simp) (by simp[go_sem]) ?_
  refine(catch_idle ⟨w.heap.size,0,none⟩ ⟨w.heap.size+1,0,none⟩ _).mono ?_;rintro e u' w'' ⟨rfl,rfl,hb⟩;have hsz:((w'.setCell ⟨w.heap.size,0,none⟩ (.int .i64 0)).setCell ⟨w.heap.size+1,0,none⟩ (.int .i64 0)).heap.size=w'.heap.size:=by simp[go_sem]
  rw[hsz]at hb
  have d1:w''.cell? ⟨w.heap.size,0,none⟩=some (.int .i64 0):=by
   rw[hb.cell l1];simp[go_sem,c1]
  have d2:w''.cell? ⟨w.heap.size+1,0,none⟩=some (.int .i64 0):=by
   rw[hb.cell l2];simp[go_sem,c2]
  simp[Leaves,settle,results,Tryz.results97,go_sem,d1,d2];exact⟨w',HQ.out,hb⟩
 have hcc:=RowKit.Hid.out Hc
 clear Hc hmf Hq hK
 revert key
 generalize K2=K
 intro key;rw[show((w.alloc (Obj.cells #[Value.int IntKind.i64 0] 3)).alloc (Obj.cells #[Value.int IntKind.i64 0] 64))=catchW w from rfl]
 generalize Sem.run Tryz.prog (callFunc h (first ++ cap)) (catchW w)=r at hcc ⊢
 rcases hcc with⟨rfl,hc⟩ | ⟨v,w',rfl,hc⟩
 ·rw[Oper.upon_enter];refine hc.mono ?_;rintro e w' ⟨⟨v,rfl⟩,hQ⟩;exact key v w' hQ
 ·exact key v w' hc
end Go.Proofs.YtpngeppkgoaimaaGreatDoor

namespace Go.Proofs.YtpngeppkgoaimaaGreatDoor
namespace Ev
open Go Go.RowKit

theorem yrw(w:World)(k:Nat)(hk:k<w.heap.size):(catchW w).heap[k]? = w.heap[k]?:=by
 unfold catchW;rw[Below.heap_alloc _ _ _ (by simp[go_sem];omega),Below.heap_alloc _ _ _ hk]
theorem yev(w:World):(catchW w).heap.size=w.heap.size+2:=by simp[catchW,go_sem]
theorem yccs(self:Task->Option Out)(hself:yel Tryz.prog self)(args:List Value)(m:Mem)(out:Out)(h:evCatch self m args=some out):ybv Tryz.prog (.call 97 args m) out:=by
 unfold evCatch at h;split at h
 ·rename_i g first captured
  obtain⟨o,ho,h2⟩:=ob_some h;cases o with
  | code=>cases h2
  | call v m1 =>
   cases h2
   have hs:=hself _ _ ho;intro hw;obtain⟨hext,hall⟩:=hs hw;refine⟨hext,fun φ M w args' hR hsub hv hfresh=>.inl ⟨ycf yjr Tryz.func97 rfl _ _,?_⟩⟩;obtain⟨u,rfl,hu⟩:=yfp hv;obtain⟨x',y',rfl,hf1,hf2⟩:=hu.func_inv;have hR2:Rel φ M (catchW w):=hR.keep fun k hk=>yrw w k hk
   have himg:∀ k,w.heap.size<=k -> ¬ Img φ M k:=by
    rintro k hk ⟨i,b,l,h1,h2,h3⟩;obtain⟨l',h4,h5⟩:=hR.blk i b h1;rw[h2]at h4;cases h4
    have:=h5.lt;omega
   have hcall:=hall φ M (catchW w) (x' ++ y') hR2 hsub (hf1.append hf2) hfresh;rw[show(x' ++ y').toArray=x'.toArray ++ y'.toArray by simp]at hcall
   refine(catch_calls g x'.toArray y'.toArray w (fun w'=>∃ e,ydpo φ M (catchW w) m v m1 e w') ?_ ?_).mono ?_
   ·rintro w' ⟨e,v',rfl,φ',M',hgood,hvr⟩;exact⟨hgood.wg.keep _ (by rw[yev];omega) (himg _ (Nat.le_refl _)),hgood.wg.keep _ (by rw[yev];omega) (himg _ (by omega))⟩
   ·rcases hcall with⟨h1,h2⟩ | ⟨v',w',h1,h2⟩
    ·refine .inl ⟨h1,h2.mono ?_⟩;intro e w' hk;have hk':=hk;obtain⟨v',rfl,_⟩:=hk;exact⟨⟨_,rfl⟩,_,hk'⟩
    ·exact .inr ⟨v',w',h1,_,h2⟩
   ·rintro e w'' ⟨rfl,w',⟨e,v',rfl,φ',M',hgood,hvr⟩,hb⟩;have hsz:w.heap.size+2<=w'.heap.size:=by rw[<- yev];exact hgood.wg.size
    have hheap:∀ k,k<w'.heap.size->k ≠ w.heap.size->k ≠ w.heap.size+1->w''.heap[k]? = w'.heap[k]?:=fun k hk h1 h2=>by
     rw[hb.block k hk,Below.heap_setCell _ _ _ _ h2,Below.heap_setCell _ _ _ _ h1]
    have hne:∀ k,Img φ' M' k->k ≠ w.heap.size/\k ≠ w.heap.size+1:=fun k hi=>by
     refine⟨?_,?_⟩
     ·rintro rfl;exact himg _ (Nat.le_refl _) (hgood.wg.img _ (by rw[yev];omega) hi)
     ·rintro rfl;exact himg _ (by omega) (hgood.wg.img _ (by rw[yev];omega) hi)
    have hb2:w'.heap.size<=w''.heap.size:=by
     have:=hb.size
     simpa [go_sem]using this
    refine⟨_,rfl,φ',M',⟨hgood.le,hgood.out,⟨fun i b h1=>?_,hgood.rel.inj⟩,hgood.sub,hgood.frame,⟨hb.os.trans hgood.wg.os,hb.tape.trans hgood.wg.tape,hb.output.trans hgood.wg.output,by omega,fun k hk hi=>?_,fun k hk hi=>hgood.wg.img k (by rw[yev];omega) hi⟩⟩,?_⟩
    ·obtain⟨l,h2,h3⟩:=hgood.rel.blk i b h1;have hn:=hne l.blk ⟨i,b,l,h1,h2,rfl⟩;exact⟨l,h2,h3.keep (hheap _ h3.lt hn.1 hn.2)⟩
    ·rw[hheap k (by omega) (by omega) (by omega),hgood.wg.keep k (by rw[yev];omega) hi,yrw w k hk]
    ·exact .tuple (.cons (.simple rfl) (.cons (.simple rfl) .nil))
 ·cases h
end Ev
end Go.Proofs.YtpngeppkgoaimaaGreatDoor

namespace Go.Proofs.YtpngeppkgoaimaaGreatDoor
namespace Ev
open Go Go.RowKit
def hkC(cs:List Chunk):Hooks:=⟨some 97,some 215,some 116,symB,cs,none⟩
def hk(fs:List Fact):Hooks:=hkC [⟨1000000000000,fs⟩]
def yw(fs:List Fact):Prop:=∀ f ∈ fs,yea Tryz.prog f
def ybj(cs:List Chunk):Prop:=∀ c ∈ cs,yw c.l
theorem ycve{cs:List Chunk}(h:ybj cs):HooksOk Tryz.prog (hkC cs) :=
 ⟨fun g h=>(by cases h;exact yccs),fun g h=>(by cases h;exact ybcx),fun g h=>(by cases h;exact ybft),h,fun g h=>(by cases h)⟩
theorem ybj.nil:ybj []:=fun c hc=>by cases hc
theorem ybj.cons{n:Nat}{l:List Fact}{cs:List Chunk}(h:yw l)(t:ybj cs):ybj (⟨n,l⟩ :: cs):=fun c hc=>by
 rcases List.mem_cons.1 hc with rfl | hc
 ·exact h
 ·exact t c hc
theorem ydoo{fs:List Fact}(h:yw fs):HooksOk Tryz.prog (hk fs):=ycve (ybj.cons h ybj.nil)
theorem yw.nil:yw []:=fun f hf=>by cases hf
theorem yw.cons{f:Fact}{l:List Fact}(h:yea Tryz.prog f)(t:yw l):yw (f :: l):=fun x hx=>by
 rcases List.mem_cons.1 hx with rfl | hx
 ·exact h
 ·exact t x hx
theorem yw.at_{f:Fact}{l:List Fact}(h:yw l)(i:Nat)(e:l[i]? = some f):yea Tryz.prog f:=h f (List.mem_of_getElem? e)
theorem yw.append{a b:List Fact}(ha:yw a)(hb:yw b):yw (a ++ b):=fun f hf=>by
 rcases List.mem_append.1 hf with h | h
 ·exact ha f h
 ·exact hb f h
theorem yw.check{fs new:List Fact}(h:yw fs)(hc:new.all (fun f=>f.check Tryz.prog (hk fs))=true):yw new:=fun f hf =>
 ykb (yna mix yjr (ydoo h) 3000) (List.all_eq_true.1 hc f hf)
noncomputable def checkSeq(new:List Fact):List Fact->Bool:=List.rec (fun _=>true) (fun f _ ih fs=>f.check Tryz.prog (hk fs) && ih (f :: fs)) new
theorem yw.seq:∀ {new fs:List Fact},yw fs->checkSeq new fs=true->yw new
 | [],_,_,_=>yw.nil
 | f :: l,fs,h,hc=>by
  have hc:(f.check Tryz.prog (hk fs) && checkSeq l (f :: fs))=true:=hc;rw[Bool.and_eq_true]at hc;have hf:yea Tryz.prog f:=ykb (yna mix yjr (ydoo h) 3000) hc.1
  have hfs:yw (f :: fs):=fun x hx=>by
   rcases List.mem_cons.1 hx with rfl | hx
   ·exact hf
   ·exact h x hx
  have hl:=yw.seq hfs hc.2;intro x hx;rcases List.mem_cons.1 hx with rfl | hx
  ·exact hf
  ·exact hl x hx
theorem yw.one{f:Fact}{cs:List Chunk}(h:ybj cs)(hc:f.check Tryz.prog (hkC cs)=true):yw [f] :=
 yw.cons (ykb (yna mix yjr (ycve h) 3000) hc) yw.nil
def by8(l:List Nat):ByteArray:=⟨(l.map Nat.toUInt8).toArray⟩
end Ev
end Go.Proofs.YtpngeppkgoaimaaGreatDoor

