/- Lemmas, joined: MzR MzM Mwn RvG Li Mp Nb Tz Nd Loc Dl ScLw WlA WlB WlC WrN Dm Mwo RowA ShW RowB RowC. -/
import Derived.Test.YtiejahgklcjhkaaGreatDoorPkF17
import Derived.Test.YtiejahgklcjhkaaGreatDoorPkF10
import Derived.Test.YtiejahgklcjhkaaGreatDoorPkF9
import Derived.Test.YtiejahgklcjhkaaGreatDoorPkF15
import Derived.Test.YtiejahgklcjhkaaGreatDoorPkF14
import Derived.Test.YtiejahgklcjhkaaGreatDoorPkF13
import Derived.Lib.TrailingZeros
import Derived.Test.YtiejahgklcjhkaaGreatDoorPkF8
import Derived.Test.YtiejahgklcjhkaaGreatDoorPkF11
import Derived.Test.YtiejahgklcjhkaaGreatDoorPkF12
import Derived.Test.YtiejahgklcjhkaaGreatDoorPkF16
import Derived.ProofKit
import Derived.OpenShut
import Derived.ShutString
import Derived.ChangeOld
import Derived.Deep.Matrix
import Derived.Lib.SmallJoins
import Derived.Test.YtiejahgklcjhkaaGreatDoorPkF7
set_option linter.unusedSimpArgs false
set_option linter.unusedVariables false
namespace Go.Proofs.YtiejahgklcjhkaaGreatDoor
namespace Ev
open Go
set_option maxRecDepth 1000000
def Mzm0:Fact:=yqa.move [] 33
theorem yctd:ych Tryz.prog Mzm0:=ycq (yh.at_ ybfc 0 rfl) (by kernel_rfl)
end Ev
end Go.Proofs.YtiejahgklcjhkaaGreatDoor

namespace Go.Proofs.YtiejahgklcjhkaaGreatDoor
namespace Ev
open Go Go.RowKit
def mzF:List Fact:=[Mzm0,ybrc,ybtc]
theorem ydex:yh mzF:=(yh.cons (f:=Mzm0) yctd (yh.cons (f:=ybrc) (yh.at_ ycbo 0 rfl) (yh.cons (f:=ybtc) (yh.at_ ybxn 0 rfl) yh.nil)))
def mzH:Hooks:=⟨some 149,some 261,some 153,symB,[⟨1000000000000,mzF⟩],some 158⟩
theorem yddm:HooksOk Tryz.prog mzH:=⟨fun g h=>(by cases h;exact ybgt),fun g h=>(by cases h;exact ynq),fun g h=>(by cases h;exact ybwa),ydx.cons ydex ydx.nil,fun g h=>(by cases h;exact yvj)⟩
def mzT:Option Value->Bool
 | some (.bool b)=>b
 | _=>false
theorem ydda:∀ {o:Option Value},mzT o=true->o=some (.bool true)
 | some (.bool true),_=>rfl
set_option maxRecDepth 1000000 in
theorem ybdd:outV (ev Tryz.prog mzH 3000 (.call 64 [] mem0))=some (.bool true):=ydda (by kernel_rfl)
theorem ycyx(w:World)(hG:GlW w):Calls Tryz.prog 64 #[] w fun e w'=>e = .returned (.bool true)/\Below w.heap.size w w' :=
 yva mix ymd yddm ybdd rfl rfl ⟨_,_,Tryz.func64,rfl⟩ w hG
end Ev
end Go.Proofs.YtiejahgklcjhkaaGreatDoor

namespace Go.Proofs.YtiejahgklcjhkaaGreatDoor
namespace Sh
open Go Ev Go.RowKit
theorem yqp:Returns Tryz.prog 64 [] (.b true):=by
 refine ybfg ⟨_,_,Tryz.func64,rfl⟩ (fun _=>.b) (fun _=>.simple rfl) fun G m us hG hr φ M w us' hRl hs hv=>?_;cases hr
 cases hv
 exact ycyx w fun x hx=>(hRl.gl x hx).1
end Sh
end Go.Proofs.YtiejahgklcjhkaaGreatDoor

namespace Go.Proofs.YtiejahgklcjhkaaGreatDoor
namespace Ev
open Go
theorem yny:∀ l:List UInt8,eqBytes l l=true
 | []=>rfl
 | x :: l=>by
  show(Nat.beq x.toNat x.toNat && eqBytes l l)=true;rw[Nat.beq_refl,yny l];rfl
theorem ytq{ρ:Nat->Nat}{a:Addr}(h:a.spot.isNone=true):eqAddr (renA ρ a) (renA ρ a)=true:=by
 rw[yhx];unfold eqAddr;simp only[Nat.beq_refl,h,Bool.and_self]
theorem ybsw{ρ:Nat->Nat}{v:Value}(hf:yoi v=true)(h:eq1 v v=true):eq1 (ren1 ρ v) (ren1 ρ v)=true:=by
 unfold yoi at hf;split at hf
 ·exact ytq hf
 ·rename_i a n c
  show(eqAddr (renA ρ a) (renA ρ a) && Nat.beq n n && Nat.beq c c)=true;rw[ytq hf,Nat.beq_refl,Nat.beq_refl];rfl
 ·rename_i h1 h2
  have:ren1 ρ v=v:=by
   unfold ren1;split
   ·rename_i a;exact absurd rfl (h1 a)
   ·rename_i a n c;exact absurd rfl (h2 a n c)
   ·rfl
  rw[this];exact h
theorem ypd{ρ:Nat->Nat}:∀ {l:List Value},l.all yoi=true->eqL1 l l=true->eqL1 (l.map (ren1 ρ)) (l.map (ren1 ρ))=true
 | [],_,_=>rfl
 | x :: l,hf,h=>by
  simp only[List.all_cons,Bool.and_eq_true]at hf;have h:(eq1 x x && eqL1 l l)=true:=h;rw[Bool.and_eq_true]at h;show(eq1 (ren1 ρ x) (ren1 ρ x) && eqL1 (l.map (ren1 ρ)) (l.map (ren1 ρ)))=true;rw[ybsw hf.1 h.1,ypd hf.2 h.2];rfl
theorem ybrg{v:Value}(h1:∀ a,v = .agg a->False)(h2:∀ g a c,v = .func (.func g) a c->False):eq2 v v=eq1 v v:=by
 cases v with
 | agg a=>exact(h1 a rfl).elim
 | func f a c=>cases f with
  | func g=>exact(h2 g a c rfl).elim
  | _=>rfl
 | _=>rfl
theorem ybod{ρ:Nat->Nat}{v:Value}(h1:∀ a,v = .agg a->False)(h2:∀ g a c,v = .func (.func g) a c->False)(hf:yoi v=true):ren2 ρ v=ren1 ρ v:=by
 cases v with
 | agg a=>exact(h1 a rfl).elim
 | func f a c=>cases f with
  | func g=>exact(h2 g a c rfl).elim
  | _=>cases hf
 | _=>rfl
theorem ytp{ρ:Nat->Nat}{v:Value}(hf:yoi v=true):(∀ a,ren1 ρ v = .agg a->False) /\ ∀ g a c,ren1 ρ v = .func (.func g) a c->False:=by
 cases v with
 | agg a=>cases hf
 | func f a c=>cases hf
 | pointer p=>cases p<;>exact⟨fun _ h=>(by cases h),fun _ _ _ h=>(by cases h)⟩
 | slice p n c=>cases p<;>exact⟨fun _ h=>(by cases h),fun _ _ _ h=>(by cases h)⟩
 | _=>exact⟨fun _ h=>(by cases h),fun _ _ _ h=>(by cases h)⟩
theorem yblp{ρ:Nat->Nat}{v:Value}(hf:yis v=true)(h:eq2 v v=true):eq2 (ren2 ρ v) (ren2 ρ v)=true:=by
 unfold yis at hf;split at hf
 ·rename_i a
  have h:eqL1 a.toList a.toList=true:=h;show eqL1 (a.toList.map (ren1 ρ)).toArray.toList (a.toList.map (ren1 ρ)).toArray.toList=true;exact ypd hf h
 ·rename_i g a c
  rw[Bool.and_eq_true]at hf;have h:(Nat.beq g g && eqL1 a.toList a.toList && eqL1 c.toList c.toList)=true:=h;simp only[Bool.and_eq_true]at h;show(Nat.beq g g && eqL1 (a.toList.map (ren1 ρ)).toArray.toList (a.toList.map (ren1 ρ)).toArray.toList && eqL1 (c.toList.map (ren1 ρ)).toArray.toList (c.toList.map (ren1 ρ)).toArray.toList)=true;rw[Nat.beq_refl,ypd hf.1 h.1.2,ypd hf.2 h.2];rfl
 ·rename_i h1 h2
  rw[ybrg h1 h2]at h;rw[ybod h1 h2 hf,ybrg (ytp hf).1 (ytp hf).2];exact ybsw hf h
def reflB(b:BlkL):Bool:=b.l.all (fun v=>eq2 v v && yis v) && Nat.blt b.l.length 1000000
theorem yre{ρ:Nat->Nat}{b:BlkL}(h:reflB b=true):∀ v ∈ (b.ren ρ).l,eq2 v v=true:=by
 unfold reflB at h;rw[Bool.and_eq_true]at h;intro v hv;obtain⟨x,hx,rfl⟩:=List.mem_map.1 hv;have:=List.all_eq_true.1 h.1 x hx;rw[Bool.and_eq_true]at this;exact yblp this.2 this.1
theorem ykx{l:List Value}(h:∀ v ∈ l,eq2 v v=true):∀ (k:List Value) (n:Nat),l.drop n=k->cellsAre (tOf l) n k=true
 | [],_,_=>rfl
 | v :: k,n,e=>by
  have hn:n<l.length:=by
   rcases Nat.lt_or_ge n l.length with q | q
   ·exact q
   ·rw[List.drop_eq_nil_of_le q]at e;cases e
  rw[List.drop_eq_getElem_cons hn]at e
  injection e with e1 e2
  unfold cellsAre;rw[ybs,List.getElem?_eq_getElem hn,e1];simp only;rw[h v (by rw[<- e1];exact List.getElem_mem _),ykx h k (n+1) e2]
  rfl
theorem yma{m:Mem}{b:BlkL}(hg:m.b.get b.i=some b.blk)(h:∀ v ∈ b.l,eq2 v v=true)(hl:Nat.blt b.l.length 1000000=true):blkIs m b=true:=by
 unfold blkIs;rw[hg];show(Nat.beq b.l.length b.l.length && Nat.beq b.e b.e && Nat.beq b.z b.z && Nat.blt b.l.length 1000000 && cellsAre (tOf b.l) 0 b.l)=true;rw[Nat.beq_refl,Nat.beq_refl,Nat.beq_refl,hl,ykx h b.l 0 (List.drop_zero ..)];rfl
theorem yqb:∀ {l:List BlkL} {t:T ABlk} {i:Nat},(∀ b ∈ l,b.i ≠ i)->(blksT t l).get i=t.get i
 | [],_,_,_=>rfl
 | b :: l,t,i,h=>by
  unfold blksT;rw[T.strict_eq,yqb fun c hc=>h c (List.mem_cons_of_mem _ hc),T.set_at,if_neg (fun e=>h b List.mem_cons_self e.symm)]
theorem yoz:∀ {l:List BlkL} {t:T ABlk},yfj (l.map (·.i))=true -> ∀ b ∈ l,(blksT t l).get b.i=some b.blk
 | [],_,_,b,hb=>by cases hb
 | c :: l,t,h,b,hb=>by
  have h:(!(l.map (·.i)).elem c.i && yfj (l.map (·.i)))=true:=h;rw[Bool.and_eq_true,Bool.not_eq_true']at h;unfold blksT;rw[T.strict_eq];rcases List.mem_cons.1 hb with e | hb
  ·subst e;rw[yqb fun d hd e=>?_,T.set_at,if_pos rfl];have:(l.map (·.i)).elem b.i=true:=List.elem_eq_true_of_mem (List.mem_map.2 ⟨d,hd,e⟩);rw[this]at h;cases h.1
  ·exact yoz h.2 b hb
theorem yko:∀ {l:List Nat},l.Nodup->yfj l=true
 | [],_=>rfl
 | x :: l,h=>by
  rw[List.nodup_cons]at h;show(!(l.elem x) && yfj l)=true
  have:l.elem x=false:=by
   cases hq:l.elem x with
   | false=>rfl
   | true=>exact absurd (by simpa using hq) h.1
  rw[this,yko h.2];rfl
theorem yvm:∀ {l:List Nat},yfj l=true->l.Nodup
 | [],_=>List.nodup_nil
 | x :: l,h=>by
  have h:(!(l.elem x) && yfj l)=true:=h;rw[Bool.and_eq_true,Bool.not_eq_true']at h;rw[List.nodup_cons];refine⟨fun hm=>?_,yvm h.2⟩;have:l.elem x=true:=by simpa using hm
  rw[this]at h;cases h.1
theorem ybfy{d:Nat}:∀ {l:List BlkL} {k:List Nat},(l.map (·.i)).Nodup->l.length=k.length->l.map (fun b=>yvx l k d b.i)=k
 | [],[],_,_=>rfl
 | b :: l,t :: k,hn,hl=>by
  rw[List.map_cons,List.nodup_cons]at hn;have ih:=ybfy (d:=d) hn.2 (by simpa using hl)
  rw[List.map_cons];have e1:yvx (b :: l) (t :: k) d b.i=t:=by unfold yvx;rw[Nat.beq_refl];rfl
  rw[e1];congr 1;refine Eq.trans (List.map_congr_left fun c hc=>?_) ih;show(bif Nat.beq b.i c.i then t else yvx l k d c.i)=_
  have:Nat.beq b.i c.i=false:=by
   cases hq:Nat.beq b.i c.i with
   | false=>rfl
   | true=>exact absurd (List.mem_map.2 ⟨c,hc,(Nat.eq_of_beq_eq_true hq).symm⟩) hn.1
  rw[this];rfl
 | [],_ :: _,_,h=>by cases h
 | _ :: _,[],_,h=>by cases h
def Fact.still(f:Fact):Bool:=Nat.ble f.next0 f.low && f.args.all yis && ybna f.v && f.pre.all (fun b=>Nat.blt b.i f.next0 && reflB b) && yfj (f.pre.map (·.i)) && f.post.all (fun b=>Nat.ble f.next0 b.i && Nat.blt b.i f.next1 && reflB b) && yfj (f.post.map (·.i)) && Nat.ble f.next0 f.next1
theorem yckc{a b:Nat}(h:Nat.blt a b=true):a<b:=Nat.lt_of_lt_of_le (Nat.lt_succ_self _) (Nat.le_of_ble_eq_true h)
theorem ybga{a b:Nat}(h:a<b):Nat.blt a b=true:=Nat.ble_eq_true_of_le h
theorem yjk{f:Fact}(h:f.still=true):f.next0<=f.low/\(f.args.all yis=true/\ybna f.v=true)/\(∀ b ∈ f.pre,b.i<f.next0/\reflB b=true)/\(f.pre.map (·.i)).Nodup/\(∀ b ∈ f.post,f.next0<=b.i/\b.i<f.next1/\reflB b=true)/\(f.post.map (·.i)).Nodup/\f.next0<=f.next1:=by
 unfold Fact.still at h;simp only[Bool.and_eq_true]at h;obtain⟨⟨⟨⟨⟨⟨⟨h1,h2⟩,h3⟩,h4⟩,h5⟩,h6⟩,h7⟩,h8⟩:=h;refine⟨Nat.le_of_ble_eq_true h1,⟨h2,h3⟩,fun b hb=>?_,yvm h5,fun b hb=>?_,yvm h7,Nat.le_of_ble_eq_true h8⟩
 ·have:=List.all_eq_true.1 h4 b hb;rw[Bool.and_eq_true]at this;exact⟨yckc this.1,this.2⟩
 ·have:=List.all_eq_true.1 h6 b hb;simp only[Bool.and_eq_true]at this;exact⟨Nat.le_of_ble_eq_true this.1.1,yckc this.1.2,this.2⟩
theorem ybmu{f:Fact}{tgt:List Nat}{n0:Nat}(hp:∀ b ∈ f.pre,b.i<f.next0/\reflB b=true)(hn:(f.pre.map (·.i)).Nodup)(hl:f.pre.length=tgt.length):f.pre.map (fun b=>f.rho tgt n0 b.i)=tgt:=by
 refine Eq.trans (List.map_congr_left fun b hb=>?_) (ybfy (d:=Nat.add n0 (Nat.sub f.next1 f.next0)) hn hl);unfold Fact.rho;have h1:=(hp b hb).1
 have:(Nat.ble f.next0 b.i && Nat.blt b.i f.next1)=false:=by
  rw[Bool.and_eq_false_iff];left
  cases hq:Nat.ble f.next0 b.i with
  | false=>rfl
  | true=>have:=Nat.le_of_ble_eq_true hq;omega
 rw[this];rfl
theorem ybgf{f:Fact}{tgt:List Nat}{n0 i:Nat}(h1:f.next0<=i)(h2:i<f.next1):f.rho tgt n0 i=i - f.next0+n0:=by
 unfold Fact.rho;rw[Bool.cond_eq_ite,if_pos (by rw[Nat.ble_eq_true_of_le h1,ybga h2];rfl)]
 rfl
theorem yuh{P:Program}{f:Fact}{tgt:List Nat}{n0:Nat}(hok:ych P f)(hs:f.still=true)(hl:f.pre.length=tgt.length)(hn:tgt.Nodup)(hlt:∀ t ∈ tgt,t<n0):ych P (f.move tgt n0):=by
 refine ycq hok ?_;obtain⟨s1,⟨s2,s3⟩,s4,s5,s6,s7,s8⟩:=yjk hs
 have hpi:(f.move tgt n0).pre.map (·.i)=tgt:=by
  show(f.pre.map (BlkL.ren (f.rho tgt n0))).map (·.i)=tgt;rw[List.map_map];exact Eq.trans (List.map_congr_left fun b hb=>b.yew) (ybmu (n0:=n0) s4 s5 hl)
 have hqi:yfj ((f.move tgt n0).post.map (·.i))=true:=by
  refine yko ?_;show((f.post.map (BlkL.ren (f.rho tgt n0))).map (·.i)).Nodup
  have e:(f.post.map (BlkL.ren (f.rho tgt n0))).map (·.i)=(f.post.map (·.i)).map (fun i=>i - f.next0+n0):=by
   rw[List.map_map,List.map_map];refine List.map_congr_left fun b hb=>?_;show(b.ren (f.rho tgt n0)).i=b.i - f.next0+n0;rw[b.yew,ybgf (s6 b hb).1 (s6 b hb).2.1]
  rw[e];unfold List.Nodup at s7 ⊢;rw[List.pairwise_map];refine List.Pairwise.imp_of_mem (fun {x y} hx hy h=>?_) s7;obtain⟨bx,hbx,rfl⟩:=List.mem_map.1 hx;obtain⟨by_,hby,rfl⟩:=List.mem_map.1 hy;have:=(s6 bx hbx).1;have:=(s6 by_ hby).1;omega
 have hpre:yfj ((f.move tgt n0).pre.map (·.i))=true:=by rw[hpi];exact yko hn
 unfold Fact.moves;simp only[Bool.and_eq_true];refine⟨⟨⟨⟨⟨⟨⟨⟨Nat.ble_eq_true_of_le s1,s2⟩,s3⟩,?_⟩,?_⟩,hpre⟩,?_⟩,?_⟩,Nat.ble_eq_true_of_le s8⟩
 ·refine List.all_eq_true.2 fun b hb=>?_;have:=(s4 b hb).2;unfold reflB at this;rw[Bool.and_eq_true]at this;rw[ybga (s4 b hb).1,Bool.true_and];exact List.all_eq_true.2 fun v hv=>by have:=List.all_eq_true.1 this.1 v hv;rw[Bool.and_eq_true]at this;exact this.2
 ·refine List.all_eq_true.2 fun b hb=>?_;have:=(s6 b hb).2.2;unfold reflB at this;rw[Bool.and_eq_true]at this;rw[ybga (s6 b hb).2.1,Bool.true_and];exact List.all_eq_true.2 fun v hv=>by have:=List.all_eq_true.1 this.1 v hv;rw[Bool.and_eq_true]at this;exact this.2
 ·refine List.all_eq_true.2 fun b' hb'=>?_;obtain⟨b,hb,rfl⟩:=List.mem_map.1 hb';have h2:=(s4 b hb).2;have h3:(b.ren (f.rho tgt n0)).i ∈ (f.move tgt n0).pre.map (·.i):=List.mem_map.2 ⟨_,hb',rfl⟩;rw[hpi]at h3;rw[ybga (hlt _ h3),Bool.true_and];refine yma (yoz hpre _ hb') (yre h2) ?_;show Nat.blt (b.l.map _).length 1000000=true;rw[List.length_map];unfold reflB at h2;rw[Bool.and_eq_true]at h2
  exact h2.2
 ·refine List.all_eq_true.2 fun b' hb'=>?_;obtain⟨b,hb,rfl⟩:=List.mem_map.1 hb';have h2:=(s6 b hb).2.2;refine yma (yoz hqi _ hb') (yre h2) ?_;show Nat.blt (b.l.map _).length 1000000=true;rw[List.length_map];unfold reflB at h2;rw[Bool.and_eq_true]at h2;exact h2.2
end Ev
end Go.Proofs.YtiejahgklcjhkaaGreatDoor

namespace Go.Proofs.YtiejahgklcjhkaaGreatDoor
namespace Sh
open Go Ev

def Lies(B:List BlkL)(v:Value)(F:AM)(u:Value):Prop :=
 ∃ ρ:Nat->Nat,(∀ b ∈ B,∀ c ∈ B,ρ b.i=ρ c.i->b.i=c.i)/\(∀ b ∈ B,F (ρ b.i)=some (b.ren ρ).blk)/\u=ren1 ρ v
theorem Lies.mono{B:List BlkL}{v:Value}(F G:AM)(u:Value)(h:Le F G)(k:Lies B v F u):Lies B v G u:=by
 obtain⟨ρ,h1,h2,h3⟩:=k;exact⟨ρ,h1,fun b hb=>h _ _ (h2 b hb),h3⟩

def ydko(B:List BlkL)(j:Nat):Option BlkL:=B.find? fun b=>Nat.beq b.i j
def ycao(p:Nat->Bool):Nat->Bool
 | 0=>true
 | n+1=>p n && ycao p n
theorem ybfu{p:Nat->Bool}:∀ {n:Nat},ycao p n=true -> ∀ k,k<n->p k=true
 | 0,_,k,h=>absurd h (Nat.not_lt_zero k)
 | n+1,h,k,hk=>by
  have h:(p n && ycao p n)=true:=h;rw[Bool.and_eq_true]at h
  by_cases q:k=n
  ·rw[q];exact h.1
  ·exact ybfu h.2 k (by omega)
def ybcj(B:List BlkL)(z n:Nat)(row:Nat->List Value->Bool):Value->Bool
 | .slice (some a) m _=>a.spot.isNone && Nat.beq m n && (match ydko B a.block with
  | some b=>Nat.beq b.z z && Nat.ble (a.off+n * z) b.l.length && ycao (fun k=>row k ((b.l.drop (a.off+k * z)).take z)) n
  | none=>false)
 | .slice none 0 0=>Nat.beq n 0
 | _=>false
theorem ypv {B:List BlkL} {F:AM} {ρ:Nat->Nat} {z n:Nat} {row:Nat->List Value->Bool} {v:Value} {g:Nat->List SV} (hF:∀ b ∈ B,F (ρ b.i)=some (b.ren ρ).blk) (h:ybcj B z n row v=true)
  (hr:∀ k L,k<n->row k L=true->L.length=z/\RVL F om0 (g k) (L.map (ren2 ρ))/\(g k).all one1=true):RV F om0 (.sl z n g) (ren1 ρ v):=by
 unfold ybcj at h;split at h
 ·rename_i a m c
  simp only[Bool.and_eq_true]at h;obtain⟨⟨h1,h2⟩,h3⟩:=h;split at h3
  ·rename_i b hb
   simp only[Bool.and_eq_true]at h3;obtain⟨⟨h3,h4⟩,h5⟩:=h3;have hm:m=n:=Nat.eq_of_beq_eq_true h2;have hz:=Nat.eq_of_beq_eq_true h3;have h4:=Nat.le_of_ble_eq_true h4;have hmem:=List.mem_of_find?_eq_some hb;have hi:b.i=a.block:=Nat.eq_of_beq_eq_true (List.find?_some (p:=fun b:BlkL=>Nat.beq b.i a.block) hb);have h6:=hF b hmem;rw[hi]at h6;show RV F om0 _ (.slice (some (renA ρ a)) m c);rw[yhx];subst hm
   obtain⟨A,o,sp⟩:=a;have hsp:sp=none:=by simpa using h1
   subst hsp;have h6:F (ρ A)=some (.cells (tOf (b.l.map (ren2 ρ))) (b.l.map (ren2 ρ)).length b.e b.z):=h6;have hrow:∀ k,k<m->_:=fun k hk=>hr k _ hk (ybfu h5 k hk);refine .sl (L:=fun k=>((b.l.drop (o+k * z)).take z).map (ren2 ρ)) h6 (.inl hz) (by rw[List.length_map];exact h4) ?_ ?_ (fun k hk=>(hrow k hk).2.1) (fun k hk=>(hrow k hk).2.2)
   ·intro k hk;rw[List.length_map];exact(hrow k hk).1
   ·intro k hk j hj;rw[ybs];simp only[List.getElem?_map,List.getElem?_take,List.getElem?_drop,hj,if_true]
  ·cases h3
 ·have h:Nat.beq n 0=true:=h;have h0:=Nat.eq_of_beq_eq_true h;subst h0;exact .sl0 (.inl rfl)
 ·cases h
def isI(v:Value)(n:Int):Bool:=match v with
 | .int .i64 m=>eqInt m n
 | _=>false
def isS(v:Value)(s:ByteArray):Bool:=match v with
 | .string t=>eqBytes t.data.toList s.data.toList
 | _=>false
theorem yna{F:AM}{ρ:Nat->Nat}{v:Value}{n:Int}(h:isI v n=true):RV F om0 (.i .i64 n) (ren2 ρ v):=by
 unfold isI at h;split at h
 ·rw[ypp h];exact .i
 ·cases h
theorem yccs{F:AM}{ρ:Nat->Nat}{v:Value}{s:ByteArray}(h:isS v s=true):RV F om0 (.a (.string s)) (ren2 ρ v):=by
 unfold isS at h;split at h
 ·rename_i t
  have e:=ylm h
  have:t=s:=by
   cases t;cases s
   congr 1;exact Array.toList_inj.1 e
  rw[this];exact .a rfl
 ·cases h
def ydgy(ls:List (Int × Int))(k:Nat):List Value->Bool
 | [x,y]=>isI x (ls.getD k (0,0)).1 && isI y (ls.getD k (0,0)).2
 | _=>false
def ycqr(l:List VarR)(k:Nat):List Value->Bool
 | [s,a,b,c,d,e]=>isS s (l.getD k default).name && isI a (l.getD k default).kind && isI b (l.getD k default).lo && isI c (l.getD k default).hi && isI d (l.getD k default).perNode && isI e (l.getD k default).perID
 | _=>false
def yve(B:List BlkL)(ls:List (Int × Int))(v:Value):Bool:=ybcj B 2 ls.length (ydgy ls) v
def isSl:Value->Bool
 | .slice _ _ _=>true
 | _=>false
def ybnv(B:List BlkL)(l:List SetR)(k:Nat):List Value->Bool
 | [a,v]=>isI a (l.getD k default).var && isSl v && yve B (l.getD k default).val v
 | _=>false
def ybse(B:List BlkL)(l:List RuleR)(k:Nat):List Value->Bool
 | [s,v,w]=>isS s (l.getD k default).name && isSl v && yve B (l.getD k default).guard v && isSl w && ybcj B 2 (l.getD k default).sets.length (ybnv B (l.getD k default).sets) w
 | _=>false
def ybox(B:List BlkL)(v:Value)(l:List VarR):Bool:=ybcj B 6 l.length (ycqr l) v
def ybfi(B:List BlkL)(v:Value)(l:List RuleR):Bool:=ybcj B 3 l.length (ybse B l) v
section
variable {B:List BlkL} {F:AM} {ρ:Nat->Nat}
theorem ybda{v:Value}(h:isSl v=true):ren2 ρ v=ren1 ρ v:=by
 unfold isSl at h;split at h
 ·rfl
 ·cases h
theorem yrp(hF:∀ b ∈ B,F (ρ b.i)=some (b.ren ρ).blk){ls:List (Int × Int)}{v:Value}(h:yve B ls v=true):RV F om0 (yg ls) (ren1 ρ v):=by
 refine ypv hF h fun k L hk hq=>?_;unfold ydgy at hq;split at hq
 ·simp only[Bool.and_eq_true]at hq;exact⟨rfl,.cons (yna hq.1) (.cons (yna hq.2) .nil),rfl⟩
 ·cases hq
theorem yblg(hF:∀ b ∈ B,F (ρ b.i)=some (b.ren ρ).blk){l:List VarR}{v:Value}(h:ybox B v l=true):RV F om0 (ycl l) (ren1 ρ v):=by
 refine ypv hF h fun k L hk hq=>?_;unfold ycqr at hq;split at hq
 ·simp only[Bool.and_eq_true]at hq;obtain⟨⟨⟨⟨⟨h1,h2⟩,h3⟩,h4⟩,h5⟩,h6⟩:=hq;exact⟨rfl,.cons (yccs h1) (.cons (yna h2) (.cons (yna h3) (.cons (yna h4) (.cons (yna h5) (.cons (yna h6) .nil))))),rfl⟩
 ·cases hq
theorem ybko(hF:∀ b ∈ B,F (ρ b.i)=some (b.ren ρ).blk){l:List SetR}{v:Value}(h:ybcj B 2 l.length (ybnv B l) v=true):RV F om0 (ygl l) (ren1 ρ v):=by
 refine ypv hF h fun k L hk hq=>?_;unfold ybnv at hq;split at hq
 ·simp only[Bool.and_eq_true]at hq;obtain⟨⟨h1,h2⟩,h3⟩:=hq;refine⟨rfl,.cons (yna h1) (.cons ?_ .nil),rfl⟩;rw[ybda h2];exact yrp hF h3
 ·cases hq
theorem ybbp(hF:∀ b ∈ B,F (ρ b.i)=some (b.ren ρ).blk){l:List RuleR}{v:Value}(h:ybfi B v l=true):RV F om0 (ybw l) (ren1 ρ v):=by
 refine ypv hF h fun k L hk hq=>?_;unfold ybse at hq;split at hq
 ·simp only[Bool.and_eq_true]at hq;obtain⟨⟨⟨⟨h1,h2⟩,h3⟩,h4⟩,h5⟩:=hq;refine⟨rfl,.cons (yccs h1) (.cons ?_ (.cons ?_ .nil)),rfl⟩
  ·rw[ybda h2];exact yrp hF h3
  ·rw[ybda h4];exact ybko hF h5
 ·cases hq
end
structure LaidP(fp:Fact)(t:ByteArray)(p:ProgR)(vv vr:Value)(Bv Br:List BlkL):Prop where
 args:fp.args = [.string t]
 pre:fp.pre = []
 v:fp.v = .agg #[.string p.name,vv,vr]
 still:fp.still=true
 bv:∀ b ∈ Bv,b ∈ fp.post
 br:∀ b ∈ Br,b ∈ fp.post
 vars:ybox Bv vv p.vars=true
 rules:ybfi Br vr p.rules=true
theorem ybyy{P:Program}{fp:Fact}{t:ByteArray}{p:ProgR}{vv vr:Value}{Bv Br:List BlkL}(hok:ych P fp)(h:LaidP fp t p vv vr Bv Br):Returns P fp.g [.a (.string t)] (.ag (yct (Lies Bv vv) (Lies Br vr) p)):=by
 intro G m us hwf hle hus
 have hu:us = [.string t]:=by
  cases hus with
  | cons a b=>cases a with | a _=>cases b with | nil=>rfl
 subst hu;obtain⟨s1,⟨s2,s3⟩,s4,s5,s6,s7,s8⟩:=yjk h.still;have hmv:=yuh (tgt:=[]) (n0:=m.next) hok h.still (by rw[h.pre];rfl) List.nodup_nil (fun t ht=>by cases ht)
 obtain⟨ρ,hρ⟩:∃ ρ,fp.rho [] m.next=ρ:=⟨_,rfl⟩
 have hpost:(fp.move [] m.next).post=fp.post.map (BlkL.ren ρ):=by rw[<- hρ];rfl
 have hv:(fp.move [] m.next).v = .agg #[.string p.name,ren1 ρ vv,ren1 ρ vr]:=by
  show renV (fp.rho [] m.next) fp.v=_
  rw[hρ,h.v];rfl
 have hpre:(fp.move [] m.next).pre = []:=by
  show fp.pre.map _ = [];rw[h.pre];rfl
 have hfit:(fp.move [] m.next).fits fp.g [.string t] m=true:=by
  unfold Fact.fits;rw[hpre];show(Nat.beq fp.g fp.g && Nat.beq m.next m.next && eqL2 (fp.args.map (ren2 _)) [.string t] && true)=true
  rw[Nat.beq_refl,Nat.beq_refl,h.args];show(true && true && (eqBytes t.data.toList t.data.toList && true) && true)=true;rw[yny];rfl
 have hri:∀ b ∈ fp.post,ρ b.i=b.i - fp.next0+m.next:=fun b hb=>by rw[<- hρ];exact ybgf (s6 b hb).1 (s6 b hb).2.1
 have hnd:yfj ((fp.post.map (BlkL.ren ρ)).map (·.i))=true:=by
  refine yko ?_
  have e:(fp.post.map (BlkL.ren ρ)).map (·.i)=(fp.post.map (·.i)).map (fun i=>i - fp.next0+m.next):=by
   rw[List.map_map,List.map_map];refine List.map_congr_left fun b hb=>?_;show(b.ren ρ).i=_;rw[b.yew,hri b hb];rfl
  rw[e];unfold List.Nodup at s7 ⊢;rw[List.pairwise_map];refine List.Pairwise.imp_of_mem (fun {x y} hx hy h=>?_) s7;obtain⟨bx,hbx,rfl⟩:=List.mem_map.1 hx;obtain⟨by_,hby,rfl⟩:=List.mem_map.1 hy;have:=(s6 bx hbx).1;have:=(s6 by_ hby).1;omega
 have hs:=yvr hmv hfit;unfold Fact.out at hs;rw[hv,hpre,hpost]at hs;refine⟨_,_,_,hs,Nat.le_refl _,?_,rfl,?_⟩
 ·intro i b hb;show(blksT m.b (fp.post.map (BlkL.ren ρ))).get i=some b;rw[yqb fun c hc=>?_]
  ·exact hb
  ·obtain⟨c,hc',rfl⟩:=List.mem_map.1 hc;have:=hwf i b hb;rw[c.yew,hri c hc'];omega
 ·have hF:∀ b ∈ fp.post,frsh m.next ⟨(fp.move [] m.next).next1,blksT m.b (fp.post.map (BlkL.ren ρ)),(fp.move [] m.next).low⟩ G (ρ b.i)=some (b.ren ρ).blk:=fun b hb=>by
   unfold frsh;rw[if_pos (by rw[hri b hb];omega)]
   have:=yoz (t:=m.b) hnd _ (List.mem_map.2 ⟨b,hb,rfl⟩);rw[b.yew]at this;exact this
  have hinj:∀ b ∈ fp.post,∀ c ∈ fp.post,ρ b.i=ρ c.i->b.i=c.i:=fun b hb c hc e=>by
   rw[hri b hb,hri c hc]at e;have:=(s6 b hb).1;have:=(s6 c hc).1;omega
  refine .ag (.cons (.a rfl) (.cons (.ex ?_ (fun A B w=>Lies.mono A B w) ?_) (.cons (.ex ?_ (fun A B w=>Lies.mono A B w) ?_) .nil)))
  ·exact⟨ρ,fun b hb c hc=>hinj b (h.bv b hb) c (h.bv c hc),fun b hb=>hF b (h.bv b hb),rfl⟩
  ·exact yblg (fun b hb=>hF b (h.bv b hb)) h.vars
  ·exact⟨ρ,fun b hb c hc=>hinj b (h.br b hb) c (h.br c hc),fun b hb=>hF b (h.br b hb),rfl⟩
  ·exact ybbp (fun b hb=>hF b (h.br b hb)) h.rules

def inB(B:List BlkL):Value->Bool
 | .slice (some a) _ _=>(B.map (·.i)).elem a.block
 | .pointer (some a)=>(B.map (·.i)).elem a.block
 | .agg _=>false
 | .func _ _ _=>false
 | _=>true
theorem ygj{B:List BlkL}{ρ σ:Nat->Nat}(h:∀ b ∈ B,ρ b.i=σ b.i){v:Value}(hv:inB B v=true):ren1 ρ v=ren1 σ v:=by
 have hk:∀ j,(B.map (·.i)).elem j=true->ρ j=σ j:=fun j hj=>by
  have:j ∈ B.map (·.i):=by simpa using hj
  obtain⟨b,hb,rfl⟩:=List.mem_map.1 this;exact h b hb
 cases v with
 | slice p n c=>cases p with
  | none=>rfl
  | some a =>
   show Value.slice (some (renA ρ a)) n c = .slice (some (renA σ a)) n c;rw[yhx,yhx,hk _ hv]
 | pointer p=>cases p with
  | none=>rfl
  | some a =>
   show Value.pointer (some (renA ρ a)) = .pointer (some (renA σ a));rw[yhx,yhx,hk _ hv]
 | agg a=>cases hv
 | func f a c=>cases hv
 | _=>rfl
theorem ybhg{B:List BlkL}{τ:Nat->Nat}{v:Value}(hv:inB B v=true):ren2 τ v=ren1 τ v:=by
 cases v with
 | agg a=>cases hv
 | func f a c=>cases hv
 | _=>rfl
theorem ybjw{B:List BlkL}{ρ σ:Nat->Nat}(h:∀ b ∈ B,ρ b.i=σ b.i){v:Value}(hv:inB B v=true):ren2 ρ v=ren2 σ v:=by
 rw[ybhg hv,ybhg hv];exact ygj h hv
def ybeg(B:List BlkL):Bool:=B.all fun b=>b.l.all (inB B)
theorem yyg{B:List BlkL}{ρ σ:Nat->Nat}(hc:ybeg B=true)(h:∀ b ∈ B,ρ b.i=σ b.i){b:BlkL}(hb:b ∈ B):b.ren ρ=b.ren σ:=by
 have h1:=List.all_eq_true.1 (List.all_eq_true.1 hc b hb)
 have e:∀ τ:Nat->Nat,b.ren τ=⟨τ b.i,b.e,b.z,b.l.map (ren2 τ)⟩:=fun τ=>by
  unfold BlkL.ren;rw[forceN_eq]
 rw[e,e,h b hb];congr 1;exact List.map_congr_left fun v hv=>ybjw h (h1 v hv)
theorem ytc{low:Nat}:∀ {l:List BlkL} {t:T ABlk},(∀ b ∈ l,b.i<low)->dropT t low l=t
 | [],_,_=>rfl
 | b :: l,t,h=>by
  have hb:=h b List.mem_cons_self;unfold dropT
  have e:Nat.ble low b.i=false:=by
   cases q:Nat.ble low b.i with
   | false=>rfl
   | true=>have:=Nat.le_of_ble_eq_true q;omega
  rw[e,iteB_eq,if_neg (by simp)]
  exact ytc fun c hc=>h c (List.mem_cons_of_mem _ hc)
structure GoodV(fv:Fact)(p:ProgR)(vv vr:Value)(Bv Br:List BlkL):Prop where
 args:fv.args = [.agg #[.string p.name,vv,vr]]
 pre:∀ b ∈ fv.pre,b ∈ Bv\/b ∈ Br
 bv:∀ b ∈ Bv,b ∈ fv.pre
 br:∀ b ∈ Br,b ∈ fv.pre
 v:fv.v = .bool true
 post:fv.post = []
 still:fv.still=true
 apart:(Bv.all fun b=>Br.all fun c=>!(Nat.beq b.e c.e) && !(Nat.beq b.i c.i))=true
 cv:ybeg Bv=true
 cr:ybeg Br=true
 iv:inB Bv vv=true
 ir:inB Br vr=true
 refl:eq2 (.agg #[.string p.name,vv,vr]) (.agg #[.string p.name,vv,vr])=true
theorem ycbr{P:Program}{fv:Fact}{p:ProgR}{vv vr:Value}{Bv Br:List BlkL}(hok:ych P fv)(h:GoodV fv p vv vr Bv Br):Returns P fv.g [.ag (yct (Lies Bv vv) (Lies Br vr) p)] (.b true):=by
 intro G m us hwf hle hus
 obtain⟨ρ1,ρ2,hu,a1,a2,a3,a4⟩:∃ ρ1 ρ2:Nat->Nat,us = [.agg #[.string p.name,ren1 ρ1 vv,ren1 ρ2 vr]]/\(∀ b ∈ Bv,∀ c ∈ Bv,ρ1 b.i=ρ1 c.i->b.i=c.i)/\(∀ b ∈ Bv,G (ρ1 b.i)=some (b.ren ρ1).blk) /\
   (∀ b ∈ Br,∀ c ∈ Br,ρ2 b.i=ρ2 c.i->b.i=c.i) /\ ∀ b ∈ Br,G (ρ2 b.i)=some (b.ren ρ2).blk:=by
  cases hus with
  | cons a b =>
   cases b
   cases a with
   | ag hl =>
    cases hl with
    | cons x1 hl =>
     cases x1
     cases hl with
     | cons x2 hl =>
      cases x2 with
      | ex q2 _ _ =>
       cases hl with
       | cons x3 hl =>
        cases x3 with
        | ex q3 _ _ =>
         cases hl
         obtain⟨ρ1,b1,b2,rfl⟩:=q2;obtain⟨ρ2,b3,b4,rfl⟩:=q3;exact⟨ρ1,ρ2,rfl,b1,b2,b3,b4⟩
 subst hu;obtain⟨s1,⟨s2,s3⟩,s4,s5,s6,s7,s8⟩:=yjk h.still
 have hap:∀ b ∈ Bv,∀ c ∈ Br,b.e ≠ c.e/\b.i ≠ c.i:=fun b hb c hc=>by
  have:=List.all_eq_true.1 (List.all_eq_true.1 h.apart b hb) c hc;simp only[Bool.and_eq_true,Bool.not_eq_true']at this;exact⟨fun e=>(by rw[e,Nat.beq_refl]at this;exact absurd this.1 (by decide)),fun e=>(by rw[e,Nat.beq_refl]at this;exact absurd this.2 (by decide))⟩
 let σ:Nat->Nat:=fun i=>if (Bv.map (·.i)).elem i then ρ1 i else ρ2 i
 have hcross:∀ b ∈ Bv,∀ c ∈ Br,ρ1 b.i ≠ ρ2 c.i:=fun b hb c hc e=>by
  have e1:=a2 b hb;have e2:=a4 c hc;rw[e,e2]at e1
  injection e1 with e1
  unfold BlkL.blk at e1
  injection e1 with _ _ e3 _
  exact(hap b hb c hc).1 e3.symm
 have hG:∀ i b,G i=some b->i<m.next:=fun i b hb=>hwf i b (hle i b hb)
 have sv:∀ b ∈ Bv,σ b.i=ρ1 b.i:=fun b hb=>if_pos (by simpa using⟨b,hb,rfl⟩)
 have sr:∀ b ∈ Br,σ b.i=ρ2 b.i:=fun b hb=>by
  refine if_neg fun q=>?_;have:b.i ∈ Bv.map (·.i):=by simpa using q
  obtain⟨d,hd,hdi⟩:=List.mem_map.1 this;exact(hap d hd b hb).2 hdi
 have tgtLt:∀ b ∈ fv.pre,σ b.i<m.next:=fun b hb=>by
  rcases h.pre b hb with q | q
  ·rw[sv b q];exact hG _ _ (a2 b q)
  ·rw[sr b q];exact hG _ _ (a4 b q)
 have sinj:∀ b ∈ fv.pre,∀ c ∈ fv.pre,σ b.i=σ c.i->b.i=c.i:=fun b hb c hc e=>by
  rcases h.pre b hb with q | q<;>rcases h.pre c hc with q' | q'
  ·rw[sv b q,sv c q']at e;exact a1 b q c q' e
  ·rw[sv b q,sr c q']at e;exact absurd e (hcross b q c q')
  ·rw[sr b q,sv c q']at e;exact absurd e.symm (hcross c q' b q)
  ·rw[sr b q,sr c q']at e;exact a3 b q c q' e
 obtain⟨tgt,htgt⟩:∃ t,fv.pre.map (fun b=>σ b.i)=t:=⟨_,rfl⟩
 have tlt:∀ t ∈ tgt,t<m.next:=fun t ht=>by
  rw[<- htgt]at ht;obtain⟨b,hb,rfl⟩:=List.mem_map.1 ht;exact tgtLt b hb
 have tnd:tgt.Nodup:=by
  rw[<- htgt];have s5:=s5;unfold List.Nodup at s5 ⊢;rw[List.pairwise_map]at s5 ⊢;exact List.Pairwise.imp_of_mem (fun {x y} hx hy h e=>h (sinj x hx y hy e)) s5
 have tlen:fv.pre.length=tgt.length:=by rw[<- htgt,List.length_map]
 have hmv:=yuh (n0:=m.next) hok h.still tlen tnd tlt
 have hrho:=ybmu (n0:=m.next) s4 s5 tlen
 obtain⟨ρ,hρ⟩:∃ ρ,fv.rho tgt m.next=ρ:=⟨_,rfl⟩
 rw[hρ,<- htgt]at hrho;have hri:∀ b ∈ fv.pre,ρ b.i=σ b.i:=List.map_inj_left.1 hrho;have hv1:∀ b ∈ Bv,ρ b.i=ρ1 b.i:=fun b hb=>by rw[hri b (h.bv b hb),sv b hb]
 have hr1:∀ b ∈ Br,ρ b.i=ρ2 b.i:=fun b hb=>by rw[hri b (h.br b hb),sr b hb]
 have hargs:(fv.move tgt m.next).args = [.agg #[.string p.name,ren1 ρ1 vv,ren1 ρ2 vr]]:=by
  show fv.args.map (ren2 (fv.rho tgt m.next))=_
  rw[hρ,h.args,<- ygj hv1 h.iv,<- ygj hr1 h.ir];rfl
 have hself:eqL2 [.agg #[.string p.name,ren1 ρ1 vv,ren1 ρ2 vr]] [.agg #[.string p.name,ren1 ρ1 vv,ren1 ρ2 vr]]=true:=by
  have hf:yis (.agg #[.string p.name,vv,vr])=true:=by
   have:=s2;rw[h.args]at this
   simpa using this
  have e:=yblp (ρ:=ρ) hf h.refl;rw[show ren2 ρ (.agg #[.string p.name,vv,vr]) = .agg #[.string p.name,ren1 ρ vv,ren1 ρ vr]from rfl,ygj hv1 h.iv,ygj hr1 h.ir]at e
  show(eq2 _ _ && true)=true;rw[e];rfl
 have hpre:∀ b ∈ fv.pre,m.b.get (ρ b.i)=some (b.ren ρ).blk:=fun b hb=>by
  rcases h.pre b hb with q | q
  ·rw[yyg h.cv hv1 q,hv1 b q];exact hle _ _ (a2 b q)
  ·rw[yyg h.cr hr1 q,hr1 b q];exact hle _ _ (a4 b q)
 have hp:(fv.move tgt m.next).pre=fv.pre.map (BlkL.ren ρ):=by rw[<- hρ];rfl
 have hfit:(fv.move tgt m.next).fits fv.g [.agg #[.string p.name,ren1 ρ1 vv,ren1 ρ2 vr]] m=true:=by
  unfold Fact.fits;rw[hargs,hself];show(Nat.beq fv.g fv.g && Nat.beq m.next m.next && true && (fv.move tgt m.next).pre.all (blkIs m))=true
  rw[Nat.beq_refl,Nat.beq_refl,hp];show List.all _ _=true;refine List.all_eq_true.2 fun b' hb'=>?_;obtain⟨b,hb,rfl⟩:=List.mem_map.1 hb';have h2:=(s4 b hb).2;refine yma ?_ (yre h2) ?_
  ·rw[b.yew];exact hpre b hb
  ·show Nat.blt (b.l.map _).length 1000000=true;rw[List.length_map];unfold reflB at h2;rw[Bool.and_eq_true]at h2;exact h2.2
 have hs:=yvr hmv hfit;unfold Fact.out at hs
 have hv:(fv.move tgt m.next).v = .bool true:=by
  show renV (fv.rho tgt m.next) fv.v=_
  rw[h.v];rfl
 have hpost:(fv.move tgt m.next).post = []:=by
  show fv.post.map _ = [];rw[h.post];rfl
 rw[hv,hpost]at hs;refine⟨_,_,_,hs,Nat.le_refl _,?_,rfl,.b⟩;intro i b hb;show(dropT m.b m.next (fv.move tgt m.next).pre).get i=some b
 rw[ytc fun c hc=>?_]
 ·exact hb
 ·rw[hp]at hc;obtain⟨c,hc',rfl⟩:=List.mem_map.1 hc;rw[c.yew,hri c hc'];exact tgtLt c hc'
end Sh
end Go.Proofs.YtiejahgklcjhkaaGreatDoor

namespace Go.Proofs.YtiejahgklcjhkaaGreatDoor
namespace Sh
open Go Ev
set_option maxRecDepth 1000000
def MqP:ProgT:=ybd (by8 [109,97,116,99,104,105,110,103]) (by8 [112]) (by8 [97,99,99,101,112,116]) (by8 [112,114,111,112,111,115,101]) (by8 [119,105,116,104,100,114,97,119])
def Mqt:ByteArray:=yba
def Mqv:Value:=.slice (some ⟨634,0,none⟩) 1 CU
def Mqr:Value:=.slice (some ⟨1036,0,none⟩) 3 CU
def MqB:List BlkL:=yqa.post.take 1
def MqC:List BlkL:=yqa.post.drop 1
theorem yie:Returns Tryz.prog 37 [.a (.string Mqt)] (.ag (yct (Lies MqB Mqv) (Lies MqC Mqr) MqP.raw)) :=
 ybyy (fp:=yqa) (yh.at_ ybfc 0 rfl) ⟨rfl,rfl,rfl,by kernel_rfl,fun _ h=>List.mem_of_mem_take h,fun _ h=>List.mem_of_mem_drop h,by kernel_rfl,by kernel_rfl⟩
theorem ydgs:ybbk.pre=yqa.post:=rfl
theorem ybho:Returns Tryz.prog 191 [.ag (yct (Lies MqB Mqv) (Lies MqC Mqr) MqP.raw)] (.b true) :=
 ycbr (fv:=ybbk) (yh.at_ ybvh 0 rfl) ⟨rfl,fun b h=>by
  rw[ydgs,<- List.take_append_drop 1 yqa.post]at h;exact List.mem_append.1 h,fun _ h=>List.mem_of_mem_take h,fun _ h=>List.mem_of_mem_drop h,rfl,rfl,by kernel_rfl,by kernel_rfl,by kernel_rfl,by kernel_rfl,by kernel_rfl,by kernel_rfl,by kernel_rfl⟩
theorem ybid:MqP.ok=true:=by kernel_rfl
end Sh
end Go.Proofs.YtiejahgklcjhkaaGreatDoor

namespace Go.Proofs.YtiejahgklcjhkaaGreatDoor
open Go
def ybe(s:Nat):List Nat:=(List.range 32).filter s.testBit
theorem yzf{p q:Nat->Bool}{n t:Nat}(ht:t<n)(h1:p t=true)(h2:∀ i,i<t->p i=false)(h3:∀ i,q i=(p i && !decide (i=t))):(List.range n).filter p=t :: (List.range n).filter q:=by
 obtain⟨d,rfl⟩:∃ d,n=t+(d+1):=⟨n - t - 1,by omega⟩
 rw[List.range_add,List.filter_append,List.filter_append,List.range_succ_eq_map];have a1:(List.range t).filter p = []:=List.filter_eq_nil_iff.2 fun x hx=>by rw[h2 x (List.mem_range.1 hx)];simp
 have a2:(List.range t).filter q = []:=List.filter_eq_nil_iff.2 fun x hx=>by rw[h3,h2 x (List.mem_range.1 hx)];simp
 rw[a1,a2,List.map_cons,List.nil_append,List.nil_append,Nat.add_zero,List.filter_cons_of_pos h1,List.filter_cons_of_neg (by rw[h3];simp)]
 congr 1;refine List.filter_congr fun x hx=>?_;obtain⟨y,hy,rfl⟩:=List.mem_map.1 hx;obtain⟨z,_,rfl⟩:=List.mem_map.1 hy;rw[h3];have:decide (t+z.succ=t)=false:=decide_eq_false (by omega)
 rw[this];simp
theorem ybwo{x:Nat}(h0:x ≠ 0)(h:x<2 ^ 32):Lib.ctz 32 x<32/\x.testBit (Lib.ctz 32 x)=true/\(∀ i,i<Lib.ctz 32 x->x.testBit i=false) /\ ∀ i,(x &&& (x - 1)).testBit i=(x.testBit i && !decide (i=Lib.ctz 32 x)):=by
 obtain⟨m,hm,hk⟩:=Lib.ctzFrom_spec 32 x (by omega) h
 have e:Lib.ctz 32 x=Lib.ctzFrom 32 x:=by simp[Lib.ctz,h0]
 rw[e];obtain⟨k,hkk⟩:∃ k,Lib.ctzFrom 32 x=k:=⟨_,rfl⟩;rw[hkk]at hm hk ⊢;have hp:0<2 ^ k:=Nat.two_pow_pos k
 have b1:∀ j,x.testBit j=if j<k then false else(2 * m+1).testBit (j - k):=fun j=>by
  have:=Nat.testBit_two_pow_mul_add (2 * m+1) hp j;rw[Nat.add_zero,<- hm]at this;rw[this];simp
 have e2:x - 1=2 ^ k * (2 * m)+(2 ^ k - 1):=by
  have:2 ^ k * (2 * m+1)=2 ^ k * (2 * m)+2 ^ k:=by rw[Nat.mul_add,Nat.mul_one]
  omega
 have b2:∀ j,(x - 1).testBit j=if j<k then(2 ^ k - 1).testBit j else(2 * m).testBit (j - k):=fun j=>by
  rw[e2];exact Nat.testBit_two_pow_mul_add (2 * m) (show 2 ^ k - 1<2 ^ k by omega) j
 refine⟨hk,by rw[b1,if_neg (by omega),Nat.sub_self];simp,fun i hi=>by rw[b1,if_pos hi],fun i=>?_⟩
 rw[Nat.testBit_and,b1,b2]
 by_cases q:i<k
 ·rw[if_pos q];simp
 ·rw[if_neg q,if_neg q]
  by_cases q2:i=k
  ·subst q2;simp
  ·obtain⟨j,hj⟩:∃ j,i - k=j+1:=⟨i - k - 1,by omega⟩
   rw[hj,Nat.testBit_succ,Nat.testBit_succ,show(2 * m+1) / 2=m by omega,show 2 * m / 2=m by omega]
   simp[q2]
theorem ylp:ybe 0 = []:=List.filter_eq_nil_iff.2 fun x _=>by simp
theorem ymc{x:Nat}(h0:x ≠ 0)(h:x<2 ^ 32):ybe x=Lib.ctz 32 x :: ybe (x &&& (x - 1)):=by
 obtain⟨h1,h2,h3,h4⟩:=ybwo h0 h;exact yzf h1 h2 h3 h4
def yca(s:Nat):Nat->Nat
 | 0=>s
 | k+1=>yca s k &&& (yca s k - 1)
theorem yjo{s:Nat}(h:s<2 ^ 32):∀ k,yca s k<2 ^ 32
 | 0=>h
 | k+1=>Nat.lt_of_le_of_lt Nat.and_le_left (yjo h k)
theorem ymg{s:Nat}(h:s<2 ^ 32):∀ k,ybe (yca s k)=(ybe s).drop k
 | 0=>by simp[yca]
 | k+1=>by
  have ih:=ymg h k;show ybe (yca s k &&& (yca s k - 1))=_
  by_cases h0:yca s k=0
  ·rw[h0,ylp]at ih;rw[h0,Nat.zero_and,ylp,<- List.drop_drop,<- ih];rfl
  ·rw[ymc h0 (yjo h k)]at ih;rw[<- List.drop_drop,<- ih];rfl
theorem rest_end{s k:Nat}(h:s<2 ^ 32)(hk:k<=(ybe s).length):yca s k=0 ↔ k=(ybe s).length:=by
 have hd:=ymg h k;constructor
 ·intro e;rw[e,ylp]at hd;have:=congrArg List.length hd;rw[List.length_drop,List.length_nil]at this;omega
 ·intro e;rw[e,List.drop_length]at hd;refine Classical.byContradiction fun q=>?_;rw[<- e]at hd;rw[ymc q (yjo h k)]at hd;cases hd
theorem ycxr{s k:Nat}(h:s<2 ^ 32)(hk:k<(ybe s).length):yca s k ≠ 0/\Lib.ctz 32 (yca s k)=(ybe s).getD k 0:=by
 have h0:yca s k ≠ 0:=fun e=>by have:=(rest_end h (Nat.le_of_lt hk)).1 e;omega
 refine⟨h0,?_⟩;have hd:=ymg h k;rw[ymc h0 (yjo h k),List.drop_eq_getElem_cons hk]at hd;have:=(List.cons.inj hd).1;rw[this,List.getD_eq_getElem?_getD,List.getElem?_eq_getElem hk];rfl
theorem ybvg{s v:Nat}:v ∈ ybe s ↔ v<32/\s.testBit v=true:=by
 unfold ybe;rw[List.mem_filter,List.mem_range]
end Go.Proofs.YtiejahgklcjhkaaGreatDoor

namespace Go.Proofs.YtiejahgklcjhkaaGreatDoor
open Go.RowKit
theorem ydcp(x a:Nat)(hx:x<4294967296)(hx0:x ≠ 0)(hlow:x &&& (4294967296 - x)=a) :
  bits BinOp.and IntKind.u32 (x:Int) (-(x:Int) % 4294967296) * 125613361 % 4294967296 / 134217728=((a * 125613361 % 4294967296 / 134217728:Nat):Int):=by
 have e1:-(x:Int) % 4294967296=((4294967296 - x:Nat):Int):=by omega
 have e2:bits BinOp.and IntKind.u32 (x:Int) ((4294967296 - x:Nat):Int)=((x &&& (4294967296 - x):Nat):Int):=u32_and (a:=x) (b:=4294967296 - x) (by omega) (by omega)
 rw[e1,e2,hlow];omega
set_option maxHeartbeats 1000000 in
theorem yczs (x k idx:Nat) (w:World) (hx0:((x:Int) == 0)=false) (key:bits BinOp.and IntKind.u32 (x:Int) (-(x:Int) % 4294967296) * 125613361 % 4294967296 / 134217728=(idx:Int))
  (hi:idx<32) (hk:k<32) (hcell:w.cell? ⟨0,idx,none⟩=some (.int .u8 k)) :
  Calls Tryz.prog 190 #[.int .u32 x] w fun e w'=>e = .returned (.int .i64 k)/\w'=w:=by
 go_enter Tryz.func190,Tryz.ntmps190
 go_wp2_with (simp only[key])
 go_ret
 exact⟨rfl,rfl⟩
theorem ycwe(w:World):Calls Tryz.prog 190 #[.int .u32 0] w fun e w'=>e = .returned (.int .i64 32)/\w'=w:=by
 go_enter Tryz.func190,Tryz.ntmps190
 go_wp2
 go_ret
 exact⟨rfl,rfl⟩
theorem yczy{w:World}{x:Nat}(hx:x<2 ^ 32)(hw:∃ e fz,w.heap[0]? = some (.cells Ev.ybbb.toArray e fz)) :
  Calls Tryz.prog 190 #[.int .u32 x] w fun e w'=>e = .returned (.int .i64 (Lib.ctz 32 x))/\w'=w:=by
 by_cases hx0:x=0
 ·subst hx0;exact ycwe w
 ·obtain⟨hlow,hk⟩:=Lib.lowest_bit 32 x hx0 hx;obtain⟨hi,htab⟩:=Lib.deBruijn32_at _ hk;obtain⟨e,fz,hw⟩:=hw;refine yczs x _ _ w (by simp;omega) (ydcp x _ hx hx0 hlow) hi hk ?_
  have keyN:∀ j,j<32->([0,1,28,2,29,14,24,3,30,22,20,15,25,17,4,8,31,27,13,23,21,19,16,7,26,12,18,6,11,5,10,9]:List Int)[j]? = some ((Lib.deBruijn32tab.getD j 0:Nat):Int):=by decide +kernel
  have key:∀ j,j<32->Ev.ybbb[j]? = some (.int .u8 (Lib.deBruijn32tab.getD j 0:Nat)):=fun j hj=>by
   unfold Ev.ybbb;rw[List.getElem?_map,keyN j hj];rfl
  rw[World.cell?,hw];have:=key _ hi;rw[htab]at this
  simpa using this
namespace Sh
open Ev
end Sh
end Go.Proofs.YtiejahgklcjhkaaGreatDoor

namespace Go.Proofs.YtiejahgklcjhkaaGreatDoor
namespace Ev
open Go Go.RowKit
theorem ybex(v:Value):(T.sets .leaf 0 [v]).get 0=some v:=ybqr (l:=[v]) (j:=0) (by simp)
noncomputable def yss(x:Nat):ABlk:=.cells (T.sets .leaf 0 [.int .u32 x]) 1 40 0
def setAt(b x:Nat)(m:Mem):Prop:=∃ c,m.b.get b=some (.cells c 1 40 0)/\c.get 0=some (.int .u32 x)
section
variable {φ:Phi} {M:AM} {w:World} {m:Mem} {b x y:Nat}
theorem yut(h:setAt b x m)(hR:Rel φ M w)(hs:Sub m M):∃ l cs,φ b=some l/\l.sz=0/\l.base+1<=l.size/\l.ob=none/\w.heap[l.blk]? = some (.cells cs 40 (0,0))/\cs.size=l.size/\cs[l.base]? = some (.int .u32 x):=by
 obtain⟨c,h1,h2⟩:=h;obtain⟨l,cs,e',fz,g1,g2,g3,g4,g5,g6,g7⟩:=hR.cellsAt (hs _ _ h1);obtain⟨q1,q2,q3⟩:=g4 (by decide)
 subst q1 q2;obtain⟨v',k1,k2⟩:=g7 0 _ (by omega) h2
 have e:=k2.eq_simple rfl;subst e;exact⟨l,cs.toArray,g1,g2,g3,q3,g5,by simpa using g6,by simpa using k1⟩
theorem ycxv(h:setAt b x m)(hR:Rel φ M w)(hs:Sub m M){l:Loc}(hl:φ b=some l) :
  Rel φ (upd M b (some (yss y))) (w.setCell ⟨l.blk,l.base,none⟩ (.int .u32 y))/\WG φ M w φ (upd M b (some (yss y))) (w.setCell ⟨l.blk,l.base,none⟩ (.int .u32 y)):=by
 obtain⟨l',cs,g1,g2,g3,g4,g5,g6,g7⟩:=yut h hR hs;rw[hl]at g1;cases g1
 obtain⟨c,h1,_⟩:=h;rw[setCell_eq_setRow w l.blk l.base cs _ _ _ g5];refine hR.setRow (hs _ _ h1) hl ⟨g2,g3,(cs.setIfInBounds l.base (.int .u32 y)).toList,40,(0,0),⟨fun _=>⟨rfl,rfl,g4⟩,fun o ho=>(by rw[g4]at ho;cases ho)⟩,?_,by simpa using g6,fun j v hj hv=>?_⟩
 ·rw[Array.toArray_toList];exact setRow_heap w _ _ _ _ _ g5
 ·obtain rfl:j=0:=by omega
  rw[ybex]at hv;cases hv
  refine⟨.int .u32 y,?_,.simple rfl⟩;have hlt:l.base<cs.size:=by omega
  simp[hlt]
end
noncomputable def ynh(b y:Nat)(m:Mem):Mem:=m.app (.upd b (yss y))
theorem ybih(b y:Nat)(m:Mem)(i:Nat):(ynh b y m).b.get i=if i=b then some (yss y)else m.b.get i:=by
 unfold ynh;rw[Sh.ybdj];exact T.set_at _ _ _ _
noncomputable def ycml(b s:Nat):It where
 n:=(ybe s).length
 el:=fun k=>[.int .i64 ((ybe s).getD k 0:Nat)]
 pre:=fun k m=>setAt b (yca s k) m
 adv:=fun k m=>ynh b (yca s (k+1)) m
 step:=fun k φ M w M' w'=>∃ l,φ b=some l/\M'=upd M b (some (yss (yca s (k+1))))/\w'=w.setCell ⟨l.blk,l.base,none⟩ (.int .u32 (yca s (k+1):Nat))
theorem ycym{a:Nat}(h0:a ≠ 0)(h:a<2 ^ 32):bits BinOp.and IntKind.u32 (a:Int) (IntKind.wrap .u32 ((a:Int) - 1))=((a &&& (a - 1):Nat):Int):=by
 have e:IntKind.wrap .u32 ((a:Int) - 1)=((a - 1:Nat):Int):=by
  have e1:(a:Int) - 1=((a - 1:Nat):Int):=by omega
  rw[e1];exact yig (by omega)
 rw[e];exact u32_and (a:=a) (b:=a - 1) h (by omega)
set_option maxRecDepth 100000 in
set_option maxHeartbeats 2000000 in
theorem ybwp{b s:Nat}(hs32:s<2 ^ 32):ItOk Tryz.prog 189 [.pointer (some ⟨b,0,none⟩)] (ycml b s):=by
 refine⟨fun args w=>ybi ymd Tryz.func189 rfl args w,fun k m hk hw hp=>?_,?_,?_⟩
 ·obtain⟨c,h1,_⟩:=hp;have hb:=hw _ _ h1;show Grow m (ynh b _ m);unfold ynh
  exact⟨ybsz hw (fun i hi=>by
   have hi:i ∈ [b]:=hi;rw[List.mem_singleton.1 hi];exact⟨_,h1⟩),(yqv m _).1⟩
 ·rintro k φ M w m M' w' hk hw hR hs hp ⟨l,hl,rfl,rfl⟩;obtain⟨r1,r2⟩:=ycxv (y:=yca s (k+1)) hp hR hs hl;obtain⟨c,h1,_⟩:=hp;refine⟨φ.le_refl,fun _ _=>rfl,r1,fun i x hx=>?_,fun i hi hn=>?_,r2⟩
  ·have hx:(ynh b (yca s (k+1)) m).b.get i=some x:=hx;rw[ybih]at hx;show(if i=b then _ else _)=_
   split at hx
   ·rename_i q;rw[if_pos q];exact hx
   ·rename_i q;rw[if_neg q];exact hs _ _ hx
  ·show(if i=b then _ else _)=_
   rw[if_neg fun q=>?_];subst q;rcases hn with hn | hn
   ·rw[h1]at hn;cases hn
   ·have hn:i<(ynh i (yca s (k+1)) m).low:=hn;unfold ynh at hn;rw[Sh.ybdj]at hn;have hn:i<Nat.min m.low i:=hn;exact absurd hn (Nat.not_lt.2 (Nat.min_le_right m.low i))
 ·intro l St Stop φ M w cap' hread hgrow hyield h0 hcap;obtain⟨box,rfl,hbox⟩:=yen hcap;obtain⟨lc,hlc,_,rfl⟩:=hbox.ptr_inv;obtain⟨N,hN⟩:∃ N,(ybe s).length=N:=⟨_,rfl⟩;have Hread:=Lib.hid hread;have Hgrow:=Lib.hid hgrow;have Hyield:=Lib.hid hyield;have H0:=Lib.hid h0;have Hlc:=Lib.hid hlc
  have cellOf:Hid (∀ k φ' M' W,St k φ' M' W->φ.le φ'/\W.cell? ⟨lc.blk,lc.base,none⟩=some (.int .u32 (yca s k:Nat))/\W.frozen? ⟨lc.blk,lc.base,none⟩=false/\(∃ e fz,W.heap[0]? = some (.cells ybbb.toArray e fz))/\lc.blk<W.heap.size):=Lib.hid fun k φ' M' W hst=>by
   obtain⟨hle,m,hR,hsu,hpre⟩:=hread k φ' M' W hst;obtain⟨l',cs,g1,g2,g3,g4,g5,g6,g7⟩:=yut hpre hR hsu;rw[hle _ _ hlc]at g1;cases g1
   exact⟨hle,by simp[World.cell?,g5,g7],by simp[World.frozen?,g5],(hR.gl _ rfl).1,(Array.getElem?_eq_some_iff.1 g5).1⟩
  clear hread hgrow hyield h0 hbox hlc hcap
  refine callsIn_of_wp Tryz.func189 rfl trivial ?_
  simp only[Tryz.ntmps189,List.size_toArray,List.length_cons,List.length_nil,Nat.reduceAdd,Nat.reduceSub,Array.replicate_succ,
    Array.replicate_zero,List.push_toArray,List.append_toArray,List.nil_append,List.cons_append]
  gi_wp2
  gi_loopg [] N (fun q wr=>∃ k:Nat,q+k=N/\Hid (∃ φ' M',φ.le φ'/\St k φ' M' wr))
  case atStart=>exact⟨0,by omega,Lib.hid ⟨φ,M,φ.le_refl,H0.out⟩⟩
  case round =>
   obtain⟨k,hq,hst⟩:=hrel;obtain⟨φ1,M1,hle1,hst1⟩:=hst.out;obtain⟨_,hc1,hf1,hg1,hb1⟩:=cellOf.out _ _ _ _ hst1
   by_cases hlt:k<N
   ·obtain⟨h0,hz⟩:=ycxr hs32 (k:=k) (by omega)
    have hx32:=yjo hs32 k;have key:=ycym h0 hx32;have hrs:yca s (k+1)=yca s k &&& (yca s k - 1):=rfl;obtain⟨x,hx⟩:∃ x,yca s k=x:=⟨_,rfl⟩;obtain⟨y,hy⟩:∃ y,yca s (k+1)=y:=⟨_,rfl⟩;rw[hx]at hc1 h0 hz hx32 key hrs;rw[hy]at hrs;rw[<- hrs]at key;have hne:((x:Int) != 0)=true:=by rw[bne_iff_ne];omega
    have htz:=yczy (w:=wr) (x:=x) hx32 hg1;rw[hz]at htz;obtain⟨v,hv⟩:∃ v,(ybe s).getD k 0=v:=⟨_,rfl⟩
    obtain⟨fn,tmps,assign,body,hy',hRd⟩:=Hyield.out k φ1 M1 wr [.int .i64 (v:Nat)] (by show k<(ybe s).length;omega) hst1 (by
     show VRL φ1 [.int .i64 ((ybe s).getD k 0:Nat)] _;rw[hv];exact .cons (.simple rfl) .nil)
    rw[hv]at htz;have hyl:(Instr.yield l #[.int .i64 (v:Int)]).run Tryz.prog wr = .ok (.round l fn tmps assign body) wr:=hy';have Hst1:=Lib.hid hst1;have Hle1:=Lib.hid hle1;have Hy:=Lib.hid hy;have Hx:=Lib.hid hx
    clear hst hst1 hle1 hy' hg1 hz hrs hx hy
    gi_wp2
    refine⟨trivial,callsIn_wide.2 (htz.mono ?_)⟩;rintro e w' ⟨rfl,rfl⟩
    gi_wp2
    refine hRd.mono ?_;rintro e W3 (⟨rfl,φ3,M3,hle3,⟨m3,hR3,hS3,hp3⟩,hst3⟩ | ⟨rfl,hstop⟩)
    ·obtain⟨l',cs,g1,g2,g3,g4,g5,g6,g7⟩:=yut hp3 hR3 hS3;rw[hle3 _ _ (Hle1.out _ _ Hlc.out)]at g1;cases g1
     have hc3:W3.cell? ⟨lc.blk,lc.base,none⟩=some (.int .u32 (x:Nat)):=by
      have hxe:yca s k=x:=Hx.out;simp[World.cell?,g5,g7,hxe]
     have hf3:W3.frozen? ⟨lc.blk,lc.base,none⟩=false:=by simp[World.frozen?,g5]
     have Hst3:=Lib.hid (hst3 _ _ ⟨lc,hle3 _ _ (Hle1.out _ _ Hlc.out),rfl,rfl⟩);have Hle3:=Lib.hid hle3
     clear hst3 hle3 hRd hyl hR3 hS3 hp3 g2 g3 g4 g5 g6 g7
     gi_wp2
     gi_roundg (gk - 1)
     case measure=>omega
     case rel =>
      have hthis:=Hst3.out;rw[Hy.out]at hthis;refine⟨k+1,by omega,Lib.hid ⟨φ3,upd M3 b (some (yss y)),Phi.le_trans Hle1.out Hle3.out,?_⟩⟩
      clear Hread Hgrow Hyield H0 cellOf Hst3
      have e1:IntKind.wrap .u32 ((x:Int) - 1)=(x:Int) - 1:=by
       have e:(x:Int) - 1=((x - 1:Nat):Int):=by omega
       rw[e];exact yig (by omega)
      rw[e1]at key;rw[key];exact hthis
    ·have Hstop:=Lib.hid hstop
     clear hstop hRd hyl
     gi_wp2
     refine bodyPost_ret (results_none rfl _ _ _) rfl ?_;exact⟨⟨_,rfl⟩,.inr Hstop.out⟩
   ·have hk:k=N:=by omega
    have h0:yca s k=0:=(rest_end hs32 (by omega)).2 (by omega)
    rw[h0]at hc1;have Hst1:=Lib.hid hst1;have Hle1:=Lib.hid hle1
    clear hst hst1 hle1 hg1
    gi_wp2
    go_end0
    exact⟨⟨_,rfl⟩,.inl ⟨φ1,M1,by
     have:=Hst1.out;rw[hk,<- hN]at this;exact this⟩⟩
end Ev
end Go.Proofs.YtiejahgklcjhkaaGreatDoor

namespace Go.Proofs.YtiejahgklcjhkaaGreatDoor
def takeB(net:Nat->Nat)(t v:Nat):Nat:=if net v &&& t=0 then t ||| 2 ^ v else t
def resL(net:Nat->Nat)(e w:Nat):Nat:=if e<2 ^ 24 then(ybe (resD e w)).foldl (takeB net) 0 else 2 ^ e.log2
theorem ynf{t v i:Nat}:(t ||| 2 ^ v).testBit i=true ↔ t.testBit i=true\/i=v:=by
 rw[Nat.testBit_or,Bool.or_eq_true,Nat.testBit_two_pow,decide_eq_true_iff];exact or_congr Iff.rfl eq_comm
theorem ykl{g:Gr}(hg:GoodG g){net:Nat->Nat}(hn:∀ u v,adj g u v->(net u).testBit v=true):∀ (l:List Nat) (t:Nat),yoo g t ->
  yoo g (l.foldl (takeB net) t)/\(∀ i,(l.foldl (takeB net) t).testBit i=true->t.testBit i=true\/i ∈ l)/\(∀ i,t.testBit i=true->(l.foldl (takeB net) t).testBit i=true)
 | [],t,h=>⟨h,fun _ h=>.inl h,fun _ h=>h⟩
 | v :: l,t,h=>by
  have h':yoo g (takeB net t v):=by
   unfold takeB;split
   ·rename_i q
    have no:∀ w,adj g v w->t.testBit w=false:=fun w hw=>by
     cases r:t.testBit w with
     | false=>rfl
     | true =>
      have:(net v &&& t).testBit w=true:=by rw[Nat.testBit_and,hn v w hw,r];rfl
      rw[q]at this;simp at this
    intro a b hab ha;cases r:(t ||| 2 ^ v).testBit b with
    | false=>rfl
    | true =>
     exfalso
     rcases ynf.1 ha with a1 | a1<;>rcases ynf.1 r with b1 | b1
     ·have:=h a b hab a1;rw[b1]at this;cases this
     ·rw[b1]at hab;have:=no a (hg.adj_symm hab);rw[a1]at this;cases this
     ·rw[a1]at hab;have:=no b hab;rw[b1]at this;cases this
     ·rw[a1,b1]at hab;obtain⟨hu,_⟩:=hg.adj_lt hab;obtain⟨l,hl,e⟩:=yec.1 hab;have e3:g.ports[v]? = some (g.ports.getD v []):=by simp[List.getD,hu]
      exact(hg.link e3 hl).2.2.1 e
   ·exact h
  obtain⟨a1,a2,a3⟩:=ykl hg hn l _ h';rw[List.foldl_cons];refine⟨a1,fun i hi=>?_,fun i hi=>a3 i ?_⟩
  ·rcases a2 i hi with q | q
   ·unfold takeB at q;split at q
    ·rcases ynf.1 q with q | q
     ·exact .inl q
     ·exact .inr (by rw[q];exact List.mem_cons_self)
    ·exact .inl q
   ·exact .inr (List.mem_cons_of_mem _ q)
  ·unfold takeB;split
   ·exact ynf.2 (.inl hi)
   ·exact hi
theorem yth(g:Gr):yoo g 0:=fun _ _ _ h=>by simp at h
theorem yczp{g:Gr}(hg:GoodG g){net:Nat->Nat}(hn:∀ u v,adj g u v->(net u).testBit v=true):ResD (yoo g) (resL net):=fun e w h0=>by
 unfold resL
 by_cases he:e<2 ^ 24
 ·rw[if_pos he];obtain⟨r1,r2⟩:=Sh.ycva e w h0 he;obtain⟨a1,a2,a3⟩:=ykl hg hn (ybe (resD e w)) 0 (yth g)
  have hmem:∀ i,i ∈ ybe (resD e w) ↔ i<32/\(resD e w).testBit i=true:=fun i=>by
   unfold ybe;rw[List.mem_filter,List.mem_range]
  refine⟨?_,fun i hi=>?_,a1⟩
  ·obtain⟨i,hi⟩:∃ i,(resD e w).testBit i=true:=by
    refine Classical.byContradiction fun hq=>r1 ((ybp _).2 fun i=>?_);cases q:(resD e w).testBit i with
    | false=>rfl
    | true=>exact absurd ⟨i,q⟩ hq
   have hi32:i<32:=by
    refine Classical.byContradiction fun hq=>?_;have:=r2 i hi;rw[Nat.testBit_lt_two_pow (Nat.lt_of_lt_of_le he (Nat.pow_le_pow_right (by omega) (by omega)))]at this
    cases this
   have hm:=(hmem i).2 ⟨hi32,hi⟩
   obtain⟨x,l,e1⟩:∃ x l,ybe (resD e w)=x :: l:=by
    cases q:ybe (resD e w)with
    | nil=>rw[q]at hm;cases hm
    | cons x l=>exact⟨x,l,rfl⟩
   rw[e1,List.foldl_cons];have hx:yoo g (takeB net 0 x):=(ykl hg hn [x] 0 (yth g)).1
   have:=(ykl hg hn l _ hx).2.2 x (by
    unfold takeB;rw[if_pos (by simp)]
    exact ynf.2 (.inr rfl))
   intro hz;rw[hz]at this;simp at this
  ·rcases a2 i hi with q | q
   ·simp at q
   ·exact r2 i ((hmem i).1 q).2
 ·rw[if_neg he]
  have hb:∀ i,(2 ^ e.log2).testBit i=true ↔ i=e.log2:=fun i=>by
   rw[Nat.testBit_two_pow,decide_eq_true_iff];exact eq_comm
  refine⟨Nat.pos_iff_ne_zero.1 (Nat.two_pow_pos _),fun i hi=>?_,?_⟩
  ·rw[(hb i).1 hi];exact Nat.testBit_log2 h0
  ·have:=ybrp (v:=e.log2) hg
   rwa [Nat.one_shiftLeft]at this
theorem ybws{g:Gr}(hg:GoodG g):∀ u v,adj g u v->(netP (g.ports.getD u [])).testBit v=true:=fun u v h=>by
 obtain⟨l,hl,e⟩:=yhz h
 have key:∀ (ls:List (Int × Int)) (a:Nat),(a.testBit v=true \/ ∃ l ∈ ls,l.1.toNat=v)->(ls.foldl (fun a l=>a ||| 2 ^ l.1.toNat) a).testBit v=true:=by
  intro ls
  induction ls with
  | nil=>intro a ha;exact ha.resolve_right fun⟨_,h,_⟩=>nomatch h
  | cons x ls ih =>
   intro a ha;rw[List.foldl_cons];refine ih _ ?_;rcases ha with q | ⟨l,hl,q⟩
   ·exact .inl (ynf.2 (.inl q))
   ·rcases List.mem_cons.1 hl with r | r
    ·exact .inl (ynf.2 (.inr (by rw[<- q,r])))
    ·exact .inr ⟨l,r,q⟩
 exact key _ 0 (.inr ⟨l,hl,e⟩)
end Go.Proofs.YtiejahgklcjhkaaGreatDoor

namespace Go.Proofs.YtiejahgklcjhkaaGreatDoor
open Go
namespace Sh
open Ev Go.RowKit
set_option maxRecDepth 8000
def setO(x:Nat):OB:=⟨40,true,1,1,fun _=>[.i .u32 x]⟩
def yyl(b s:Nat):ItS:=⟨(ybe s).length,fun k=>[.i .i64 ((ybe s).getD k 0:Nat)],[(b,0)],fun k o=>lookO o (b,0)=some (setO (yca s k)),fun k o=>(SS.own ⟨[],o⟩ (b,0) (some (setO (yca s (k+1))))).o⟩
theorem ybbd{b s:Nat}(hs:s<2 ^ 32):ItC Tryz.prog 189 [.pt (b,0) 0 0] (yyl b s):=by
 intro lo F ω st f m us hc hr hown;obtain⟨u,rfl,hu⟩:=rvl1 hr;obtain⟨k,z,hk,rfl⟩:=hu.pt_inv;have hown0:lookO st.o (b,0)=some (setO (yca s 0)):=hown;obtain⟨hz,_⟩:=hc.ownAt hown0 hk;have hz:z=1:=hz;subst hz;refine⟨ycml k s,ybwp hs,rfl,fun F' ω' s' f' m' j hF hω hc' hj hown'=>?_⟩;have hk':=hω (b,0) List.mem_cons_self _ hk;have hown':lookO s'.o (b,0)=some (setO (yca s j)):=hown';obtain⟨_,Tb,L,g1,g2⟩:=hc'.ownAt hown' hk'
 obtain⟨g3,g4,_,g5⟩:=g2 0 (by show 0<1;omega)
 refine⟨?_,fun hlt=>⟨.cons .i .nil,?_⟩⟩
 ·refine⟨Tb,g1,?_⟩;have h0:=g5 0 (by show 0<1;omega)
  have g4:RVL F' ω' [.i .u32 (yca s j:Nat)] (L 0):=g4;obtain⟨v,e,hv⟩:=rvl1 g4;rw[e,hv.int_inv]at h0;exact h0
 ·exact hc'.upd (b:=setO (yca s (j+1))) ⟨_,hown'⟩ hk' (show 40 ≠ CU by decide) (Tb:=T.sets .leaf 0 [.int .u32 (yca s (j+1):Nat)]) (L:=fun _=>[.int .u32 (yca s (j+1):Nat)]) fun i hi=>by
   have hi:i<1:=hi;obtain rfl:i=0:=by omega
   refine⟨rfl,.cons .i .nil,rfl,fun q hq=>?_⟩;have hq:q<1:=hq;obtain rfl:q=0:=by omega
   exact ybex _
theorem ybez{s:Nat}:Cm Tryz.prog 154 [] [] [.i .u32 s] fun r o=>r = .fn 189 [] [.pt (1,0) 0 0]/\o = [(1,.one (some (setO s)))]:=by
 refine ybys [] [] _ _ _ ?_;simp only[c154,ycrk,ycqo,clash,yer,go_sem,Nat.reduceEqDiff,Nat.reduceAdd,Nat.reduceLT,↓reduceIte,reduceCtorEq];refine⟨.fn 189 [] [.pt (1,0) 0 0],[(1,.one (some (setO s)))],?_,?_,rfl,rfl⟩
 ·refine weak_all [] [] [] ?_;simp only[setO,allQ,live,sim_self,go_sem,↓reduceIte,reduceCtorEq]
 ·simp only[setO,famCln,obCln,allQ,live,go_sem,↓reduceIte]
theorem yvf{s v:Nat}(hs:s<2 ^ 24)(h:v ∈ ybe s):v<24/\s.testBit v=true:=by
 have hb:=(ybvg.1 h).2;refine⟨Classical.byContradiction fun q=>?_,hb⟩;rw[Nat.testBit_lt_two_pow (Nat.lt_of_lt_of_le hs (Nat.pow_le_pow_right (by omega) (by omega)))]at hb
 cases hb
theorem getD_mem{l:List Nat}{k:Nat}(h:k<l.length):l.getD k 0 ∈ l:=by rw[getD_at h];exact List.getElem_mem h
theorem ybui{net:List Nat}{s:Nat}(hs:s<2 ^ 24)(hn:∀ v,s.testBit v=true->v<net.length)(hb:∀ v,net.getD v 0<2 ^ 32)(hind:∀ v,s.testBit v=true->net.getD v 0 &&& s=0) :
  Returns Tryz.prog 221 [usV net,.i .u32 s] (.b true):=by
 refine Returns.of (ybwu [154] _ _ ?_);simp only[c221,ycqf,ycds,usV,clash,go_sem,Nat.reduceEqDiff,Nat.reduceAdd,Nat.reduceLT,↓reduceIte,reduceCtorEq];refine callM_of (ybez (s:=s)) [(1,60)] 0 [2,3,4] [2,3,4] ?_ ?_
 ·simp only[okN,famCln,obCln,keepF,keepO,allQ,live,sim_self,go_sem,Nat.reduceEqDiff,Nat.reduceBEq,↓reduceIte,reduceCtorEq]
 rintro r o' ⟨rfl,rfl⟩;simp only[setO,thenM,yhf,nuF,nu,difN,keepF,keepO,Fam.ren,OB.ren,dim,yew,ybfa,ybhq,go_sem,Nat.reduceEqDiff,Nat.reduceBEq,↓reduceIte]
 refine range_on (ybbd (b:=60) (s:=s) (by omega)) [(60,0),(2,0),(3,0),(4,0)] (fun i (_:Unit)=>⟨[(7,.fn 189 [] [.pt (60,0) 0 0]),(2,.pt (2,0) 0 0),(3,.pt (3,0) 0 0),(4,.pt (4,0) 0 0)],
  [(60,.one (some (setO (yca s i)))),(2,.one (some ⟨110,true,1,1,fun _=>[usV net]⟩)),(3,.one (some ⟨40,true,1,1,fun _=>[.i .u32 s]⟩)),(4,.one (some ⟨4,true,1,1,fun _=>[.b false]⟩))]⟩)
  (fun i _=>i<=(ybe s).length) () (Nat.zero_le _) ⟨fun _ h=>absurd h List.not_mem_nil,fun β h=>by rw[List.mem_singleton.1 h];exact List.mem_cons_self⟩ ?_ (fun _=>rfl) ?_ ?_ ?_
 ·refine weak_all [] [] [] ?_;simp only[setO,usV,yca,allQ,live,sim_self,go_sem,Nat.reduceEqDiff,↓reduceIte,reduceCtorEq]
 ·intro i _ hi _;refine⟨rfl,?_⟩;simp only[go_sem,allQ,go_sem,Nat.reduceEqDiff]
 ·intro i _ hi hlt;have hlt:i<(ybe s).length:=hlt;obtain⟨h24,hbit⟩:=yvf hs (getD_mem hlt);obtain⟨v,hv⟩:∃ v,(ybe s).getD i 0=v:=⟨_,rfl⟩;rw[hv]at h24 hbit;have hvn:=hn v hbit;have an:=u32_and (a:=net.getD v 0) (b:=s) (hb v) (by omega)
  rw[hind v hbit]at an;simp only[IntKind.bits]at an;refine⟨_,rfl,?_⟩;simp only[yyl];simp only[ycka,yckk,usV,setO,hv,an,Int.natCast_zero,Int.reduceBNe,clash,go_sem,Nat.reduceEqDiff,Nat.reduceAdd,↓reduceIte,reduceCtorEq]
  repeat (first | refine⟨by omega,?_⟩ | refine⟨by decide,?_⟩)
  refine weak_allP [] [] [] ?_;simp only[allQ,live,sim_self,go_sem,Nat.reduceEqDiff,↓reduceIte,reduceCtorEq]
 ·intro _ _;simp only[ycdg,yyl,splice,go_sem,Nat.reduceEqDiff,↓reduceIte];exact Sim.refl _
end Sh
end Go.Proofs.YtiejahgklcjhkaaGreatDoor

namespace Go.Proofs.YtiejahgklcjhkaaGreatDoor
namespace Sh
open Go Ev
end Sh
end Go.Proofs.YtiejahgklcjhkaaGreatDoor

namespace Go.Proofs.YtiejahgklcjhkaaGreatDoor
structure LdC(g:Gr)(c:Conf):Prop where
 len:c.length=g.ids.length
 row:∀ v,v<g.ids.length->(c.getD v []).length=3/\(0<=(c.getD v []).getD 0 0/\(c.getD v []).getD 0 0<=ybbw g)/\(0<=(c.getD v []).getD 1 0/\(c.getD v []).getD 1 0<g.ids.length)/\(-1<=(c.getD v []).getD 2 0/\(c.getD v []).getD 2 0<(g.ports.getD v []).length)
section
variable {nm nl nd np no nj:ByteArray} {g:Gr} {c:Conf} {v:Nat}
theorem LdC.link(h:LdC g c)(hg:GoodG g)(hv:v<g.ids.length){l:Int × Int}(hl:l ∈ g.ports.getD v []):0<=l.1/\l.1.toNat<g.ids.length/\adj g v l.1.toNat/\(0<=endP c 0 l/\endP c 0 l<=ybbw g)/\(0<=endP c 1 l/\endP c 1 l<g.ids.length):=by
 have hpl:=hg.2.2.1;obtain⟨h1,h2,h3,_⟩:=mem_adj hg (by omega) hl
 have h4:=h.row l.1.toNat (by omega)
 exact⟨h1,by omega,h3,h4.2.1,h4.2.2.1⟩
end
end Go.Proofs.YtiejahgklcjhkaaGreatDoor

namespace Go.Proofs.YtiejahgklcjhkaaGreatDoor
section
variable {nm nl nd np no nj:ByteArray} {g:Gr} {c:Conf} {v:Nat}
end
end Go.Proofs.YtiejahgklcjhkaaGreatDoor

namespace Go.Proofs.YtiejahgklcjhkaaGreatDoor
section
variable {nm nl nd np no nj:ByteArray} {g:Gr} {c:Conf} {v:Nat}
end
end Go.Proofs.YtiejahgklcjhkaaGreatDoor

namespace Go.Proofs.YtiejahgklcjhkaaGreatDoor
open Go
namespace Sh
open Ev Go.RowKit
set_option maxRecDepth 8000
end Sh
end Go.Proofs.YtiejahgklcjhkaaGreatDoor

namespace Go.Proofs.YtiejahgklcjhkaaGreatDoor
open Go
theorem ybxv(ls:List (Int × Int))(u:Nat):(netP ls).testBit u=true ↔ ∃ l ∈ ls,l.1.toNat=u:=by
 have key:∀ (ls:List (Int × Int)) (a:Nat),(ls.foldl (fun a l=>a ||| 2 ^ l.1.toNat) a).testBit u=true ↔ a.testBit u=true \/ ∃ l ∈ ls,l.1.toNat=u:=by
  intro ls
  induction ls with
  | nil=>exact fun a=>⟨.inl,fun h=>h.resolve_right fun⟨_,h,_⟩=>nomatch h⟩
  | cons x ls ih =>
   intro a;rw[List.foldl_cons,ih,ynf];constructor
   ·rintro((h | h) | ⟨l,hl,e⟩)
    ·exact .inl h
    ·exact .inr ⟨x,List.mem_cons_self,h.symm⟩
    ·exact .inr ⟨l,List.mem_cons_of_mem _ hl,e⟩
   ·rintro(h | ⟨l,hl,e⟩)
    ·exact .inl (.inl h)
    ·rcases List.mem_cons.1 hl with r | r
     ·exact .inl (.inr (by rw[<- e,r]))
     ·exact .inr ⟨l,r,e⟩
 unfold netP;rw[key];simp
def netG(g:Gr)(v:Nat):Nat:=netP (g.ports.getD v [])
theorem ybft{g:Gr}(hg:GoodG g){u v:Nat}(h:(netG g v).testBit u=true):adj g v u:=by
 obtain⟨l,hl,e⟩:=(ybxv _ _).1 h
 by_cases hv:v<g.ports.length
 ·rw[<- e];exact(mem_adj hg hv hl).2.2.1
 ·rw[List.getD_eq_getElem?_getD,List.getElem?_eq_none (by omega)]at hl
  cases hl
theorem ycyu{g:Gr}(hg:GoodG g)(v:Nat):netG g v<2 ^ 24:=by
 have:=hg.2.1;refine Nat.lt_pow_two_of_testBit _ fun i hi=>?_;cases h:(netG g v).testBit i with
 | false=>rfl
 | true=>have:=(hg.adj_lt (ybft hg h)).2;omega
theorem ybce(g:Gr)(v:Nat):(g.ports.map netP).getD v 0=netG g v:=by
 unfold netG
 by_cases hv:v<g.ports.length
 ·rw[Sh.getD_at (by rw[List.length_map];exact hv),List.getElem_map,Sh.getD_at hv]
 ·rw[List.getD_eq_getElem?_getD,List.getElem?_eq_none (by rw[List.length_map];omega),List.getD_eq_getElem?_getD,List.getElem?_eq_none (by omega)]
  rfl
def resG(g:Gr):Nat->Nat->Nat:=resL (netG g)
theorem yly{g:Gr}(hg:GoodG g):ResD (yoo g) (resG g):=yczp hg (ybws hg)
theorem ybsi{g:Gr}(hg:GoodG g){s:Nat}(h:yoo g s){v:Nat}(hv:s.testBit v=true):netG g v &&& s=0:=by
 rw[ybp];intro i;rw[Nat.testBit_and];cases q:(netG g v).testBit i with
 | false=>rfl
 | true=>rw[h v i (ybft hg q) hv];rfl
def yjt(f:Nat->Nat)(x i:Nat):Nat:=((ybe x).take i).foldl (takeB f) 0
theorem yrs{f:Nat->Nat}{x i:Nat}(hi:i<(ybe x).length):yjt f x (i+1)=takeB f (yjt f x i) ((ybe x).getD i 0):=by
 unfold yjt;rw[List.take_succ_eq_append_getElem hi,List.foldl_append,Sh.getD_at hi];rfl
theorem yblc(f:Nat->Nat)(x:Nat):yjt f x (ybe x).length=(ybe x).foldl (takeB f) 0:=by unfold yjt;rw[List.take_length]
theorem yza{f:Nat->Nat}{x:Nat}(hx:x<2 ^ 24):∀ i,i<=(ybe x).length->yjt f x i<2 ^ 24
 | 0,_=>Nat.two_pow_pos 24
 | i+1,hi=>by
  rw[yrs (by omega)]
  have h:=yza (f:=f) hx i (by omega)
  have h2:=(Sh.yvf hx (Sh.getD_mem (show i<(ybe x).length by omega))).1
  unfold takeB;split
  ·exact Nat.or_lt_two_pow h (Nat.pow_lt_pow_right (by omega) h2)
  ·exact h
theorem ycbl:lowB 0=0:=Nat.zero_and _
theorem ybyh(e w:Nat):subB (resD e w) e:=by
 unfold resD;split
 ·exact ybgk e
 ·intro i hi;rw[Nat.testBit_and,Bool.and_eq_true]at hi;exact hi.2
namespace Sh
open Ev Go.RowKit
set_option maxRecDepth 8000
set_option maxHeartbeats 2000000 in
theorem ynl{net:List Nat}{e w:Nat}(he:e<2 ^ 24)(hn:∀ v,e.testBit v=true->v<net.length)(hb:∀ v,net.getD v 0<2 ^ 24)(hw:w<2 ^ 32) :
  Returns Tryz.prog 111 [usV net,.i .i64 2,.i .u32 e,.i .u32 w] (.i .u32 ((ybe (resD e w)).foldl (takeB fun v=>net.getD v 0) 0:Nat)):=by
 refine Returns.of (ybxk [154] _ _ ?_);have a0:=u32_and (a:=w) (b:=e) (by omega) (by omega)
 obtain⟨N,a1,a2⟩:∃ N:Nat,IntKind.wrap .u32 (0 - (e:Int))=(N:Int)/\IntKind.wrap .u32 (((BitVec.ofInt (IntKind.bits .u32) (e:Int)) &&& BitVec.ofInt (IntKind.bits .u32) (N:Int)).toNat:Int)=((lowB e:Nat):Int):=by
  by_cases h0:e=0
  ·subst h0;refine⟨0,by decide,?_⟩
   have:=u32_and (a:=0) (b:=0) (by omega) (by omega)
   rw[Nat.and_zero]at this;rw[ycbl];exact this
  ·exact⟨2 ^ 32 - e,u32_neg (by omega) (by omega),u32_and (a:=e) (b:=2 ^ 32 - e) (by omega) (by omega)⟩
 have hsub:=ybyh e w;obtain⟨W,hW⟩:∃ W,w &&& e=W:=⟨_,rfl⟩;rw[hW]at a0;simp only[IntKind.bits]at a0 a2
 obtain⟨x,hx,hcase⟩:∃ x,resD e w=x/\((((W:Int) == 0)=true/\lowB e=x)\/(((W:Int) == 0)=false/\W=x)):=by
  unfold resD;rw[hW]
  by_cases q:W=0
  ·exact⟨lowB e,if_pos q,.inl ⟨by rw[q];rfl,rfl⟩⟩
  ·exact⟨W,if_neg q,.inr ⟨by rw[beq_eq_false_iff_ne];omega,rfl⟩⟩
 rw[hx]at hsub ⊢;have hx24:x<2 ^ 24:=ybcb hsub he;obtain⟨f,hf⟩:∃ f:Nat->Nat,(fun v=>net.getD v 0)=f:=⟨_,rfl⟩;have hf':∀ v,net.getD v 0=f v:=fun v=>by rw[<- hf]
 simp only[hf']at hb;rw[hf,<- yblc f x];have hlt24:=yza (f:=f) hx24;have hsu:=fun i=>yrs (f:=f) (x:=x) (i:=i);have ht0:yjt f x 0=0:=rfl;obtain⟨T,hT⟩:∃ T:Nat->Nat,(fun i=>yjt f x i)=T:=⟨_,rfl⟩;have hT':∀ i,yjt f x i=T i:=fun i=>by rw[<- hT]
 simp only[hT']at hlt24 hsu ht0 ⊢;rcases hcase with⟨z0,hz⟩ | ⟨z0,hz⟩
 all_goals
  first
   | rw[hz]at a2
   | rw[hz]at a0 z0
  simp only[c111,ycnz,ycqg,ycic,ycor,yclb,yckf,ycdd,ycfu,ycnj,usV,a0,a1,a2,z0,IntKind.signed,Int.reduceBEq,clash,go_sem,Nat.reduceEqDiff,Nat.reduceAdd,Nat.reduceLT,↓reduceIte,reduceCtorEq];refine callM_of (ybez (s:=x)) [(1,60)] 0 [4,9] [4,9] ?_ ?_
  ·simp only[okN,famCln,obCln,keepF,keepO,allQ,live,sim_self,go_sem,Nat.reduceEqDiff,Nat.reduceBEq,↓reduceIte,reduceCtorEq]
  rintro r o' ⟨rfl,rfl⟩;simp only[setO,thenM,yhf,nuF,nu,difN,keepF,keepO,Fam.ren,OB.ren,dim,yew,ybfa,ybhq,go_sem,Nat.reduceEqDiff,Nat.reduceBEq,↓reduceIte]
  refine range_on (ybbd (b:=60) (s:=x) (by omega)) [(60,0),(4,0),(9,0)] (fun i (_:Unit)=>⟨[(30,.fn 189 [] [.pt (60,0) 0 0]),(4,.pt (4,0) 0 0),(9,.pt (9,0) 0 0)],
   [(60,.one (some (setO (yca x i)))),(4,.one (some ⟨110,true,1,1,fun _=>[usV net]⟩)),(9,.one (some ⟨40,true,1,1,fun _=>[.i .u32 (T i)]⟩))]⟩)
   (fun i _=>i<=(ybe x).length) () (Nat.zero_le _) ⟨fun _ h=>absurd h List.not_mem_nil,fun β h=>by rw[List.mem_singleton.1 h];exact List.mem_cons_self⟩ ?_ (fun _=>rfl) ?_ ?_ ?_
  ·refine weak_all [] [] [] ?_;simp only[setO,usV,yca,ht0,allQ,live,sim_self,Int.natCast_zero,go_sem,Nat.reduceEqDiff,↓reduceIte,reduceCtorEq]
  ·intro i _ hi _;refine⟨rfl,?_⟩;simp only[go_sem,allQ,go_sem,Nat.reduceEqDiff]
  ·intro i _ hi hlt;have hlt:i<(ybe x).length:=hlt;obtain⟨h24,hbit⟩:=yvf hx24 (getD_mem hlt);have hs:=hsu i hlt;have hti:=hlt24 i (by omega)
   obtain⟨v,hv⟩:∃ v,(ybe x).getD i 0=v:=⟨_,rfl⟩;rw[hv]at h24 hbit hs;have hvn:=hn v (hsub v hbit);have hbv:=hb v;have hfv:=hf' v;obtain⟨b,hbe⟩:∃ b,f v=b:=⟨_,rfl⟩;obtain⟨t,hte⟩:∃ t,T i=t:=⟨_,rfl⟩;unfold takeB at hs;rw[hbe]at hbv hfv hs;rw[hte]at hti hs;have an:=u32_and (a:=b) (b:=t) (by omega) (by omega)
   obtain⟨a,ha⟩:∃ a,b &&& t=a:=⟨_,rfl⟩;rw[ha]at an hs;have sh:=ypc (v:=v) (by omega)
   have ov:=u32_or (a:=t) (b:=2 ^ v) (by omega) (Nat.pow_lt_pow_right (by omega) (by omega))
   simp only[IntKind.bits,Int.toNat_natCast]at an sh ov;refine⟨_,rfl,?_⟩;simp only[yyl]
   by_cases q:a=0
   ·have z1:((a:Int) == 0)=true:=by rw[q];rfl
    rw[if_pos q]at hs;simp only[yben,ybdh,ybbu,usV,setO,hv,hfv,hte,an,sh,ov,z1,splice,clash,go_sem,Nat.reduceEqDiff,Nat.reduceAdd,↓reduceIte,reduceCtorEq]
    repeat (first | refine⟨by omega,?_⟩ | refine⟨by decide,?_⟩)
    refine weak_allP [] [] [] ?_;simp only[hs,allQ,live,sim_self,go_sem,Nat.reduceEqDiff,↓reduceIte,reduceCtorEq]
   ·have z1:((a:Int) == 0)=false:=by rw[beq_eq_false_iff_ne];omega
    rw[if_neg q]at hs;simp only[yben,ybdh,ybbu,usV,setO,hv,hfv,hte,an,z1,clash,go_sem,Nat.reduceEqDiff,Nat.reduceAdd,↓reduceIte,reduceCtorEq]
    repeat (first | refine⟨by omega,?_⟩ | refine⟨by decide,?_⟩)
    refine weak_allP [] [] [] ?_;simp only[hs,allQ,live,sim_self,go_sem,Nat.reduceEqDiff,↓reduceIte,reduceCtorEq]
  ·intro _ _;simp only[ybni,yyl,clash,go_sem,Nat.reduceEqDiff,Nat.reduceAdd,↓reduceIte,reduceCtorEq];exact Sim.refl _
theorem yzy{net:List Nat}{e s:Nat}(he:e<2 ^ 24)(h0:s ≠ 0)(hs:s<2 ^ 24)(hsub:difB s e=0)(hn:∀ v,s.testBit v=true->v<net.length)(hb:∀ v,net.getD v 0<2 ^ 32)(hi:∀ v,s.testBit v=true->net.getD v 0 &&& s=0) :
  Returns Tryz.prog 196 [usV net,.i .i64 2,.i .u32 e,.i .u32 s] (.b true):=by
 refine Returns.of (ycyk _ _ ?_);have z0:((s:Int) == 0)=false:=by simp;omega
 have a0:=u32_andNot (a:=s) (b:=e) (by omega) (by omega)
 have hI:=ybui hs hn hb hi;rw[hsub]at a0;simp only[usV]at hI;simp only[Int.natCast_zero,IntKind.bits]at a0;simp only[c196,ycop,ycgz,usV,z0,a0,Int.reduceBNe,go_sem,Nat.reduceEqDiff,Nat.reduceAdd,↓reduceIte,reduceCtorEq];simp only[ychd,ycni,ycpx,yciu,Int.reduceBEq,go_sem,Nat.reduceEqDiff,Nat.reduceAdd,↓reduceIte,reduceCtorEq];refine hI.use ?_;simp only[thenO,sim_b,go_sem,Nat.reduceEqDiff,Nat.reduceAdd,↓reduceIte,reduceCtorEq]
theorem ybmv{g:Gr}(hg:GoodG g):DaemonOk 2 (g.ports.map netP) (resG g):=by
 have hN:(fun v=>(g.ports.map netP).getD v 0)=netG g:=funext fun v=>ybce g v;have hb:∀ v,(g.ports.map netP).getD v 0<2 ^ 24:=fun v=>by rw[ybce];exact ycyu hg v
 have hl:∀ (e:Nat),e<2 ^ (g.ports.map netP).length -> ∀ v,e.testBit v=true->v<(g.ports.map netP).length:=fun e he v hv=>by
  refine Classical.byContradiction fun q=>?_;rw[Nat.testBit_lt_two_pow (Nat.lt_of_lt_of_le he (Nat.pow_le_pow_right (by omega) (by omega)))]at hv
  cases hv
 have hrs:∀ (e w:Nat),e<2 ^ 24->resG g e w=(ybe (resD e w)).foldl (takeB (netG g)) 0:=fun e w he=>if_pos he
 exact
  { resolve:=fun e w he hn h0 hw=>by rw[hrs e w he,<- hN];exact ynl he (hl e hn) hb hw
    permits:=fun e w he hn h0 hw=>by obtain⟨h1,h2,h3⟩:=yly hg e w h0;exact yzy he h1 (ybcb h2 he) (ycbh h2) (fun v hv=>hl e hn v (h2 v hv)) (fun v=>Nat.lt_of_lt_of_le (hb v) (by omega)) fun v hv=>by rw[ybce];exact ybsi hg h3 hv
    zero:=fun w hw=>⟨_,ynl (Nat.two_pow_pos 24) (fun v hv=>by simp at hv) hb hw⟩
    sub:=fun e w h0 _=>⟨(yly hg e w h0).1,(yly hg e w h0).2.1⟩ }
end Sh
end Go.Proofs.YtiejahgklcjhkaaGreatDoor

namespace Go.Proofs.YtiejahgklcjhkaaGreatDoor
open Go
namespace Sh
open Ev Go.RowKit
set_option maxRecDepth 8000
theorem yyo:Returns Tryz.prog 59 [] (.a (.string Mqt)):=by
 refine Returns.of (ydgd _ _ ?_);simp only[c59,ydgc,ydhz,go_sem,↓reduceIte];exact Sim.refl _
theorem yry{g:Gr}(hI:GrI g)(hg:GoodG g):Returns Tryz.prog 68 [grV g] (.ag (yep 2 false true (2 * ydh g+g.ports.length:Nat) (2 * ydh g+g.ports.length:Nat))):=by
 have h:=ybke hI;unfold ymj at h;rw[if_pos ((ybx g).2 hg)]at h;exact h
theorem yus{g:Gr}(hI:GrI g)(hg:GoodG g):Returns Tryz.prog 69 [grV g] (.ag (yep 2 false true (2 * ydh g+g.ports.length:Nat) (2 * ydh g+g.ports.length:Nat))):=by
 have h:=yyz hI;unfold ymj at h;rw[if_pos ((ybx g).2 hg)]at h;exact h
theorem yts:Returns Tryz.prog 60 [] (ycl MqP.vars):=by
 have e:MqP.vars = [⟨⟨#[112]⟩,3,0,0,0,0⟩]:=by kernel_rfl
 rw[e];exact ybpr
end Sh
end Go.Proofs.YtiejahgklcjhkaaGreatDoor

namespace Go.Proofs.YtiejahgklcjhkaaGreatDoor
open Go.ChangeShapes Go.WideShapes Go.ChangeAt Go.RowKit

theorem ybqj{α:Type}{p:Nat->α->Prop}:∀ (n:Nat),(∀ i,i<n -> ∃ x,p i x) -> ∃ xs:List α,xs.length=n /\ ∀ (j:Nat) (x:α),xs[j]? = some x->p j x
 | 0,_=>⟨[],rfl,by simp⟩
 | n+1,h=>by
  obtain⟨xs,h1,h2⟩:=ybqj n fun i hi=>h i (by omega)
  obtain⟨x,hx⟩:=h n (by omega)
  refine⟨xs ++ [x],by simp[h1],fun j y hy=>?_⟩
  by_cases hj:j<xs.length
  ·rw[List.getElem?_append_left hj]at hy;exact h2 j y hy
  ·rw[List.getElem?_append_right (by omega)]at hy
   have:j - xs.length=0:=by
    rcases Nat.eq_zero_or_pos (j - xs.length)with q | q
    ·exact q
    ·rw[List.getElem?_eq_none (by simp;omega)]at hy;cases hy
   rw[this]at hy;simp at hy;subst hy;obtain rfl:j=n:=by omega
   exact hx

section
variable {H:Type} {enc:TypeId × Value->H} {P:Program} {w:World} {base:Nat} {held:Bool}
theorem wf_i64{n:Int}(h:(Lit.int .i64 n).wf=true):I64 n:=by
 simp only[Lit.wf,Bool.and_eq_true,decide_eq_true_eq]at h;have e1:IntKind.i64.min = -9223372036854775808:=rfl;have e2:IntKind.i64.max=9223372036854775807:=rfl;rw[e1,e2]at h;exact h
end

theorem own:ownKnob Tryz.prog.godebug=Option.none:=by kernel_rfl
theorem laidOut:laidOutB Tryz.prog=true:=by kernel_rfl

section
variable {H:Type} {enc:TypeId × Value->H} {w:World} {base:Nat} {held:Bool} {n:Nat} {v:Value} {x:DataW H × List MemPlace}
end
end Go.Proofs.YtiejahgklcjhkaaGreatDoor

namespace Go.Proofs.YtiejahgklcjhkaaGreatDoor
namespace Sh
open Go Ev Go.RowKit

noncomputable def yxc{α:Type}(t:T α):Nat->List (Option α)->T α
 | _,[]=>t
 | i,x :: l=>yxc (T.set (Nat.succ i) t i x) (i+1) l
theorem ykf{α:Type}:∀ (l:List (Option α)) (t:T α) (i j:Nat),(yxc t i l).get j=if i<=j/\j<i+l.length then(l[j - i]?).join else t.get j
 | [],t,i,j=>by rw[if_neg (by simp)];rfl
 | x :: l,t,i,j=>by
  unfold yxc;rw[ykf l _ _ j]
  by_cases c:i+1<=j/\j<i+1+l.length
  ·rw[if_pos c,if_pos (by simp;omega),show j - i=(j - (i+1))+1 by omega]
   rfl
  ·rw[if_neg c,T.set_at]
   by_cases q:j=i
   ·subst q;rw[if_pos rfl,if_pos (by simp)]
    simp
   ·rw[if_neg q,if_neg (by simp;omega)]

def absV(Z:Nat)(v:Value):Option Value:=if simple v then some v else match v with
 | .slice (some ⟨b,o,none⟩) n c=>if n<=c/\c<=9223372036854775807 then(if c=0 then some (.slice (some ⟨Z,0,none⟩) n CU)else if b<=Z then some (.slice (some ⟨b,o,none⟩) n CU)else none)else none
 | .slice (some ⟨_,_,some _⟩) n c=>if n<=c/\c=0 then some (.slice (some ⟨Z,0,none⟩) n CU)else none
 | _=>none
def isU8:Value->Bool
 | .int .u8 _=>true
 | _=>false
noncomputable def absB(Z:Nat)(w:World)(i:Nat):Option ABlk:=match w.heap[i]? with
 | some (.cells c _ _)=>if c.toList.all isU8=true then none else some (.cells (yxc .leaf 0 (c.toList.map (absV Z))) c.size CU 0)
 | _=>none
def phiW(w:World):Phi:=fun i=>match w.heap[i]? with
 | some (.cells c _ _)=>some ⟨i,0,c.size,0,w.heap[i]?⟩
 | _=>if i<=w.heap.size then some ⟨i,0,0,0,none⟩else none
noncomputable def memW(w:World):Mem:=⟨w.heap.size+1,yxc .leaf 0 ((List.range w.heap.size).map (absB w.heap.size w)),w.heap.size+1⟩

theorem yiq{w:World}{i:Nat}{b:ABlk}:(memW w).b.get i=some b ↔ absB w.heap.size w i=some b:=by
 show(yxc .leaf 0 _).get i=some b ↔ _;rw[ykf]
 by_cases h:i<w.heap.size
 ·rw[if_pos (by simpa using h)]
  simp[h]
 ·rw[if_neg (by simpa using h),T.get_leaf]
  have:absB w.heap.size w i=none:=by unfold absB;rw[Array.getElem?_eq_none (by omega)]
  rw[this]
theorem ybeo(w:World):Wf (memW w):=fun i b h=>by
 rw[yiq]at h;show i<w.heap.size+1;unfold absB at h;split at h
 ·rename_i hc;have:=(Array.getElem?_eq_some_iff.1 hc).1;omega
 ·cases h
theorem yfd{w:World}{v u:Value}(h:absV w.heap.size v=some u):VR (phiW w) u v:=by
 have hZ:∃ l,phiW w w.heap.size=some l:=by
  unfold phiW;rw[Array.getElem?_eq_none (Nat.le_refl _)];simp
 have hφ:∀ b,b<=w.heap.size -> ∃ sz ob,phiW w b=some ⟨b,0,sz,0,ob⟩:=by
  intro b hb;unfold phiW;split
  ·exact⟨_,_,rfl⟩
  ·rw[if_pos hb];exact⟨_,_,rfl⟩
 unfold absV at h;split at h
 ·rename_i hs;cases h;exact .simple hs
 ·split at h
  ·rename_i b o n c _
   split at h
   ·rename_i hc
    split at h
    ·rename_i h0
     cases h
     obtain⟨l,hl⟩:=hZ;exact .slice hl hc.1 (fun q=>absurd rfl q) hc.2 (.inr h0)
    ·split at h
     ·rename_i hbl
      cases h
      obtain⟨sz,ob',hl⟩:=hφ b hbl;exact .slice hl hc.1 (fun q=>absurd rfl q) hc.2 (.inl ⟨by simp,.inl rfl⟩)
     ·cases h
   ·cases h
  ·rename_i b o sp n c _
   split at h
   ·rename_i hc
    cases h
    obtain⟨l,hl⟩:=hZ;exact .slice hl hc.1 (fun q=>absurd rfl q) (by omega) (.inr hc.2)
   ·cases h
  ·cases h
theorem ybxl:∀ x,ybzk=some x->x.2.all isU8=true:=by
 intro x hx;unfold ybzk at hx
 first | (cases hx;done) | (cases hx;rfl)
theorem relW{w:World}(hG:GlW w):Rel (phiW w) (memW w).b.get w:=by
 have hblk:∀ i b,(memW w).b.get i=some b -> ∃ l,phiW w i=some l/\l.blk=i/\l.ob=w.heap[i]? /\ BR (phiW w) l w b:=by
  intro i b hb;rw[yiq]at hb;unfold absB at hb;split at hb
  ·rename_i c e fz hc
   split at hb
   ·cases hb
   cases hb
   refine⟨⟨i,0,c.size,0,w.heap[i]?⟩,by unfold phiW;rw[hc],rfl,rfl,rfl,by simp,c.toList,e,fz,⟨fun q=>absurd rfl q,fun o ho=>ho⟩,by simpa using hc,by simp,fun j v hj hg=>?_⟩
   rw[ykf]at hg;split at hg
   ·simp only[Nat.sub_zero,List.getElem?_map]at hg;cases hcj:c.toList[j]? with
    | none=>rw[hcj]at hg;cases hg
    | some x =>
     rw[hcj]at hg;have hg:absV w.heap.size x=some v:=by simpa using hg
     exact⟨x,by rw[Nat.zero_add];exact hcj,yfd hg⟩
   ·rw[T.get_leaf]at hg;cases hg
  ·cases hb
 refine⟨⟨fun i b hb=>by obtain⟨l,h1,_,_,h2⟩:=hblk i b hb;exact⟨l,h1,h2⟩,fun i j x y li lj hne hx hy hi hj=>?_⟩,fun x hx=>⟨hG x hx,fun⟨i,b,l,h1,h2,h3⟩=>?_⟩⟩
 rotate_left
 ·obtain⟨l',k1,k2,_⟩:=hblk i b h1;rw[h2]at k1;cases k1
  rw[h3]at k2;obtain⟨e,fz,q⟩:=hG x hx;rw[yiq]at h1;unfold absB at h1;rw[<- k2,q]at h1;simp only at h1;rw[if_pos (by simpa using ybxl x hx)]at h1
  cases h1
 obtain⟨l,h1,h2,_⟩:=hblk i x hx;obtain⟨l',h3,h4,_⟩:=hblk j y hy;rw[hi]at h1;cases h1
 rw[hj]at h3;cases h3
 rw[h2,h4];exact hne
theorem ycuy{w:World}{i:Nat}{b:ABlk}{l:Ev.Loc}(hb:(memW w).b.get i=some b)(hl:phiW w i=some l):l.blk=i /\ ∃ o,l.ob=some o/\w.heap[i]? = some o:=by
 rw[yiq]at hb;unfold absB at hb;split at hb
 ·rename_i c e fz hc
  unfold phiW at hl;rw[hc]at hl;cases hl
  exact⟨rfl,_,rfl,hc⟩
 ·cases hb
theorem ydfe(w:World)(n:Nat):Fresh (phiW w) (memW w).next n:=by
 intro i h1 _;have h1:w.heap.size+1<=i:=h1;unfold phiW;rw[Array.getElem?_eq_none (by omega)]
 simp only;rw[if_neg (by omega)]
theorem ybwv {P:Program} {g:FuncId} {args:List SV} {r:SV} {v:Value} {us us':List Value} {w:World} (h:Returns P g args r) (hg:∃ fn c,P.funcs[g]? = some fn/\fn.body=some c) (hn:ymp P) (hG:GlW w)
  (ha:RVL (memW w).b.get om0 args us) (hv:VRL (phiW w) us us') (hr:∀ F u,RV F om0 r u->u=v) (hat:∀ φ v',VR φ v v'->v'=v):Calls P g us'.toArray w fun e w'=>e = .returned v/\Below w.heap.size w w':=by
 obtain⟨u,m',x,h1,h2,h3,rfl,h5⟩:=h (memW w).b.get (memW w) us (ybeo w) (Le.refl _) ha;have hu:=hr _ _ h5;subst hu;have hs:=(h1 (ybeo w)).2 (phiW w) (memW w).b.get w us' (relW hG) (fun i b hb=>hb) hv (ydfe w _);obtain⟨fn,c,k1,k2⟩:=hg;rcases hs with⟨_,hc⟩ | ⟨v',w',hrun,_⟩
 ·refine hc.mono ?_;rintro e w' ⟨v',rfl,φ',M',hgd,hvr⟩;rw[hat _ _ hvr];refine⟨rfl,hgd.wg.os,hgd.wg.tape,hgd.wg.output,hgd.wg.size,fun k hk=>?_⟩
  by_cases hi:Img (phiW w) (memW w).b.get k
  ·obtain⟨i,b,l,e1,e2,e3⟩:=hi;obtain⟨k4,o,k5,k6⟩:=ycuy e1 e2;have hik:i=k:=k4.symm.trans e3;subst hik;have hlt:i<(memW w).next:=ybeo w i b e1
   have hM:M' i=some b:=by
    rw[hgd.frame i (fun q=>by omega) (.inr (Nat.lt_of_lt_of_le hlt h2))]
    exact e1
   obtain⟨l',q1,q2⟩:=hgd.rel.blk i b hM;rw[hgd.le i l e2]at q1;cases q1
   have hcells:∃ c n,b = .cells c n CU 0:=by
    rw[yiq]at e1;unfold absB at e1;split at e1
    ·split at e1
     ·cases e1
     ·cases e1;exact⟨_,_,rfl⟩
    ·cases e1
   obtain⟨c',n',rfl⟩:=hcells;obtain⟨_,_,cs,e',fz,h0,_⟩:=q2;rw[k4]at h0;rw[h0.2 o k5,k6]
  ·exact hgd.wg.keep k hk hi
 ·rw[ybi hn k1 k2]at hrun;cases hrun
end Sh
end Go.Proofs.YtiejahgklcjhkaaGreatDoor

namespace Go.Proofs.YtiejahgklcjhkaaGreatDoor
namespace Sh
open Go Ev Go.RowKit Go.ChangeShapes Go.WideShapes Go.ChangeAt
def yqc(w:World)(g:SV)(v:Value):Prop:=∃ u,absV w.heap.size v=some u/\RV (memW w).b.get om0 g u
def ybcz(w:World)(g:List SV)(cs:List Value):Prop:=∃ L,cs.map (absV w.heap.size)=L.map some/\RVL (memW w).b.get om0 g L
theorem ybcz.nil(w:World):ybcz w [] []:=⟨[],rfl,.nil⟩
theorem yqc.cons{w:World}{g:SV}{v:Value}{gs:List SV}{cs:List Value}(h:yqc w g v)(t:ybcz w gs cs):ybcz w (g :: gs) (v :: cs):=by
 obtain⟨u,h1,h2⟩:=h;obtain⟨L,h3,h4⟩:=t;exact⟨u :: L,by rw[List.map_cons,List.map_cons,h1,h3],.cons h2 h4⟩
theorem yuu(w:World)(k:IntKind)(n:Int):yqc w (.i k n) (.int k n):=⟨.int k n,rfl,.i⟩
theorem ybfk{w:World}{a:Addr}{v:Value}(h:w.cell? a=some v):a.spot=none/\a.block<w.heap.size /\ ∃ c e fz,w.heap[a.block]? = some (.cells c e fz)/\c[a.off]? = some v:=by
 unfold World.cell? at h;split at h
 ·rename_i c e fz hc
  split at h
  ·cases h
  ·rename_i hs
   refine⟨?_,(Array.getElem?_eq_some_iff.1 hc).1,c,e,fz,hc,h⟩;cases hq:a.spot with
   | none=>rfl
   | some x=>rw[hq]at hs;simp at hs
 ·cases h
section
variable {H:Type} {enc:TypeId × Value->H} {P:Program} {w:World} {base:Nat} {held:Bool}
theorem ytr {α:Type} {z:Nat} {f:α->List SV} {p:α->Prop} (d:α) {t e:TypeId} {fuel:Nat} {v:Value} {x:DataW H × List MemPlace} (ht:P.underlying t=some (.slice e)) (hC:P.cellsOf e=z) (h0:0<z)
  (hE:∀ (n:Nat) (cs':List Value) (y:DataW H × List MemPlace),DataW.trod enc P w base (fun _=>true) held n e cs'=some y->cs'.length=z -> ∃ x,p x/\ybcz w (f x) cs'/\(f x).all one1=true/\(cs'.head?.any isU8)=false)
  (h:DataW.trod enc P w base (fun _=>true) held fuel t [v]=some x):∃ xs:List α,(∀ x ∈ xs,p x)/\yqc w (.sl z xs.length (fun k=>f (xs.getD k d))) v/\isU8 v=false:=by
 rcases Go.Deep.open_slice ht h with⟨h1,_⟩ | ⟨a,len,cap,m,n,D,Pl,hcs,hb,hl,hm,hmm,hx,hi⟩
 ·simp at h1;subst h1;exact⟨[],fun x hx=>(by cases hx),⟨.slice none 0 0,rfl,.sl0 (.inl rfl)⟩,rfl⟩
 ·simp at hcs;subst hcs;simp only[if_true]at hmm;subst hmm;unfold maxLen at hm;rw[hC]at hi;obtain⟨b,off,spot⟩:=a;rcases Nat.eq_zero_or_pos m with rfl | hcap
  ·obtain rfl:len=0:=by omega
   refine⟨[],fun x hx=>(by cases hx),⟨.slice (some ⟨w.heap.size,0,none⟩) 0 CU,?_,.sl0 (.inr ⟨_,_,_,rfl⟩)⟩,rfl⟩
   cases spot<;>rfl
  ·have h00:∃ v0,w.cell? ⟨b,off,spot⟩=some v0/\isU8 v0=false:=by
    obtain⟨cs',h2,h2'⟩:=hi 0 hcap;obtain⟨_,h3,h4⟩:=World.cells?_some h2;have h5:=h4 0 h0;have h6:cs'[0]? = some (cs'[0]'(by omega)):=List.getElem?_eq_getElem (by omega)
    rw[h6]at h5
    have e:(((⟨b,off,spot⟩:Addr).add (0 * z)).add 0)=⟨b,off,spot⟩:=by
     unfold Addr.add;simp
    rw[e]at h5;obtain⟨_,_,_,_,h7⟩:=hE n cs' _ h2' h3;refine⟨_,h5,?_⟩
    match cs',h7,h3 with
    | c :: _,h7,_=>simpa using h7
    | [],_,h3=>exact absurd h3 (by simp;omega)
   obtain⟨v0,hv0,hv8⟩:=h00;obtain⟨hsp,hblk,c,e',fz,hc,hc0⟩:=ybfk hv0
   have hnu:¬ c.toList.all isU8=true:=fun q=>by
    have:=List.all_eq_true.1 q v0 (by rw[Array.mem_toList_iff];exact Array.mem_of_getElem? hc0)
    rw[hv8]at this;cases this
   have hsp:spot=none:=hsp;subst hsp;have hblk:b<w.heap.size:=hblk;have hc:w.heap[b]? = some (.cells c e' fz):=hc
   have habs:absV w.heap.size (.slice (some ⟨b,off,none⟩) len m)=some (.slice (some ⟨b,off,none⟩) len CU):=by
    unfold absV;rw[if_neg (by simp[simple])]
    simp only;rw[if_pos ⟨hl,hm⟩,if_neg (by omega),if_pos (by omega)]
   obtain⟨xs,x1,x2⟩:=ybqj (p:=fun i x=>p x/\(f x).all one1=true /\ ∃ L:List Value,L.length=z/\RVL (memW w).b.get om0 (f x) L /\ ∀ j,j<z -> ∃ cv,w.cell? ⟨b,off+i * z+j,none⟩=some cv/\absV w.heap.size cv=L[j]?) len fun i hil=>by
    obtain⟨cs',h2,h3⟩:=hi i (by omega)
    obtain⟨_,h4,h5⟩:=World.cells?_some h2;obtain⟨x,q1,⟨L,q2,q3⟩,q4,_⟩:=hE n cs' _ h3 h4
    have hLz:L.length=z:=by
     have:=congrArg List.length q2
     simpa [h4]using this.symm
    refine⟨x,q1,q4,L,hLz,q3,fun j hj=>?_⟩;have hj':j<cs'.length:=by omega
    refine⟨cs'[j],?_,?_⟩
    ·have:=h5 j hj;rw[List.getElem?_eq_getElem hj']at this;rw[<- this];congr 1;unfold Addr.add;split<;>split<;>simp_all<;>omega
    ·have:=congrArg (fun l=>l[j]?) q2;simp only[List.getElem?_map,List.getElem?_eq_getElem hj']at this;rw[List.getElem?_eq_getElem (show j<L.length by omega)]at this ⊢
     simpa using this
   refine⟨xs,fun x hx=>?_,⟨_,habs,?_⟩,rfl⟩
   ·obtain⟨i,hi',rfl⟩:=List.getElem_of_mem hx;exact(x2 i _ (List.getElem?_eq_getElem hi')).1
   ·rw[x1];rcases Nat.eq_zero_or_pos len with rfl | hlen
    ·exact .sl0 (.inr ⟨_,_,_,rfl⟩)
    ·have hat:∀ k,k<len -> ∃ L:List Value,L.length=z/\RVL (memW w).b.get om0 (f (xs.getD k d)) L/\(f (xs.getD k d)).all one1=true /\ ∀ j,j<z -> ∃ cv,w.cell? ⟨b,off+k * z+j,none⟩=some cv/\absV w.heap.size cv=L[j]?:=fun k hk=>by
      have hk':k<xs.length:=by omega
      obtain⟨_,q2,L,q3,q4,q5⟩:=x2 k _ (List.getElem?_eq_getElem hk');rw[List.getD_eq_getElem?_getD,List.getElem?_eq_getElem hk'];exact⟨L,q3,q4,q2,q5⟩
     classical
     let L:Nat->List Value:=fun k=>if hk:k<len then Classical.choose (hat k hk)else[]
     have hL:∀ k (hk:k<len),(L k).length=z/\RVL (memW w).b.get om0 (f (xs.getD k d)) (L k)/\(f (xs.getD k d)).all one1=true /\ ∀ j,j<z -> ∃ cv,w.cell? ⟨b,off+k * z+j,none⟩=some cv/\absV w.heap.size cv=(L k)[j]?:=fun k hk=>by
      have e:L k=Classical.choose (hat k hk):=by show(if hk:k<len then _ else _)=_;rw[dif_pos hk]
      rw[e];exact Classical.choose_spec (hat k hk)
     have hmem:(memW w).b.get b=some (.cells (yxc .leaf 0 (c.toList.map (absV w.heap.size))) c.size CU 0):=by
      rw[yiq];unfold absB;rw[hc];exact if_neg hnu
     have hget:∀ j cv,w.cell? ⟨b,j,none⟩=some cv->j<c.size/\(yxc .leaf 0 (c.toList.map (absV w.heap.size))).get j=absV w.heap.size cv:=fun j cv hcv=>by
      obtain⟨_,_,c2,e2,fz2,h1,h2⟩:=ybfk hcv;have h1:w.heap[b]? = some (.cells c2 e2 fz2):=h1;rw[hc]at h1;cases h1
      have h2:c[j]? = some cv:=h2;have hj:j<c.size:=(Array.getElem?_eq_some_iff.1 h2).1;refine⟨hj,?_⟩;rw[ykf,if_pos ⟨Nat.zero_le _,by simpa using hj⟩,Nat.sub_zero,List.getElem?_map]
      have:c.toList[j]? = some cv:=by simpa using h2
      rw[this];simp
     refine .sl (L:=L) hmem (.inr rfl) ?_ (fun k hk=>(hL k hk).1) (fun k hk j hj=>?_) (fun k hk=>(hL k hk).2.1) (fun k hk=>(hL k hk).2.2.1)
     ·obtain⟨_,_,_,q⟩:=hL (len - 1) (by omega)
      obtain⟨cv,h1,_⟩:=q (z - 1) (by omega)
      have:=(hget _ _ h1).1
      have e:len * z=(len - 1) * z+z:=by
       obtain⟨y,rfl⟩:∃ y,len=y+1:=⟨len - 1,by omega⟩
       rw[Nat.succ_mul];simp
      omega
     ·obtain⟨_,_,_,q⟩:=hL k hk;obtain⟨cv,h1,h2⟩:=q j hj;rw[(hget _ _ h1).2,h2]
theorem yboe {t e:TypeId} {fuel:Nat} {v:Value} {x:DataW H × List MemPlace} (ht:P.underlying t=some (.slice e)) (he:P.underlying e=some (.int .i64)) (hC:P.cellsOf e=1)
  (h:DataW.trod enc P w base (fun _=>true) held fuel t [v]=some x):∃ xs,(∀ x ∈ xs,I64 x)/\yqc w (intsV xs) v/\isU8 v=false:=by
 refine ytr (f:=fun x=>[.i .i64 x]) (p:=I64) 0 ht hC (by decide) (fun n cs' y h1 h2=>?_) h
 obtain⟨k,rfl,_,hw⟩:=DataW.trod_int he h1;exact⟨k,wf_i64 hw,(yuu w .i64 k).cons (ybcz.nil w),rfl,rfl⟩
end
section
variable {H:Type} {enc:TypeId × Value->H} {w:World} {base:Nat} {held:Bool} {n:Nat} {v:Value} {x:DataW H × List MemPlace}
theorem ybls(h:DataW.trod enc Tryz.prog w base (fun _=>true) held n 22 [v]=some x):∃ xs,(∀ x ∈ xs,I64 x)/\yqc w (intsV xs) v/\isU8 v=false :=
 yboe Tryz.underlying22 Tryz.underlying3 (by kernel_rfl) h
theorem yhu(h:DataW.trod enc Tryz.prog w base (fun _=>true) held n 22 [v]=some x):∃ xs,(∀ x ∈ xs,I64 x)/\yqc w (intsV xs) v:=by
 obtain⟨xs,h1,h2,_⟩:=ybls h;exact⟨xs,h1,h2⟩
end
theorem ytj {P:Program} {g:FuncId} {args:List SV} {x:Bool} {us':List Value} {w:World} (h:Returns P g args (.b x)) (hg:∃ fn c,P.funcs[g]? = some fn/\fn.body=some c) (hn:ymp P) (hG:GlW w)
  {us:List Value} (ha:RVL (memW w).b.get om0 args us) (hv:VRL (phiW w) us us'):Calls P g us'.toArray w fun e w'=>e = .returned (.bool x)/\Below w.heap.size w w' :=
 ybwv h hg hn hG ha hv (fun F u hu=>by cases hu;rfl) (fun φ v' hv'=>hv'.eq_simple rfl)
end Sh
end Go.Proofs.YtiejahgklcjhkaaGreatDoor

namespace Go.Proofs.YtiejahgklcjhkaaGreatDoor
namespace Sh
open Go Ev Go.RowKit Go.ChangeShapes Go.WideShapes Go.ChangeAt Go.Joins
theorem ydgt{α:Type}{cs:Array α}(h:cs.size=6):∃ c0 c1 c2 c3 c4 c5,cs = #[c0,c1,c2,c3,c4,c5]:=by
 obtain⟨l⟩:=cs
 match l,h with
 | [c0,c1,c2,c3,c4,c5],_=>exact⟨c0,c1,c2,c3,c4,c5,rfl⟩
section
variable {H:Type} {enc:TypeId × Value->H} {P:Program} {w:World} {base:Nat} {held:Bool} {spare:Nat->Bool}
theorem six{α:Type}{xs:List α}(h:xs.length=6):∃ y0 y1 y2 y3 y4 y5,xs = [y0,y1,y2,y3,y4,y5]:=by
 match xs,h with
 | [y0,y1,y2,y3,y4,y5],_=>exact⟨y0,y1,y2,y3,y4,y5,rfl⟩
theorem ybun {r:Reach} {b0:Nat} {t:TypeId} {f0 f1 f2 f3 f4 f5:Field} {v:Value} {d:DataW H} {p:List MemPlace} (hs:P.underlying t=some (.struct #[f0,f1,f2,f3,f4,f5])) (hone:Go.Deep.oneCellFields P #[f0,f1,f2,f3,f4,f5]=true) (hC:P.cellsOf t=6)
  (hv:Value.okWide P w r b0 t v) (h:DataW.Trod enc P w base spare held t v d p) :
  ∃ (v0 v1 v2 v3 v4 v5:Value) (y0 y1 y2 y3 y4 y5:DataW H × List MemPlace) (n:Nat),v = .agg #[v0,v1,v2,v3,v4,v5] /\
   DataW.trod enc P w base spare held n f0.type [v0]=some y0/\DataW.trod enc P w base spare held n f1.type [v1]=some y1/\DataW.trod enc P w base spare held n f2.type [v2]=some y2 /\
   DataW.trod enc P w base spare held n f3.type [v3]=some y3/\DataW.trod enc P w base spare held n f4.type [v4]=some y4/\DataW.trod enc P w base spare held n f5.type [v5]=some y5:=by
 obtain⟨cs,rfl,hsz⟩:=okWide_struct hs hv;obtain⟨c0,c1,c2,c3,c4,c5,rfl⟩:=ydgt (hsz.trans hC);obtain⟨fuel,hf⟩:=h;obtain⟨xs,n,_,_,_,hlen,hf⟩:=DataW.trod_struct hs hf;obtain⟨y0,y1,y2,y3,y4,y5,rfl⟩:=six hlen;obtain⟨o0,k0⟩:=Go.Deep.hone_of hone 0 f0 rfl;obtain⟨o1,k1⟩:=Go.Deep.hone_of hone 1 f1 rfl;obtain⟨o2,k2⟩:=Go.Deep.hone_of hone 2 f2 rfl;obtain⟨o3,k3⟩:=Go.Deep.hone_of hone 3 f3 rfl;obtain⟨o4,k4⟩:=Go.Deep.hone_of hone 4 f4 rfl
 obtain⟨o5,k5⟩:=Go.Deep.hone_of hone 5 f5 rfl;have h0:=hf 0 f0 rfl;have h1:=hf 1 f1 rfl;have h2:=hf 2 f2 rfl;have h3:=hf 3 f3 rfl;have h4:=hf 4 f4 rfl;have h5:=hf 5 f5 rfl;rw[o0,k0]at h0;rw[o1,k1]at h1;rw[o2,k2]at h2;rw[o3,k3]at h3;rw[o4,k4]at h4;rw[o5,k5]at h5;exact⟨c0,c1,c2,c3,c4,c5,y0,y1,y2,y3,y4,y5,n,rfl,h0,h1,h2,h3,h4,h5⟩
end
set_option maxRecDepth 8000
section
variable {H:Type} {enc:TypeId × Value->H} {w:World} {base:Nat} {held:Bool} {n:Nat} {v:Value} {x:DataW H × List MemPlace}
theorem ybsg(w:World)(b:Bool):yqc w (.b b) (.bool b):=⟨.bool b,rfl,.b⟩
theorem ybhy(h:DataW.trod enc Tryz.prog w base (fun _=>true) held n 38 [v]=some x):∃ xs:List Nat,(∀ k,xs.getD k 0<2 ^ 32)/\yqc w (usV xs) v:=by
 obtain⟨xs,h1,h2,_⟩:=ytr (f:=fun x:Nat=>[SV.i .u32 (x:Int)]) (p:=fun x=>x<2 ^ 32) 0 (z:=1) Tryz.underlying38 (by kernel_rfl) (by decide) (fun n cs' y h1 h2=>by
  obtain⟨k,rfl,_,hw⟩:=DataW.trod_int Tryz.underlying40 h1;have hb:=bounds_u32 hw;obtain⟨m,rfl⟩:∃ m:Nat,k=m:=⟨k.toNat,by omega⟩
  exact⟨m,by omega,(yuu w .u32 m).cons (ybcz.nil w),rfl,rfl⟩) h
 refine⟨xs,fun k=>?_,h2⟩;rcases Nat.lt_or_ge k xs.length with q | q
 ·rw[List.getD_eq_getElem?_getD,List.getElem?_eq_getElem q];exact h1 _ (List.getElem_mem q)
 ·rw[List.getD_eq_getElem?_getD,List.getElem?_eq_none q];decide
theorem ybae{l:List Int}(h:∀ x ∈ l,I64 x)(k:Nat):inK .i64 (l.getD k 0):=by
 have:I64 (l.getD k 0):=by
  rcases Nat.lt_or_ge k l.length with q | q
  ·rw[List.getD_eq_getElem?_getD,List.getElem?_eq_getElem q];exact h _ (List.getElem_mem q)
  ·rw[List.getD_eq_getElem?_getD,List.getElem?_eq_none q];exact yfc (by decide)
 exact this
theorem ybrl{v:Value}{x:DataW H × List MemPlace}(h:DataW.trod enc Tryz.prog w base (fun _=>true) held n 3 [v]=some x):∃ k,inK .i64 k/\yqc w (.i .i64 k) v:=by
 obtain⟨k,e,_,hw⟩:=DataW.trod_int Tryz.underlying3 h;simp at e;subst e;exact⟨k,wf_i64 hw,yuu w .i64 k⟩
theorem ysq{v:Value}{x:DataW H × List MemPlace}(h:DataW.trod enc Tryz.prog w base (fun _=>true) held n 4 [v]=some x):∃ b,yqc w (.b b) v:=by
 obtain⟨b,e,_⟩:=DataW.trod_bool Tryz.underlying4 h;simp at e;subst e;exact⟨b,ybsg w b⟩
theorem yyk{b0:Nat}{d:DataW H}{p:List MemPlace}(hv:Value.okWide Tryz.prog w .any b0 24 v)(h:DataW.Trod enc Tryz.prog w base (fun _=>true) held 24 v d p) :
  ∃ (x:NetR) (u:Value),x.ok/\RV (memW w).b.get om0 (.ag (netC x)) u/\VR (phiW w) u v:=by
 obtain⟨v0,v1,v2,v3,v4,v5,y0,y1,y2,y3,y4,y5,n,rfl,h0,h1,h2,h3,h4,h5⟩:=ybun Tryz.underlying24 (by kernel_rfl) (by kernel_rfl) hv h
 obtain⟨k,kI,u0,a0,r0⟩:=ybrl h0;obtain⟨ls,lI,u1,a1,r1⟩:=yhu h1;obtain⟨ws,wI,u2,a2,r2⟩:=yhu h2;obtain⟨is,iI,u3,a3,r3⟩:=yhu h3;obtain⟨ap,u4,a4,r4⟩:=ysq h4;obtain⟨bk,u5,a5,r5⟩:=ysq h5;refine⟨⟨k,ls,ws,is,ap,bk⟩,.agg [u0,u1,u2,u3,u4,u5].toArray,⟨kI,ybae lI,ybae wI,ybae iI⟩,.ag (.cons r0 (.cons r1 (.cons r2 (.cons r3 (.cons r4 (.cons r5 .nil)))))),?_⟩;exact .agg (a:=[u0,u1,u2,u3,u4,u5]) (a':=[v0,v1,v2,v3,v4,v5]) (.cons (yfd a0) (.cons (yfd a1) (.cons (yfd a2) (.cons (yfd a3) (.cons (yfd a4) (.cons (yfd a5) .nil))))))
end
end Sh
end Go.Proofs.YtiejahgklcjhkaaGreatDoor

