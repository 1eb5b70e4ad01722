/- Lemmas, joined: RvR BqC Bq0 Bq1 Bq3 Bq2 Bq4 Bq5 RvG Li Bp Bk ScLd Br. -/
import Derived.Test.YtpngeppkgoaimaaGreatDoorPkBa3
import Derived.Test.YtpngeppkgoaimaaGreatDoorPkBa15
import Derived.Test.YtpngeppkgoaimaaGreatDoorPkBa12
import Derived.Test.YtpngeppkgoaimaaGreatDoorPkBa8
import Derived.Test.YtpngeppkgoaimaaGreatDoorPkBa14
set_option linter.unusedSimpArgs false
set_option linter.unusedVariables false
namespace Go.Proofs.YtpngeppkgoaimaaGreatDoor
namespace Ev
open Go

noncomputable section defs
def renA (ρ:Nat -> Nat) (a:Addr):Addr:=forceN (ρ a.block) fun b=>⟨b,a.off,a.spot⟩
def ren1 (ρ:Nat -> Nat):Value -> Value
 | .pointer (some a)=>.pointer (some (renA ρ a))
 | .slice (some a) n c=>.slice (some (renA ρ a)) n c
 | v=>v
def ren2 (ρ:Nat -> Nat):Value -> Value
 | .agg a=>.agg (a.toList.map (ren1 ρ)).toArray
 | .func g a c=>.func g (a.toList.map (ren1 ρ)).toArray (c.toList.map (ren1 ρ)).toArray
 | v=>ren1 ρ v
def renV (ρ:Nat -> Nat):Value -> Value
 | .tuple a=>.tuple (a.toList.map (ren2 ρ)).toArray
 | v=>ren2 ρ v
def yoq:Value -> Bool
 | .pointer (some a)=>a.spot.isNone
 | .slice (some a) _ _=>a.spot.isNone
 | v=>simple v
def yjw:Value -> Bool
 | .agg a=>a.toList.all yoq
 | .func (.func _) a c=>a.toList.all yoq && c.toList.all yoq
 | v=>yoq v
def ybso:Value -> Bool
 | .tuple a=>a.toList.all yjw
 | v=>yjw v
def yuo:List BlkL -> List Nat -> Nat -> Nat -> Nat
 | b :: l,t :: k,d,i=>bif Nat.beq b.i i then t else yuo l k d i
 | _,_,d,_=>d
def Fact.rho (f:Fact) (tgt:List Nat) (n0:Nat) (i:Nat):Nat :=
 bif Nat.ble f.next0 i && Nat.blt i f.next1 then Nat.add (Nat.sub i f.next0) n0 else yuo f.pre tgt (Nat.add n0 (Nat.sub f.next1 f.next0)) i
def BlkL.ren (ρ:Nat -> Nat) (b:BlkL):BlkL:=⟨forceN (ρ b.i) fun i=>i,b.e,b.z,b.l.map (ren2 ρ)⟩
def Fact.move (f:Fact) (tgt:List Nat) (n0:Nat):Fact :=
 ⟨f.g,f.args.map (ren2 (f.rho tgt n0)),n0,f.pre.map (BlkL.ren (f.rho tgt n0)),renV (f.rho tgt n0) f.v,Nat.add n0 (Nat.sub f.next1 f.next0),f.post.map (BlkL.ren (f.rho tgt n0)),n0⟩
def Fact.after (f:Fact):Mem:=⟨f.next1,blksT f.mem.b f.post,f.next0⟩
def ygc:List Nat -> Bool
 | []=>true
 | x :: l=>!(l.elem x) && ygc l
def Fact.moves (f:Fact) (tgt:List Nat) (n0:Nat):Bool :=
 Nat.ble f.next0 f.low && f.args.all yjw && ybso f.v && f.pre.all (fun b=>Nat.blt b.i f.next0 && b.l.all yjw) && f.post.all (fun b=>Nat.blt b.i f.next1 && b.l.all yjw) &&
  ygc ((f.move tgt n0).pre.map (·.i)) && (f.move tgt n0).pre.all (fun b=>Nat.blt b.i n0 && blkIs (f.move tgt n0).mem b) && (f.move tgt n0).post.all (blkIs (f.move tgt n0).after) && Nat.ble f.next0 f.next1
end defs

section
variable {φ φ2:Phi} {ρ:Nat -> Nat}

theorem yim (a:Addr):renA ρ a = ⟨ρ a.block,a.off,a.spot⟩:=by unfold renA; rw [forceN_eq]
theorem BlkL.yhb (b:BlkL):(b.ren ρ).i = ρ b.i:=by show forceN (ρ b.i) (fun i=>i) = _; rw [forceN_eq]
theorem vr1 (hφ:∀ b,φ b = φ2 (ρ b)) {v v':Value} (hf:yoq v = true):VR φ v v' ↔ VR φ2 (ren1 ρ v) v':=by
 unfold yoq at hf
 split at hf
 ·rename_i a
  obtain ⟨b,o,s⟩:=a
  have hs:s = none:=by simpa using hf
  subst hs
  show VR φ _ _ ↔ VR φ2 (.pointer (some (renA ρ ⟨b,o,none⟩))) v'
  rw [yim]
  constructor
  ·intro h
   cases h with
   | simple q=>cases q
   | ptr h=>rw [hφ] at h; exact VR.ptr h
  ·intro h
   cases h with
   | simple q=>cases q
   | ptr h=>rw [<- hφ] at h; exact VR.ptr h
 ·rename_i a n c
  obtain ⟨b,o,s⟩:=a
  have hs:s = none:=by simpa using hf
  subst hs
  show VR φ _ _ ↔ VR φ2 (.slice (some (renA ρ ⟨b,o,none⟩)) n c) v'
  rw [yim]
  constructor
  ·intro h
   cases h with
   | simple q=>cases q
   | slice h h1 h2 h3 h4=>rw [hφ] at h; exact VR.slice h h1 h2 h3 h4
  ·intro h
   cases h with
   | simple q=>cases q
   | slice h h1 h2 h3 h4=>rw [<- hφ] at h; exact VR.slice h h1 h2 h3 h4
 ·rename_i h1 h2
  have hr:ren1 ρ v = v:=by
   unfold ren1
   split
   ·rename_i a; exact absurd rfl (h1 a)
   ·rename_i a n c; exact absurd rfl (h2 a n c)
   ·rfl
  rw [hr]
  constructor
  ·intro h; rw [h.eq_simple hf]; exact VR.simple hf
  ·intro h; rw [h.eq_simple hf]; exact VR.simple hf
theorem vrl1 (hφ:∀ b,φ b = φ2 (ρ b)):∀ {l l':List Value},l.all yoq = true -> (VRL φ l l' ↔ VRL φ2 (l.map (ren1 ρ)) l')
 | [],l',_=>by
  constructor
  ·intro h; cases h; exact VRL.nil
  ·intro h; cases h; exact VRL.nil
 | v :: l,l',hf=>by
  simp only [List.all_cons,Bool.and_eq_true] at hf
  constructor
  ·intro h
   cases h with
   | cons h1 h2=>exact VRL.cons ((vr1 hφ hf.1).1 h1) ((vrl1 hφ hf.2).1 h2)
  ·intro h
   cases h with
   | cons h1 h2=>exact VRL.cons ((vr1 hφ hf.1).2 h1) ((vrl1 hφ hf.2).2 h2)
theorem vr2 (hφ:∀ b,φ b = φ2 (ρ b)) {v v':Value} (hf:yjw v = true):VR φ v v' ↔ VR φ2 (ren2 ρ v) v':=by
 unfold yjw at hf
 split at hf
 ·rename_i a
  obtain ⟨a⟩:=a
  show VR φ (.agg a.toArray) _ ↔ VR φ2 (.agg (a.map (ren1 ρ)).toArray) v'
  constructor
  ·intro h
   cases h with
   | simple q=>cases q
   | agg h=>exact VR.agg ((vrl1 hφ hf).1 h)
  ·intro h
   cases h with
   | simple q=>cases q
   | agg h=>exact VR.agg ((vrl1 hφ hf).2 h)
 ·rename_i g a c
  obtain ⟨a⟩:=a
  obtain ⟨c⟩:=c
  simp only [Bool.and_eq_true] at hf
  show VR φ (.func (.func g) a.toArray c.toArray) _ ↔ VR φ2 (.func (.func g) (a.map (ren1 ρ)).toArray (c.map (ren1 ρ)).toArray) v'
  constructor
  ·intro h
   cases h with
   | simple q=>cases q
   | func h k=>exact VR.func ((vrl1 hφ hf.1).1 h) ((vrl1 hφ hf.2).1 k)
  ·intro h
   cases h with
   | simple q=>cases q
   | func h k=>exact VR.func ((vrl1 hφ hf.1).2 h) ((vrl1 hφ hf.2).2 k)
 ·rename_i h1 h2
  have hr:ren2 ρ v = ren1 ρ v:=by
   unfold ren2
   split
   ·rename_i a; exact absurd rfl (h1 a)
   ·rename_i g a c
    cases hf
   ·rfl
  rw [hr]
  exact vr1 hφ hf
theorem vrl2 (hφ:∀ b,φ b = φ2 (ρ b)):∀ {l l':List Value},l.all yjw = true -> (VRL φ l l' ↔ VRL φ2 (l.map (ren2 ρ)) l')
 | [],l',_=>by
  constructor
  ·intro h; cases h; exact VRL.nil
  ·intro h; cases h; exact VRL.nil
 | v :: l,l',hf=>by
  simp only [List.all_cons,Bool.and_eq_true] at hf
  constructor
  ·intro h
   cases h with
   | cons h1 h2=>exact VRL.cons ((vr2 hφ hf.1).1 h1) ((vrl2 hφ hf.2).1 h2)
  ·intro h
   cases h with
   | cons h1 h2=>exact VRL.cons ((vr2 hφ hf.1).2 h1) ((vrl2 hφ hf.2).2 h2)
theorem vrV (hφ:∀ b,φ b = φ2 (ρ b)) {v v':Value} (hf:ybso v = true) (h:VR φ v v'):VR φ2 (renV ρ v) v':=by
 unfold ybso at hf
 split at hf
 ·rename_i a
  obtain ⟨a⟩:=a
  show VR φ2 (.tuple (a.map (ren2 ρ)).toArray) v'
  cases h with
  | simple q=>cases q
  | tuple h=>exact VR.tuple ((vrl2 hφ hf).1 h)
 ·rename_i h1
  have hr:renV ρ v = ren2 ρ v:=by
   unfold renV
   split
   ·rename_i a; exact absurd rfl (h1 a)
   ·rfl
  rw [hr]
  exact (vr2 hφ hf).1 h
theorem yte {α:Type} {g:α -> Nat}:∀ {l:List α},ygc (l.map g) = true -> ∀ a ∈ l,∀ b ∈ l,g a = g b -> a = b
 | [],_,a,ha,_,_,_=>by cases ha
 | x :: l,h,a,ha,b,hb,e=>by
  have h:(!(l.map g).elem (g x) && ygc (l.map g)) = true:=h
  simp only [Bool.and_eq_true,Bool.not_eq_true'] at h
  have hx:∀ y ∈ l,g y ≠ g x:=fun y hy q=>by
   have:(l.map g).elem (g x) = true:=List.elem_eq_true_of_mem (List.mem_map.2 ⟨y,hy,q⟩)
   rw [this] at h
   cases h.1
  rcases List.mem_cons.1 ha with ea | ha'
  ·rcases List.mem_cons.1 hb with eb | hb'
   ·rw [ea,eb]
   ·exact absurd (by rw [<- e,ea]) (hx b hb')
  ·rcases List.mem_cons.1 hb with eb | hb'
   ·exact absurd (by rw [e,eb]) (hx a ha')
   ·exact yte h.2 a ha' b hb' e
theorem ybfe:∀ (l:List BlkL) (k:List Nat) (d i:Nat),yuo l k d i = d \/ ∃ b ∈ l,b.i = i
 | [],_,_,_=>.inl rfl
 | _ :: _,[],_,_=>.inl rfl
 | b :: l,t :: k,d,i=>by
  unfold yuo
  rw [Bool.cond_eq_ite]
  split
  ·rename_i h; exact .inr ⟨b,List.mem_cons_self,Nat.eq_of_beq_eq_true h⟩
  ·rcases ybfe l k d i with h | ⟨c,h1,h2⟩
   ·exact .inl h
   ·exact .inr ⟨c,List.mem_cons_of_mem _ h1,h2⟩
end

theorem yys {P:Program} {f:Fact} {tgt:List Nat} {n0:Nat} (hok:yfm P f) (hc:f.moves tgt n0 = true):yfm P (f.move tgt n0):=by
 obtain ⟨m',hs,e1,e2,e3⟩:=hok
 unfold Fact.moves at hc
 simp only [Bool.and_eq_true] at hc
 obtain ⟨⟨⟨⟨⟨⟨⟨⟨c1,c2⟩,c3⟩,c4⟩,c5⟩,c6⟩,c7⟩,c8⟩,c9⟩:=hc
 have c1:=Nat.le_of_ble_eq_true c1
 have c9:=Nat.le_of_ble_eq_true c9
 obtain ⟨ρ,hρ⟩:∃ ρ,f.rho tgt n0 = ρ:=⟨_,rfl⟩
 obtain ⟨n1,hn1⟩:∃ n1,n0 + (f.next1 - f.next0) = n1:=⟨_,rfl⟩
 have hmv:f.move tgt n0 = ⟨f.g,f.args.map (ren2 ρ),n0,f.pre.map (BlkL.ren ρ),renV ρ f.v,n1,f.post.map (BlkL.ren ρ),n0⟩:=by
  unfold Fact.move
  rw [hρ,<- hn1]
  rfl
 rw [hmv] at c6 c7 c8 ⊢
 simp only at c6 c7 c8
 have hpre:∀ b ∈ f.pre,b.i < f.next0 /\ b.l.all yjw = true:=fun b hb=>by
  have:=List.all_eq_true.1 c4 b hb
  simp only [Bool.and_eq_true] at this
  exact ⟨Nat.lt_of_lt_of_le (Nat.lt_succ_self _) (Nat.le_of_ble_eq_true this.1),this.2⟩
 have hpostc:∀ b ∈ f.post,b.i < f.next1 /\ b.l.all yjw = true:=fun b hb=>by
  have:=List.all_eq_true.1 c5 b hb
  simp only [Bool.and_eq_true] at this
  exact ⟨Nat.lt_of_lt_of_le (Nat.lt_succ_self _) (Nat.le_of_ble_eq_true this.1),this.2⟩
 have hinj:∀ b ∈ f.pre,∀ c ∈ f.pre,ρ b.i = ρ c.i -> b = c:=by
  rw [List.map_map] at c6
  intro b hb c hc he
  exact yte c6 b hb c hc (by show (b.ren ρ).i = (c.ren ρ).i; rw [b.yhb,c.yhb]; exact he)
 have hp2:∀ b ∈ f.pre,ρ b.i < n0 /\ blkIs (Fact.mem ⟨f.g,f.args.map (ren2 ρ),n0,f.pre.map (BlkL.ren ρ),renV ρ f.v,n1,f.post.map (BlkL.ren ρ),n0⟩) (b.ren ρ) = true:=fun b hb=>by
  have:=List.all_eq_true.1 c7 (b.ren ρ) (List.mem_map.2 ⟨b,hb,rfl⟩)
  simp only [Bool.and_eq_true] at this
  have h1:=Nat.lt_of_lt_of_le (Nat.lt_succ_self _) (Nat.le_of_ble_eq_true this.1)
  rw [b.yhb] at h1
  exact ⟨h1,this.2⟩
 have hfresh:∀ i,f.next0 <= i -> i < f.next1 -> ρ i = i - f.next0 + n0:=fun i h1 h2=>by
  rw [<- hρ]
  unfold Fact.rho
  rw [Bool.cond_eq_ite,if_pos (by simp only [Bool.and_eq_true]; exact ⟨Nat.ble_eq_true_of_le h1,Nat.ble_eq_true_of_le h2⟩)]
  rfl
 have hold:∀ i,¬ (f.next0 <= i /\ i < f.next1) -> ρ i = n1 \/ ρ i < n0:=fun i hi=>by
  have h1:ρ i = yuo f.pre tgt n1 i:=by
   rw [<- hρ,<- hn1]
   unfold Fact.rho
   rw [Bool.cond_eq_ite,if_neg]
   ·rfl
   ·simp only [Bool.and_eq_true]
    exact fun q=>hi ⟨Nat.le_of_ble_eq_true q.1,Nat.lt_of_lt_of_le (Nat.lt_succ_self _) (Nat.le_of_ble_eq_true q.2)⟩
  rcases ybfe f.pre tgt n1 i with h | ⟨b,hb,rfl⟩
  ·exact .inl (h1.trans h)
  ·exact .inr (hp2 b hb).1
 have hle:n0 <= n1:=by omega
 let f2:Fact:=⟨f.g,f.args.map (ren2 ρ),n0,f.pre.map (BlkL.ren ρ),renV ρ f.v,n1,f.post.map (BlkL.ren ρ),n0⟩
 have hget:∀ i x,f.mem.b.get i = some x -> ∃ b ∈ f.pre,b.i = i /\ x = b.blk:=fun i x hx=>by
  rcases yhe hx with h | h
  ·exact h
  ·cases h
 have hget2:∀ i x,f2.mem.b.get i = some x -> ∃ b ∈ f.pre,ρ b.i = i /\ x = (b.ren ρ).blk:=fun i x hx=>by
  rcases yhe hx with ⟨b',hb',h1,h2⟩ | h
  ·obtain ⟨b,hb,rfl⟩:=List.mem_map.1 hb'
   rw [b.yhb] at h1
   exact ⟨b,hb,h1,h2⟩
  ·cases h
 have hpost:∀ b ∈ f.post,f.next0 <= b.i /\ b.i < f.next1 /\ ∃ c,m'.b.get b.i = some (.cells c b.l.length b.e b.z) /\ ∀ j v,j < b.l.length -> (c.get j = some v ↔ b.l[j]? = some v):=fun b hb=>by
  obtain ⟨c,k1,_,k2⟩:=yhj (e3 b hb).2
  exact ⟨Nat.le_trans c1 (e3 b hb).1,(hpostc b hb).1,c,k1,k2⟩
 have hget3:∀ i x,(blksT f2.mem.b f2.post).get i = some x -> (∃ b ∈ f.post,ρ b.i = i /\ x = (b.ren ρ).blk) \/ f2.mem.b.get i = some x:=fun i x hx=>by
  rcases yhe hx with ⟨b',hb',h1,h2⟩ | h
  ·obtain ⟨b,hb,rfl⟩:=List.mem_map.1 hb'
   rw [b.yhb] at h1
   exact .inl ⟨b,hb,h1,h2⟩
  ·exact .inr h
 have hpr:∀ b ∈ f.post,n0 <= ρ b.i /\ ρ b.i < n1:=fun b hb=>by
  obtain ⟨k1,k2,_⟩:=hpost b hb
  rw [hfresh b.i k1 k2]
  omega
 have hwf1:Wf f.mem:=fun i x hx=>by
  obtain ⟨b,hb,rfl,rfl⟩:=hget i x hx
  exact (hpre b hb).1
 refine ⟨f2.after,?_,rfl,Nat.le_refl _,fun b hb=>?_⟩
 ·intro hw
  obtain ⟨E,S⟩:=hs hwf1
  refine ⟨⟨hle,fun i x hx=>?_,fun i x hi hnf hx=>?_,fun i x hx=>?_⟩,fun φ2 M2 w args' hR hsub hv hfr=>?_⟩
  ·rcases hget3 i x hx with ⟨b,hb,rfl,rfl⟩ | h
   ·exact .inr (hpr b hb)
   ·exact .inl ⟨x,h⟩
  ·rcases hget3 i x hx with ⟨b,hb,rfl,rfl⟩ | h
   ·exact absurd (hpr b hb) hnf
   ·exact h
  ·show i < n1
   rcases hget3 i x hx with ⟨b,hb,rfl,rfl⟩ | h
   ·exact (hpr b hb).2
   ·exact Nat.lt_of_lt_of_le (hw i x h) hle
  ·have hfr:∀ i,n0 <= i -> i < n1 -> φ2 i = none:=hfr
   let φ:Phi:=fun b=>φ2 (ρ b)
   let M:AM:=fun i=>f.mem.b.get i
   have hφ:∀ b,φ b = φ2 (ρ b):=fun _=>rfl
   have hpm:∀ b ∈ f.pre,∃ c,M2 (ρ b.i) = some (.cells c b.l.length b.e b.z) /\ ∀ j v,j < b.l.length -> (c.get j = some v ↔ (b.l.map (ren2 ρ))[j]? = some v):=fun b hb=>by
    obtain ⟨c,k1,_,k2⟩:=yhj (hp2 b hb).2
    rw [b.yhb] at k1
    have el:(b.ren ρ).l.length = b.l.length:=List.length_map ..
    rw [el] at k1 k2
    exact ⟨c,hsub _ _ k1,k2⟩
   have hmapget:∀ {l:List Value} {j:Nat} {v:Value},l[j]? = some v -> (l.map (ren2 ρ))[j]? = some (ren2 ρ v):=fun h=>by rw [List.getElem?_map,h]; rfl
   have hRel:Rel φ M w:=by
    refine ⟨fun i x hx=>?_,fun i j x y li lj hne hx hy hli hlj=>?_⟩
    ·obtain ⟨b,hb,rfl,rfl⟩:=hget i x hx
     obtain ⟨c,k1,k2⟩:=hpm b hb
     obtain ⟨l,r1,r2,r3,cs,qe,qf,q0,r4,r5,r6⟩:=hR.blk _ _ k1
     refine ⟨l,r1,r2,r3,cs,qe,qf,q0,r4,r5,fun j v hj hg=>?_⟩
     have hv0:=tOf_get hg
     obtain ⟨v',s1,s2⟩:=r6 j _ hj ((k2 j _ hj).2 (hmapget hv0))
     exact ⟨v',s1,(vr2 hφ (List.all_eq_true.1 (hpre b hb).2 v (List.mem_of_getElem? hv0))).2 s2⟩
    ·obtain ⟨b,hb,rfl,rfl⟩:=hget i x hx
     obtain ⟨c,hc,rfl,rfl⟩:=hget j y hy
     obtain ⟨cb,k1,_⟩:=hpm b hb
     obtain ⟨cc,k2,_⟩:=hpm c hc
     exact hR.inj _ _ _ _ li lj (fun q=>hne (by rw [hinj b hb c hc q])) k1 k2 hli hlj
   have hSub:Sub f.mem M:=fun i x hx=>hx
   have hFr:Fresh φ f.mem.next m'.next:=fun i h1 h2=>by
    rw [e1] at h2
    have h1:f.next0 <= i:=h1
    show φ2 (ρ i) = none
    rw [hfresh i h1 h2]
    exact hfr _ (by omega) (by omega)
   refine (S φ M w args' hRel hSub ((vrl2 hφ c2).2 hv) hFr).mono ?_
   rintro e w' ⟨v',rfl,φ',M',hgd,hvr⟩
   have hout:∀ i,¬ (f.next0 <= i /\ i < f.next1) -> φ' i = φ i:=fun i hi=>hgd.out i (by rw [e1]; exact hi)
   have hframe:∀ i,¬ (f.next0 <= i /\ i < f.next1) -> (f.mem.b.get i = none \/ i < f.next0) -> M' i = M i:=fun i hi hn =>
    hgd.frame i (by rw [e1]; exact hi) (hn.imp id fun q=>by omega)
   let φ3:Phi:=fun j=>if n0 <= j /\ j < n1 then φ' (j - n0 + f.next0) else φ2 j
   let M3:AM:=fun j=>if n0 <= j /\ j < n1 then f2.after.b.get j else M2 j
   have hφ3:∀ b,φ' b = φ3 (ρ b):=fun b=>by
    by_cases hb:f.next0 <= b /\ b < f.next1
    ·have hr:=hfresh b hb.1 hb.2
     have:n0 <= ρ b /\ ρ b < n1:=by rw [hr]; omega
     show φ' b = if n0 <= ρ b /\ ρ b < n1 then φ' (ρ b - n0 + f.next0) else φ2 (ρ b)
     rw [if_pos this,hr]
     congr 1
     omega
    ·have:¬ (n0 <= ρ b /\ ρ b < n1):=by rcases hold b hb with h | h <;> omega
     show φ' b = if n0 <= ρ b /\ ρ b < n1 then φ' (ρ b - n0 + f.next0) else φ2 (ρ b)
     rw [if_neg this,hout b hb]
   have hle3:φ2.le φ3:=fun j l hj=>by
    have:¬ (n0 <= j /\ j < n1):=fun q=>by rw [hfr j q.1 q.2] at hj; cases hj
    show (if n0 <= j /\ j < n1 then φ' (j - n0 + f.next0) else φ2 j) = some l
    rw [if_neg this]; exact hj
   have hout3:∀ j,¬ (n0 <= j /\ j < n1) -> φ3 j = φ2 j:=fun j hj=>if_neg hj
   have hM3o:∀ j,¬ (n0 <= j /\ j < n1) -> M3 j = M2 j:=fun j hj=>if_neg hj
   have hM3f:∀ j,n0 <= j /\ j < n1 -> M3 j = f2.after.b.get j:=fun j hj=>if_pos hj
   have hnew:∀ j x,n0 <= j /\ j < n1 -> M3 j = some x -> ∃ b ∈ f.post,ρ b.i = j /\ x = (b.ren ρ).blk:=fun j x hj hx=>by
    rw [hM3f j hj] at hx
    rcases hget3 j x hx with h | h
    ·exact h
    ·obtain ⟨b,hb,rfl,_⟩:=hget2 j x h
     have:=(hp2 b hb).1
     omega
   have hnewR:∀ b ∈ f.post,∃ l c,φ' b.i = some l /\ M' b.i = some (.cells c b.l.length b.e b.z) /\ BR φ3 l w' (b.ren ρ).blk /\ ¬ l.blk < w.heap.size:=fun b hb=>by
    obtain ⟨k1,k2,c,k3,k4⟩:=hpost b hb
    have hM:=hgd.sub _ _ k3
    obtain ⟨l,r1,r2,r3,cs,qe,qf,q0,r4,r5,r6⟩:=hgd.rel.blk _ _ hM
    have el:(b.ren ρ).l.length = b.l.length:=List.length_map ..
    refine ⟨l,c,r1,hM,⟨r2,by rw [el]; exact r3,cs,qe,qf,q0,r4,r5,fun j v hj hg=>?_⟩,fun hlt=>?_⟩
    ·rw [el] at hj
     have hg:=tOf_get hg
     have hg':(b.l.map (ren2 ρ))[j]? = some v:=hg
     rw [List.getElem?_map] at hg'
     cases hq:b.l[j]? with
     | none=>rw [hq] at hg'; cases hg'
     | some u =>
      rw [hq] at hg'
      cases hg'
      obtain ⟨v',s1,s2⟩:=r6 j u hj ((k4 j u hj).2 hq)
      exact ⟨v',s1,(vr2 hφ3 (List.all_eq_true.1 (hpostc b hb).2 u (List.mem_of_getElem? hq))).1 s2⟩
    ·obtain ⟨i,x,l',a1,a2,a3⟩:=hgd.wg.img l.blk hlt ⟨_,_,l,hM,r1,rfl⟩
     obtain ⟨p,hp,rfl,rfl⟩:=hget i x a1
     have hpi:=(hpre p hp).1
     have hnf:¬ (f.next0 <= p.i /\ p.i < f.next1):=fun q=>by omega
     have hMp:=hframe p.i hnf (.inr hpi)
     exact hgd.rel.inj p.i b.i _ _ l' l (by omega) (hMp.trans a1) hM ((hout p.i hnf).trans a2) r1 a3
   have hoimg:∀ j x l,¬ (n0 <= j /\ j < n1) -> M2 j = some x -> φ2 j = some l -> BR φ3 l w' x:=fun j x l hj hx hl=>by
    obtain ⟨l0,q1,q2⟩:=hR.blk j x hx
    rw [hl] at q1
    cases q1
    by_cases him:Img φ M l.blk
    ·obtain ⟨i,y,l',a1,a2,a3⟩:=him
     obtain ⟨p,hp,rfl,rfl⟩:=hget i y a1
     obtain ⟨c,k1,k2⟩:=hpm p hp
     have hji:j = ρ p.i:=by
      apply Classical.byContradiction
      intro hne
      exact hR.inj _ _ _ _ l l' hne hx k1 hl a2 a3.symm
     subst hji
     rw [k1] at hx
     cases hx
     have a2':φ2 (ρ p.i) = some l':=a2
     rw [hl] at a2'
     cases a2'
     have hpi:=(hpre p hp).1
     have hnf:¬ (f.next0 <= p.i /\ p.i < f.next1):=fun q=>by omega
     have hMp:=(hframe p.i hnf (.inr hpi)).trans a1
     obtain ⟨l2,r1,r2,r3,cs,qe,qf,q0,r4,r5,r6⟩:=hgd.rel.blk _ _ hMp
     rw [hout p.i hnf,a2] at r1
     cases r1
     refine ⟨r2,r3,cs,qe,qf,q0,r4,r5,fun j v hj' hg=>?_⟩
     have hg:=(k2 j v hj').1 hg
     rw [List.getElem?_map] at hg
     cases hq:p.l[j]? with
     | none=>rw [hq] at hg; cases hg
     | some u =>
      rw [hq] at hg
      cases hg
      have hlen:p.l.length < 1000000:=by
       obtain ⟨_,_,hl6,_⟩:=yhj (hp2 p hp).2
       have el:(p.ren ρ).l.length = p.l.length:=List.length_map ..
       rwa [el] at hl6
      obtain ⟨v',s1,s2⟩:=r6 j u hj' (by rw [ycmk (by omega)]; exact hq)
      exact ⟨v',s1,(vr2 hφ3 (List.all_eq_true.1 (hpre p hp).2 u (List.mem_of_getElem? hq))).1 s2⟩
    ·exact (q2.keep (hgd.wg.keep _ q2.lt him)).mono hle3
   refine ⟨v',rfl,φ3,M3,⟨hle3,hout3,⟨fun j x hx=>?_,fun i j x y li lj hne hx hy hli hlj=>?_⟩,fun i x hx=>?_,fun i hi _=>hM3o i hi,⟨hgd.wg.os,hgd.wg.tape,hgd.wg.output,hgd.wg.size,fun k hk hn=>?_,fun k hk hq=>?_⟩⟩,vrV hφ3 c3 hvr⟩
   ·by_cases hj:n0 <= j /\ j < n1
    ·obtain ⟨b,hb,rfl,rfl⟩:=hnew j x hj hx
     obtain ⟨l,c,r1,_,r3,_⟩:=hnewR b hb
     exact ⟨l,by rw [<- hφ3]; exact r1,r3⟩
    ·rw [hM3o j hj] at hx
     obtain ⟨l,q1,_⟩:=hR.blk j x hx
     exact ⟨l,by rw [hout3 j hj]; exact q1,hoimg j x l hj hx q1⟩
   ·by_cases hi:n0 <= i /\ i < n1
    ·obtain ⟨b,hb,rfl,rfl⟩:=hnew i x hi hx
     obtain ⟨l,c,r1,r2,_,r4⟩:=hnewR b hb
     rw [<- hφ3,r1] at hli
     cases hli
     by_cases hj:n0 <= j /\ j < n1
     ·obtain ⟨b',hb',rfl,rfl⟩:=hnew j y hj hy
      obtain ⟨l',c',s1,s2,_,_⟩:=hnewR b' hb'
      rw [<- hφ3,s1] at hlj
      cases hlj
      exact hgd.rel.inj _ _ _ _ _ _ (fun q=>hne (by rw [q])) r2 s2 r1 s1
     ·rw [hM3o j hj] at hy
      rw [hout3 j hj] at hlj
      obtain ⟨l',q1,q2⟩:=hR.blk j y hy
      rw [hlj] at q1
      cases q1
      exact fun q=>r4 (by rw [q]; exact q2.lt)
    ·rw [hM3o i hi] at hx
     rw [hout3 i hi] at hli
     by_cases hj:n0 <= j /\ j < n1
     ·obtain ⟨b',hb',rfl,rfl⟩:=hnew j y hj hy
      obtain ⟨l',c',s1,s2,_,s4⟩:=hnewR b' hb'
      rw [<- hφ3,s1] at hlj
      cases hlj
      obtain ⟨l0,q1,q2⟩:=hR.blk i x hx
      rw [hli] at q1
      cases q1
      exact fun q=>s4 (by rw [<- q]; exact q2.lt)
     ·rw [hM3o j hj] at hy
      rw [hout3 j hj] at hlj
      exact hR.inj i j x y li lj hne hx hy hli hlj
   ·show M3 i = some x
    by_cases hi:n0 <= i /\ i < n1
    ·rw [hM3f i hi]; exact hx
    ·rw [hM3o i hi]
     rcases hget3 i x hx with ⟨b,hb,rfl,rfl⟩ | h
     ·exact absurd (hpr b hb) hi
     ·exact hsub i x h
   ·refine hgd.wg.keep k hk fun ⟨i,x,l,a1,a2,a3⟩=>hn ?_
    obtain ⟨b,hb,rfl,rfl⟩:=hget i x a1
    obtain ⟨c,k1,_⟩:=hpm b hb
    exact ⟨_,_,l,k1,a2,a3⟩
   ·obtain ⟨i,x,l,a1,a2,rfl⟩:=hq
    by_cases hi:n0 <= i /\ i < n1
    ·obtain ⟨b,hb,rfl,rfl⟩:=hnew i x hi a1
     obtain ⟨l',c,r1,_,_,r4⟩:=hnewR b hb
     rw [<- hφ3,r1] at a2
     cases a2
     exact absurd hk r4
    ·rw [hM3o i hi] at a1
     rw [hout3 i hi] at a2
     exact ⟨i,x,l,a1,a2,rfl⟩
 ·obtain ⟨b0,hb0,rfl⟩:=List.mem_map.1 hb
  refine ⟨?_,List.all_eq_true.1 c8 _ hb⟩
  show n0 <= (b0.ren ρ).i
  rw [b0.yhb]
  exact (hpr b0 hb0).1
end Ev
end Go.Proofs.YtpngeppkgoaimaaGreatDoor

namespace Go.Proofs.YtpngeppkgoaimaaGreatDoor
namespace Ev
open Go
set_option maxRecDepth 1000000
def Bqii (n:Int):Value:=.int .i64 n
def BqiL:List Int -> List Value
 | []=>[]
 | n :: l=>.int .i64 n :: BqiL l
def BqiA (l:List Int):Array Value:=⟨BqiL l⟩
def Bqnx (g:Nat) (t:ByteArray) (a:Int) (n:Nat) (l:List Int) (e:Int) (m:Nat):Fact:=⟨g,[.string t,.int .i64 a],n,[],.tuple #[.agg (BqiA l),.int .i64 e],m,[],n⟩
def ybp:ByteArray:=by8 [112,114,111,103,114,97,109,32,98,102,115,59,10,118,97,114,32,100,32,58,32,48,32,46,46,32,110,59,10,118,97,114,32,112,32,58,32,112,111,114,116,59,10,114,117,108,101,32,116,111,112,58,32,114,111,111,116,32,38,38,32,40,100,32,33,61,32,48,32,124,124,32,112,32,33,61,32,110,111,110,101,41,32,45,62,32,100,32,58,61,32,48,44,32,112,32,58,61,32,110,111,110,101,59,10,114,117,108,101,32,108,111,119,58,32,33,114,111,111,116,32,38,38,32,40,100,32,33,61,32,40,109,105,110,40,113,46,100,41,32,60,32,110,32,63,32,109,105,110,40,113,46,100,41,32,43,32,49,32,58,32,110,41,32,124,124,32,112,32,33,61,32,102,105,114,115,116,40,113,46,100,32,61,61,32,109,105,110,40,113,46,100,41,41,41,10,32,32,45,62,32,100,32,58,61,32,40,109,105,110,40,113,46,100,41,32,60,32,110,32,63,32,109,105,110,40,113,46,100,41,32,43,32,49,32,58,32,110,41,44,32,112,32,58,61,32,102,105,114,115,116,40,113,46,100,32,61,61,32,109,105,110,40,113,46,100,41,41,59,10]
def ybfo:List Value:=(BqiL [1,0,7,0,1,8,11,0,3,11,12,0,1,13,16,0,1,17,18,0,3,19,20,0,2,21,22,0,3,23,25,0,1,26,27,0,3,27,28,0,1,29,32,0,1,33,34,0,3,35,36,0,1,37,41,0,3,41,42,0,1,43,47,0,1,48,51,0,3,51,52,0,1,53,57,0,3,58,60,0,3,61,62,0,1,62,63,0,3,64,66,0,2,67,68,0,3,69,71,0,1,72,73,0,3,74,76,0,1,77,81,0,3,81,82,0,3,83,85,0,1,86,87,0,3,88,90,0,2,91,92,0,3,92,93,0,1,94,95,0,3,96,98,0,1,99,103,0,3,103,104,0,1,105,109,0,1,110,113,0,3,113,114,0,3,115,116,0,1,116,120,0,3,121,123,0,3,124,125,0,1,125,126,0,3,127,129,0,3,130,131,0,1,131,134,0,3,134,135,0,1,135,136,0,3,136,137,0,1,137,138,0,3,138,139,0,3,140,141,0,1,142,143,0,3,144,145,0,1,146,149,0,3,149,150,0,1,150,151,0,3,151,152,0,1,152,153,0,3,153,154,0,3,155,156,0,2,157,158,1,3,159,160,0,1,161,162,0,3,162,163,0,3,164,166,0,1,167,168,0,3,169,171,0,1,172,177,0,3,177,178,0,1,178,179,0,3,179,180,0,1,180,181,0,3,182,184,0,1,185,188,0,3,188,189,0,1,189,190,0,3,190,191,0,1,191,192,0,3,192,193,0,3,193,194,0,3,194,195,0,3,198,200,0,1,201,202,0,3,203,205,0,3,206,207,0,1,207,210,0,3,210,211,0,1,211,212,0,3,212,213,0,1,213,214,0,3,214,215,0,3,216,217,0,1,218,219,0,3,220,221,0,1,222,225,0,3,225,226,0,1,226,227,0,3,227,228,0,1,228,229,0,3,229,230,0,3,231,232,0,2,233,234,1,3,235,236,0,1,237,238,0,3,238,239,0,3,239,240,0,1,241,242,0,3,243,245,0,1,246,251,0,3,251,252,0,1,252,253,0,3,253,254,0,1,254,255,0,3,256,258,0,1,259,262,0,3,262,263,0,1,263,264,0,3,264,265,0,1,265,266,0,3,266,267,0,3,267,268,0,3,268,269,0])
def ybgh:List Value:=(BqiL [41,0,19,0,10,0,42,0,36,0,5,0,43,0,37,0,24,0,12,0,6,0,33,0,24,0,12,0,1,1,6,0,36,0,5,1,23,0,35,0,12,0,24,0,12,0])
def Bqb0:BlkL:=⟨946,223,2,(BqiL [41,0,10,0,42,0,36,0,5,0,1,0,36,0,5,1,4,0])⟩
def Bqb1:BlkL:=⟨958,223,2,(BqiL [1,0])⟩
def Bqb2:BlkL:=⟨976,223,2,(BqiL [4,0])⟩
def Bqb3:BlkL:=⟨983,201,2,[Bqii 0,.slice (some ⟨958,0,none⟩) 1 1,Bqii 1,.slice (some ⟨976,0,none⟩) 1 1]⟩
def Bqb4:BlkL:=⟨1333,223,2,(BqiL [43,0,37,0,24,0,12,0,6,0,33,0,24,0,12,0,1,1,6,0])⟩
def Bqb5:BlkL:=⟨1405,223,2,(BqiL [23,0,35,0,12,0,24,0,12,0])⟩
def Bqb6:BlkL:=⟨1412,201,2,[Bqii 0,.slice (some ⟨1333,0,none⟩) 10 CU,Bqii 1,.slice (some ⟨1405,0,none⟩) 5 CU]⟩
end Ev
end Go.Proofs.YtpngeppkgoaimaaGreatDoor

namespace Go.Proofs.YtpngeppkgoaimaaGreatDoor
namespace Ev
open Go
set_option maxRecDepth 1000000
def ydep:List Fact:=[Bqnx 125 ybp 11 14 [3,11,12,0] 0 18,Bqnx 125 ybp 19 33 [3,19,20,0] 0 37,Bqnx 125 ybp 27 59 [3,27,28,0] 0 63,Bqnx 125 ybp 35 78 [3,35,36,0] 0 82,Bqnx 125 ybp 41 91 [3,41,42,0] 0 95,Bqnx 125 ybp 51 110 [3,51,52,0] 0 114,Bqnx 125 ybp 61 130 [3,61,62,0] 0 134,Bqnx 125 ybp 81 182 [3,81,82,0] 0 186,Bqnx 125 ybp 92 215 [3,92,93,0] 0 219,Bqnx 125 ybp 103 241 [3,103,104,0] 0 245,Bqnx 125 ybp 113 260 [3,113,114,0] 0 264,Bqnx 125 ybp 115 267 [3,115,116,0] 0 271,Bqnx 125 ybp 124 287 [3,124,125,0] 0 291,Bqnx 125 ybp 130 307 [3,130,131,0] 0 311,Bqnx 125 ybp 134 320 [3,134,135,0] 0 324,Bqnx 125 ybp 136 333 [3,136,137,0] 0 337,Bqnx 125 ybp 138 346 [3,138,139,0] 0 350,Bqnx 125 ybp 140 353 [3,140,141,0] 0 357,Bqnx 125 ybp 144 366 [3,144,145,0] 0 370,Bqnx 125 ybp 149 379 [3,149,150,0] 0 383]
theorem ybuz:ybn ydep:=ybn.seq ybn.nil (by kernel_rfl)
def ydfn:List Fact:=[Bqnx 125 ybp 151 392 [3,151,152,0] 0 396,Bqnx 125 ybp 153 405 [3,153,154,0] 0 409,Bqnx 125 ybp 155 412 [3,155,156,0] 0 416,Bqnx 125 ybp 159 425 [3,159,160,0] 0 429,Bqnx 125 ybp 162 438 [3,162,163,0] 0 442,Bqnx 125 ybp 177 471 [3,177,178,0] 0 475,Bqnx 125 ybp 179 484 [3,179,180,0] 0 488,Bqnx 125 ybp 188 510 [3,188,189,0] 0 514,Bqnx 125 ybp 190 523 [3,190,191,0] 0 527,Bqnx 125 ybp 192 536 [3,192,193,0] 0 540]
theorem ybxw:ybn ydfn:=ybn.seq ybn.nil (by kernel_rfl)
def ydeg:List Fact:=[⟨132,[.pointer (some ⟨827,0,none⟩)],870,[⟨826,148,4,ybfo⟩,⟨827,123,0,[.string ybp,.slice (some ⟨826,64,none⟩) 110 CU,.slice (some ⟨865,0,none⟩) 2 CU,.string (by8 [98,102,115]),.slice (some ⟨867,0,none⟩) 2 CU,.slice none 0 0,.slice none 0 0]⟩,⟨865,9,1,[.string (by8 [100]),.string (by8 [112])]⟩,⟨867,73,6,[.string (by8 [100]),Bqii 1,Bqii 0,Bqii 0,Bqii 1,Bqii 0,.string (by8 [112]),Bqii 3,Bqii 0,Bqii 0,Bqii 0,Bqii 0]⟩],.tuple #[],988,[⟨827,123,0,[.string ybp,.slice (some ⟨826,152,none⟩) 88 CU,.slice (some ⟨865,0,none⟩) 2 CU,.string (by8 [98,102,115]),.slice (some ⟨867,0,none⟩) 2 CU,.slice (some ⟨987,0,none⟩) 1 CU,.slice (some ⟨874,0,none⟩) 1 CU]⟩,⟨865,9,1,[.string (by8 [100]),.string (by8 [112])]⟩,⟨867,73,6,[.string (by8 [100]),Bqii 1,Bqii 0,Bqii 0,Bqii 1,Bqii 0,.string (by8 [112]),Bqii 3,Bqii 0,Bqii 0,Bqii 0,Bqii 0]⟩,⟨874,9,1,[.string (by8 [116,111,112])]⟩,Bqb0,Bqb1,Bqb2,Bqb3,⟨987,164,3,[.string (by8 [116,111,112]),.slice (some ⟨946,0,none⟩) 9 CU,.slice (some ⟨983,0,none⟩) 2 CU]⟩],827⟩]
theorem ybzf:ybn ydeg:=ybn.seq ybn.nil (by kernel_rfl)
end Ev
end Go.Proofs.YtpngeppkgoaimaaGreatDoor

namespace Go.Proofs.YtpngeppkgoaimaaGreatDoor
namespace Ev
open Go
set_option maxRecDepth 1000000
def ydez:List Fact:=[⟨186,[.pointer (some ⟨827,0,none⟩),Bqii 6],1012,[⟨826,148,4,ybfo⟩,⟨827,123,0,[.string ybp,.slice (some ⟨826,176,none⟩) 82 CU,.slice (some ⟨865,0,none⟩) 2 CU,.string (by8 [98,102,115]),.slice (some ⟨867,0,none⟩) 2 CU,.slice (some ⟨987,0,none⟩) 1 CU,.slice (some ⟨994,0,none⟩) 2 CU]⟩,⟨865,9,1,[.string (by8 [100]),.string (by8 [112])]⟩,⟨867,73,6,[.string (by8 [100]),Bqii 1,Bqii 0,Bqii 0,Bqii 1,Bqii 0,.string (by8 [112]),Bqii 3,Bqii 0,Bqii 0,Bqii 0,Bqii 0]⟩,Bqb0,Bqb1,Bqb2,Bqb3,⟨987,164,3,[.string (by8 [116,111,112]),.slice (some ⟨946,0,none⟩) 9 CU,.slice (some ⟨983,0,none⟩) 2 CU]⟩,⟨994,9,1,[.string (by8 [116,111,112]),.string (by8 [108,111,119])]⟩],.slice (some ⟨1213,0,none⟩) 20 CU,1217,[⟨827,123,0,[.string ybp,.slice (some ⟨826,340,none⟩) 41 CU,.slice (some ⟨865,0,none⟩) 2 CU,.string (by8 [98,102,115]),.slice (some ⟨867,0,none⟩) 2 CU,.slice (some ⟨987,0,none⟩) 1 CU,.slice (some ⟨994,0,none⟩) 2 CU]⟩,⟨865,9,1,[.string (by8 [100]),.string (by8 [112])]⟩,⟨867,73,6,[.string (by8 [100]),Bqii 1,Bqii 0,Bqii 0,Bqii 1,Bqii 0,.string (by8 [112]),Bqii 3,Bqii 0,Bqii 0,Bqii 0,Bqii 0]⟩,Bqb0,Bqb1,Bqb2,Bqb3,⟨987,164,3,[.string (by8 [116,111,112]),.slice (some ⟨946,0,none⟩) 9 CU,.slice (some ⟨983,0,none⟩) 2 CU]⟩,⟨994,9,1,[.string (by8 [116,111,112]),.string (by8 [108,111,119])]⟩,⟨1213,223,2,(BqiL [42,0,36,0,5,0,43,0,37,0,24,0,12,0,6,0,33,0,24,0,12,0,1,1,6,0,36,0,5,1,23,0,35,0,12,0,24,0,12,0])⟩],827⟩]
theorem ybyo:ybn ydez:=ybn.seq ybn.nil (by kernel_rfl)
def ydgb:List Fact:=[⟨163,[.pointer (some ⟨827,0,none⟩)],1233,[⟨826,148,4,ybfo⟩,⟨827,123,0,[.string ybp,.slice (some ⟨826,352,none⟩) 38 CU,.slice (some ⟨865,0,none⟩) 2 CU,.string (by8 [98,102,115]),.slice (some ⟨867,0,none⟩) 2 CU,.slice (some ⟨987,0,none⟩) 1 CU,.slice (some ⟨994,0,none⟩) 2 CU]⟩,⟨865,9,1,[.string (by8 [100]),.string (by8 [112])]⟩,⟨867,73,6,[.string (by8 [100]),Bqii 1,Bqii 0,Bqii 0,Bqii 1,Bqii 0,.string (by8 [112]),Bqii 3,Bqii 0,Bqii 0,Bqii 0,Bqii 0]⟩,Bqb0,Bqb1,Bqb2,Bqb3,⟨987,164,3,[.string (by8 [116,111,112]),.slice (some ⟨946,0,none⟩) 9 CU,.slice (some ⟨983,0,none⟩) 2 CU]⟩,⟨994,9,1,[.string (by8 [116,111,112]),.string (by8 [108,111,119])]⟩],.slice (some ⟨1333,0,none⟩) 10 CU,1341,[⟨827,123,0,[.string ybp,.slice (some ⟨826,436,none⟩) 17 CU,.slice (some ⟨865,0,none⟩) 2 CU,.string (by8 [98,102,115]),.slice (some ⟨867,0,none⟩) 2 CU,.slice (some ⟨987,0,none⟩) 1 CU,.slice (some ⟨994,0,none⟩) 2 CU]⟩,⟨865,9,1,[.string (by8 [100]),.string (by8 [112])]⟩,⟨867,73,6,[.string (by8 [100]),Bqii 1,Bqii 0,Bqii 0,Bqii 1,Bqii 0,.string (by8 [112]),Bqii 3,Bqii 0,Bqii 0,Bqii 0,Bqii 0]⟩,Bqb0,Bqb1,Bqb2,Bqb3,⟨987,164,3,[.string (by8 [116,111,112]),.slice (some ⟨946,0,none⟩) 9 CU,.slice (some ⟨983,0,none⟩) 2 CU]⟩,⟨994,9,1,[.string (by8 [116,111,112]),.string (by8 [108,111,119])]⟩,Bqb4],827⟩]
theorem ybxo:ybn ydgb:=ybn.seq ybn.nil (by kernel_rfl)
end Ev
end Go.Proofs.YtpngeppkgoaimaaGreatDoor

namespace Go.Proofs.YtpngeppkgoaimaaGreatDoor
namespace Ev
open Go
set_option maxRecDepth 1000000
def ydey:List Fact:=[⟨96,[.string ybp],2,[],.tuple #[.slice (some ⟨826,0,none⟩) 126 CU,Bqii 0,Bqii 0],827,[⟨826,148,4,ybfo⟩],2⟩]
theorem ybxk:ybn ydey:=ybn.seq (ybn.append ybuz ybxw) (by kernel_rfl)
end Ev
end Go.Proofs.YtpngeppkgoaimaaGreatDoor

namespace Go.Proofs.YtpngeppkgoaimaaGreatDoor
namespace Ev
open Go
set_option maxRecDepth 1000000
def ycej:Fact:=⟨139,[.agg #[.string (by8 [108,111,119]),.slice (some ⟨1223,0,none⟩) 23 CU,.slice (some ⟨1412,0,none⟩) 2 CU],.slice (some ⟨1734,0,none⟩) 2 2],1855,[⟨1223,223,2,ybgh⟩,Bqb4,Bqb5,Bqb6,⟨1734,3,1,(BqiL [1,3])⟩],.bool true,2241,[],1855⟩
def ydfp:List Fact:=[ycej]
theorem ybfn:ybn ydfp:=ybn.seq ybn.nil (by kernel_rfl)
end Ev
end Go.Proofs.YtpngeppkgoaimaaGreatDoor

namespace Go.Proofs.YtpngeppkgoaimaaGreatDoor
namespace Ev
open Go
set_option maxRecDepth 1000000
def ydfy:List Fact:=[⟨99,[.agg #[.string (by8 [98,102,115]),.slice (some ⟨867,0,none⟩) 2 CU,.slice (some ⟨1416,0,none⟩) 2 CU]],1417,[⟨867,73,6,[.string (by8 [100]),Bqii 1,Bqii 0,Bqii 0,Bqii 1,Bqii 0,.string (by8 [112]),Bqii 3,Bqii 0,Bqii 0,Bqii 0,Bqii 0]⟩,Bqb0,Bqb1,Bqb2,Bqb3,⟨1223,223,2,ybgh⟩,Bqb4,Bqb5,Bqb6,⟨1416,164,3,[.string (by8 [116,111,112]),.slice (some ⟨946,0,none⟩) 9 CU,.slice (some ⟨983,0,none⟩) 2 CU,.string (by8 [108,111,119]),.slice (some ⟨1223,0,none⟩) 23 CU,.slice (some ⟨1412,0,none⟩) 2 CU]⟩],Bqii 0,2241,[],1417⟩]
theorem ybxh:ybn ydfy:=ybn.seq ybfn (by kernel_rfl)
def Bqm0:Fact:=ycej.move [1223,1333,1405,1412,2560] 2681
theorem ycom:yfm Tryz.prog Bqm0:=yys (ybn.at_ ybfn 0 rfl) (by kernel_rfl)
def ybnn:Fact:=⟨169,[.agg #[.string (by8 [98,102,115]),.slice (some ⟨867,0,none⟩) 2 CU,.slice (some ⟨1416,0,none⟩) 2 CU]],2242,[⟨867,73,6,[.string (by8 [100]),Bqii 1,Bqii 0,Bqii 0,Bqii 1,Bqii 0,.string (by8 [112]),Bqii 3,Bqii 0,Bqii 0,Bqii 0,Bqii 0]⟩,Bqb0,Bqb1,Bqb2,Bqb3,⟨1223,223,2,ybgh⟩,Bqb4,Bqb5,Bqb6,⟨1416,164,3,[.string (by8 [116,111,112]),.slice (some ⟨946,0,none⟩) 9 CU,.slice (some ⟨983,0,none⟩) 2 CU,.string (by8 [108,111,119]),.slice (some ⟨1223,0,none⟩) 23 CU,.slice (some ⟨1412,0,none⟩) 2 CU]⟩],.bool true,3067,[],2242⟩
def ydeh:List Fact:=[ybnn]
theorem ybyt:ybn ydeh:=ybn.seq (ybn.cons (f:=Bqm0) ycom ybn.nil) (by kernel_rfl)
end Ev
end Go.Proofs.YtpngeppkgoaimaaGreatDoor

namespace Go.Proofs.YtpngeppkgoaimaaGreatDoor
namespace Ev
open Go
set_option maxRecDepth 1000000
def yts:Fact:=⟨25,[.string ybp],0,[],.agg #[.string (by8 [98,102,115]),.slice (some ⟨867,0,none⟩) 2 CU,.slice (some ⟨1416,0,none⟩) 2 CU],2242,[⟨867,73,6,[.string (by8 [100]),Bqii 1,Bqii 0,Bqii 0,Bqii 1,Bqii 0,.string (by8 [112]),Bqii 3,Bqii 0,Bqii 0,Bqii 0,Bqii 0]⟩,Bqb0,Bqb1,Bqb2,Bqb3,⟨1223,223,2,ybgh⟩,Bqb4,Bqb5,Bqb6,⟨1416,164,3,[.string (by8 [116,111,112]),.slice (some ⟨946,0,none⟩) 9 CU,.slice (some ⟨983,0,none⟩) 2 CU,.string (by8 [108,111,119]),.slice (some ⟨1223,0,none⟩) 23 CU,.slice (some ⟨1412,0,none⟩) 2 CU]⟩],0⟩
def yder:List Fact:=[yts]
theorem ybxb:ybn yder:=ybn.seq (ybn.append ybxk (ybn.append ybzf (ybn.append ybyo (ybn.append ybxo ybxh)))) (by kernel_rfl)
end Ev
end Go.Proofs.YtpngeppkgoaimaaGreatDoor

namespace Go.Proofs.YtpngeppkgoaimaaGreatDoor
namespace Ev
open Go
theorem yoo:∀ l:List UInt8,eqBytes l l = true
 | []=>rfl
 | x :: l=>by
  show (Nat.beq x.toNat x.toNat && eqBytes l l) = true
  rw [Nat.beq_refl,yoo l]; rfl
theorem yui {ρ:Nat -> Nat} {a:Addr} (h:a.spot.isNone = true):eqAddr (renA ρ a) (renA ρ a) = true:=by
 rw [yim]
 unfold eqAddr
 simp only [Nat.beq_refl,h,Bool.and_self]
theorem ybnh {ρ:Nat -> Nat} {v:Value} (hf:yoq v = true) (h:eq1 v v = true):eq1 (ren1 ρ v) (ren1 ρ v) = true:=by
 unfold yoq at hf
 split at hf
 ·exact yui hf
 ·rename_i a n c
  show (eqAddr (renA ρ a) (renA ρ a) && Nat.beq n n && Nat.beq c c) = true
  rw [yui hf,Nat.beq_refl,Nat.beq_refl]; rfl
 ·rename_i h1 h2
  have:ren1 ρ v = v:=by
   unfold ren1
   split
   ·rename_i a; exact absurd rfl (h1 a)
   ·rename_i a n c; exact absurd rfl (h2 a n c)
   ·rfl
  rw [this]; exact h
theorem ypm {ρ:Nat -> Nat}:∀ {l:List Value},l.all yoq = true -> eqL1 l l = true -> eqL1 (l.map (ren1 ρ)) (l.map (ren1 ρ)) = true
 | [],_,_=>rfl
 | x :: l,hf,h=>by
  simp only [List.all_cons,Bool.and_eq_true] at hf
  have h:(eq1 x x && eqL1 l l) = true:=h
  rw [Bool.and_eq_true] at h
  show (eq1 (ren1 ρ x) (ren1 ρ x) && eqL1 (l.map (ren1 ρ)) (l.map (ren1 ρ))) = true
  rw [ybnh hf.1 h.1,ypm hf.2 h.2]; rfl
theorem ybuw {v:Value} (h1:∀ a,v = .agg a -> False) (h2:∀ g a c,v = .func (.func g) a c -> False):eq2 v v = eq1 v v:=by
 cases v with
 | agg a=>exact (h1 a rfl).elim
 | func f a c=>cases f with
  | func g=>exact (h2 g a c rfl).elim
  | _=>rfl
 | _=>rfl
theorem ybla {ρ:Nat -> Nat} {v:Value} (h1:∀ a,v = .agg a -> False) (h2:∀ g a c,v = .func (.func g) a c -> False) (hf:yoq v = true):ren2 ρ v = ren1 ρ v:=by
 cases v with
 | agg a=>exact (h1 a rfl).elim
 | func f a c=>cases f with
  | func g=>exact (h2 g a c rfl).elim
  | _=>cases hf
 | _=>rfl
theorem yto {ρ:Nat -> Nat} {v:Value} (hf:yoq v = true):(∀ a,ren1 ρ v = .agg a -> False) /\ ∀ g a c,ren1 ρ v = .func (.func g) a c -> False:=by
 cases v with
 | agg a=>cases hf
 | func f a c=>cases hf
 | pointer p=>cases p <;> exact ⟨fun _ h=>(by cases h),fun _ _ _ h=>(by cases h)⟩
 | slice p n c=>cases p <;> exact ⟨fun _ h=>(by cases h),fun _ _ _ h=>(by cases h)⟩
 | _=>exact ⟨fun _ h=>(by cases h),fun _ _ _ h=>(by cases h)⟩
theorem ybqx {ρ:Nat -> Nat} {v:Value} (hf:yjw v = true) (h:eq2 v v = true):eq2 (ren2 ρ v) (ren2 ρ v) = true:=by
 unfold yjw at hf
 split at hf
 ·rename_i a
  have h:eqL1 a.toList a.toList = true:=h
  show eqL1 (a.toList.map (ren1 ρ)).toArray.toList (a.toList.map (ren1 ρ)).toArray.toList = true
  exact ypm hf h
 ·rename_i g a c
  rw [Bool.and_eq_true] at hf
  have h:(Nat.beq g g && eqL1 a.toList a.toList && eqL1 c.toList c.toList) = true:=h
  simp only [Bool.and_eq_true] at h
  show (Nat.beq g g && eqL1 (a.toList.map (ren1 ρ)).toArray.toList (a.toList.map (ren1 ρ)).toArray.toList && eqL1 (c.toList.map (ren1 ρ)).toArray.toList (c.toList.map (ren1 ρ)).toArray.toList) = true
  rw [Nat.beq_refl,ypm hf.1 h.1.2,ypm hf.2 h.2]; rfl
 ·rename_i h1 h2
  rw [ybuw h1 h2] at h
  rw [ybla h1 h2 hf,ybuw (yto hf).1 (yto hf).2]
  exact ybnh hf h
def reflB (b:BlkL):Bool:=b.l.all (fun v=>eq2 v v && yjw v) && Nat.blt b.l.length 1000000
theorem yrx {ρ:Nat -> Nat} {b:BlkL} (h:reflB b = true):∀ v ∈ (b.ren ρ).l,eq2 v v = true:=by
 unfold reflB at h
 rw [Bool.and_eq_true] at h
 intro v hv
 obtain ⟨x,hx,rfl⟩:=List.mem_map.1 hv
 have:=List.all_eq_true.1 h.1 x hx
 rw [Bool.and_eq_true] at this
 exact ybqx this.2 this.1
theorem ykt {l:List Value} (h:∀ v ∈ l,eq2 v v = true):∀ (k:List Value) (n:Nat),l.drop n = k -> cellsAre (tOf l) n k = true
 | [],_,_=>rfl
 | v :: k,n,e=>by
  have hn:n < l.length:=by
   rcases Nat.lt_or_ge n l.length with q | q
   ·exact q
   ·rw [List.drop_eq_nil_of_le q] at e; cases e
  rw [List.drop_eq_getElem_cons hn] at e
  injection e with e1 e2
  unfold cellsAre
  rw [ycq,List.getElem?_eq_getElem hn,e1]
  simp only
  rw [h v (by rw [<- e1]; exact List.getElem_mem _),ykt h k (n + 1) e2]
  rfl
theorem ymf {m:Mem} {b:BlkL} (hg:m.b.get b.i = some b.blk) (h:∀ v ∈ b.l,eq2 v v = true) (hl:Nat.blt b.l.length 1000000 = true):blkIs m b = true:=by
 unfold blkIs
 rw [hg]
 show (Nat.beq b.l.length b.l.length && Nat.beq b.e b.e && Nat.beq b.z b.z && Nat.blt b.l.length 1000000 && cellsAre (tOf b.l) 0 b.l) = true
 rw [Nat.beq_refl,Nat.beq_refl,Nat.beq_refl,hl,ykt h b.l 0 (List.drop_zero ..)]
 rfl
theorem yrk:∀ {l:List BlkL} {t:T ABlk} {i:Nat},(∀ b ∈ l,b.i ≠ i) -> (blksT t l).get i = t.get i
 | [],_,_,_=>rfl
 | b :: l,t,i,h=>by
  unfold blksT
  rw [T.strict_eq,yrk fun c hc=>h c (List.mem_cons_of_mem _ hc),T.set_at,if_neg (fun e=>h b List.mem_cons_self e.symm)]
theorem ypn:∀ {l:List BlkL} {t:T ABlk},ygc (l.map (·.i)) = true -> ∀ b ∈ l,(blksT t l).get b.i = some b.blk
 | [],_,_,b,hb=>by cases hb
 | c :: l,t,h,b,hb=>by
  have h:(!(l.map (·.i)).elem c.i && ygc (l.map (·.i))) = true:=h
  rw [Bool.and_eq_true,Bool.not_eq_true'] at h
  unfold blksT
  rw [T.strict_eq]
  rcases List.mem_cons.1 hb with e | hb
  ·subst e
   rw [yrk fun d hd e=>?_,T.set_at,if_pos rfl]
   have:(l.map (·.i)).elem b.i = true:=List.elem_eq_true_of_mem (List.mem_map.2 ⟨d,hd,e⟩)
   rw [this] at h
   cases h.1
  ·exact ypn h.2 b hb
theorem ykw:∀ {l:List Nat},l.Nodup -> ygc l = true
 | [],_=>rfl
 | x :: l,h=>by
  rw [List.nodup_cons] at h
  show (!(l.elem x) && ygc l) = true
  have:l.elem x = false:=by
   cases hq:l.elem x with
   | false=>rfl
   | true=>exact absurd (by simpa using hq) h.1
  rw [this,ykw h.2]
  rfl
theorem yxc:∀ {l:List Nat},ygc l = true -> l.Nodup
 | [],_=>List.nodup_nil
 | x :: l,h=>by
  have h:(!(l.elem x) && ygc l) = true:=h
  rw [Bool.and_eq_true,Bool.not_eq_true'] at h
  rw [List.nodup_cons]
  refine ⟨fun hm=>?_,yxc h.2⟩
  have:l.elem x = true:=by simpa using hm
  rw [this] at h
  cases h.1
theorem ybgz {d:Nat}:∀ {l:List BlkL} {k:List Nat},(l.map (·.i)).Nodup -> l.length = k.length -> l.map (fun b=>yuo l k d b.i) = k
 | [],[],_,_=>rfl
 | b :: l,t :: k,hn,hl=>by
  rw [List.map_cons,List.nodup_cons] at hn
  have ih:=ybgz (d:=d) hn.2 (by simpa using hl)
  rw [List.map_cons]
  have e1:yuo (b :: l) (t :: k) d b.i = t:=by unfold yuo; rw [Nat.beq_refl]; rfl
  rw [e1]
  congr 1
  refine Eq.trans (List.map_congr_left fun c hc=>?_) ih
  show (bif Nat.beq b.i c.i then t else yuo l k d c.i) = _
  have:Nat.beq b.i c.i = false:=by
   cases hq:Nat.beq b.i c.i with
   | false=>rfl
   | true=>exact absurd (List.mem_map.2 ⟨c,hc,(Nat.eq_of_beq_eq_true hq).symm⟩) hn.1
  rw [this]
  rfl
 | [],_ :: _,_,h=>by cases h
 | _ :: _,[],_,h=>by cases h
def Fact.still (f:Fact):Bool:=Nat.ble f.next0 f.low && f.args.all yjw && ybso f.v && f.pre.all (fun b=>Nat.blt b.i f.next0 && reflB b) && ygc (f.pre.map (·.i)) && f.post.all (fun b=>Nat.ble f.next0 b.i && Nat.blt b.i f.next1 && reflB b) && ygc (f.post.map (·.i)) && Nat.ble f.next0 f.next1
theorem ycmh {a b:Nat} (h:Nat.blt a b = true):a < b:=Nat.lt_of_lt_of_le (Nat.lt_succ_self _) (Nat.le_of_ble_eq_true h)
theorem ybfd {a b:Nat} (h:a < b):Nat.blt a b = true:=Nat.ble_eq_true_of_le h
theorem ykf {f:Fact} (h:f.still = true):f.next0 <= f.low /\ (f.args.all yjw = true /\ ybso f.v = true) /\ (∀ b ∈ f.pre,b.i < f.next0 /\ reflB b = true) /\ (f.pre.map (·.i)).Nodup /\ (∀ b ∈ f.post,f.next0 <= b.i /\ b.i < f.next1 /\ reflB b = true) /\ (f.post.map (·.i)).Nodup /\ f.next0 <= f.next1:=by
 unfold Fact.still at h
 simp only [Bool.and_eq_true] at h
 obtain ⟨⟨⟨⟨⟨⟨⟨h1,h2⟩,h3⟩,h4⟩,h5⟩,h6⟩,h7⟩,h8⟩:=h
 refine ⟨Nat.le_of_ble_eq_true h1,⟨h2,h3⟩,fun b hb=>?_,yxc h5,fun b hb=>?_,yxc h7,Nat.le_of_ble_eq_true h8⟩
 ·have:=List.all_eq_true.1 h4 b hb
  rw [Bool.and_eq_true] at this
  exact ⟨ycmh this.1,this.2⟩
 ·have:=List.all_eq_true.1 h6 b hb
  simp only [Bool.and_eq_true] at this
  exact ⟨Nat.le_of_ble_eq_true this.1.1,ycmh this.1.2,this.2⟩
theorem ybnj {f:Fact} {tgt:List Nat} {n0:Nat} (hp:∀ b ∈ f.pre,b.i < f.next0 /\ reflB b = true) (hn:(f.pre.map (·.i)).Nodup) (hl:f.pre.length = tgt.length):f.pre.map (fun b=>f.rho tgt n0 b.i) = tgt:=by
 refine Eq.trans (List.map_congr_left fun b hb=>?_) (ybgz (d:=Nat.add n0 (Nat.sub f.next1 f.next0)) hn hl)
 unfold Fact.rho
 have h1:=(hp b hb).1
 have:(Nat.ble f.next0 b.i && Nat.blt b.i f.next1) = false:=by
  rw [Bool.and_eq_false_iff]
  left
  cases hq:Nat.ble f.next0 b.i with
  | false=>rfl
  | true=>have:=Nat.le_of_ble_eq_true hq; omega
 rw [this]
 rfl
theorem ybfr {f:Fact} {tgt:List Nat} {n0 i:Nat} (h1:f.next0 <= i) (h2:i < f.next1):f.rho tgt n0 i = i - f.next0 + n0:=by
 unfold Fact.rho
 rw [Bool.cond_eq_ite,if_pos (by rw [Nat.ble_eq_true_of_le h1,ybfd h2]; rfl)]
 rfl
theorem ytv {P:Program} {f:Fact} {tgt:List Nat} {n0:Nat} (hok:yfm P f) (hs:f.still = true) (hl:f.pre.length = tgt.length) (hn:tgt.Nodup) (hlt:∀ t ∈ tgt,t < n0):yfm P (f.move tgt n0):=by
 refine yys hok ?_
 obtain ⟨s1,⟨s2,s3⟩,s4,s5,s6,s7,s8⟩:=ykf hs
 have hpi:(f.move tgt n0).pre.map (·.i) = tgt:=by
  show (f.pre.map (BlkL.ren (f.rho tgt n0))).map (·.i) = tgt
  rw [List.map_map]
  exact Eq.trans (List.map_congr_left fun b hb=>b.yhb) (ybnj (n0:=n0) s4 s5 hl)
 have hqi:ygc ((f.move tgt n0).post.map (·.i)) = true:=by
  refine ykw ?_
  show ((f.post.map (BlkL.ren (f.rho tgt n0))).map (·.i)).Nodup
  have e:(f.post.map (BlkL.ren (f.rho tgt n0))).map (·.i) = (f.post.map (·.i)).map (fun i=>i - f.next0 + n0):=by
   rw [List.map_map,List.map_map]
   refine List.map_congr_left fun b hb=>?_
   show (b.ren (f.rho tgt n0)).i = b.i - f.next0 + n0
   rw [b.yhb,ybfr (s6 b hb).1 (s6 b hb).2.1]
  rw [e]
  unfold List.Nodup at s7 ⊢
  rw [List.pairwise_map]
  refine List.Pairwise.imp_of_mem (fun {x y} hx hy h=>?_) s7
  obtain ⟨bx,hbx,rfl⟩:=List.mem_map.1 hx
  obtain ⟨by_,hby,rfl⟩:=List.mem_map.1 hy
  have:=(s6 bx hbx).1
  have:=(s6 by_ hby).1
  omega
 have hpre:ygc ((f.move tgt n0).pre.map (·.i)) = true:=by rw [hpi]; exact ykw hn
 unfold Fact.moves
 simp only [Bool.and_eq_true]
 refine ⟨⟨⟨⟨⟨⟨⟨⟨Nat.ble_eq_true_of_le s1,s2⟩,s3⟩,?_⟩,?_⟩,hpre⟩,?_⟩,?_⟩,Nat.ble_eq_true_of_le s8⟩
 ·refine List.all_eq_true.2 fun b hb=>?_
  have:=(s4 b hb).2
  unfold reflB at this
  rw [Bool.and_eq_true] at this
  rw [ybfd (s4 b hb).1,Bool.true_and]
  exact List.all_eq_true.2 fun v hv=>by have:=List.all_eq_true.1 this.1 v hv; rw [Bool.and_eq_true] at this; exact this.2
 ·refine List.all_eq_true.2 fun b hb=>?_
  have:=(s6 b hb).2.2
  unfold reflB at this
  rw [Bool.and_eq_true] at this
  rw [ybfd (s6 b hb).2.1,Bool.true_and]
  exact List.all_eq_true.2 fun v hv=>by have:=List.all_eq_true.1 this.1 v hv; rw [Bool.and_eq_true] at this; exact this.2
 ·refine List.all_eq_true.2 fun b' hb'=>?_
  obtain ⟨b,hb,rfl⟩:=List.mem_map.1 hb'
  have h2:=(s4 b hb).2
  have h3:(b.ren (f.rho tgt n0)).i ∈ (f.move tgt n0).pre.map (·.i):=List.mem_map.2 ⟨_,hb',rfl⟩
  rw [hpi] at h3
  rw [ybfd (hlt _ h3),Bool.true_and]
  refine ymf (ypn hpre _ hb') (yrx h2) ?_
  show Nat.blt (b.l.map _).length 1000000 = true
  rw [List.length_map]
  unfold reflB at h2
  rw [Bool.and_eq_true] at h2
  exact h2.2
 ·refine List.all_eq_true.2 fun b' hb'=>?_
  obtain ⟨b,hb,rfl⟩:=List.mem_map.1 hb'
  have h2:=(s6 b hb).2.2
  refine ymf (ypn hqi _ hb') (yrx h2) ?_
  show Nat.blt (b.l.map _).length 1000000 = true
  rw [List.length_map]
  unfold reflB at h2
  rw [Bool.and_eq_true] at h2
  exact h2.2
end Ev
end Go.Proofs.YtpngeppkgoaimaaGreatDoor

namespace Go.Proofs.YtpngeppkgoaimaaGreatDoor
namespace Sh
open Go Ev

def Lies (B:List BlkL) (v:Value) (F:AM) (u:Value):Prop :=
 ∃ ρ:Nat -> Nat,(∀ b ∈ B,∀ c ∈ B,ρ b.i = ρ c.i -> b.i = c.i) /\ (∀ b ∈ B,F (ρ b.i) = some (b.ren ρ).blk) /\ u = ren1 ρ v
theorem Lies.mono {B:List BlkL} {v:Value} (F G:AM) (u:Value) (h:Le F G) (k:Lies B v F u):Lies B v G u:=by
 obtain ⟨ρ,h1,h2,h3⟩:=k
 exact ⟨ρ,h1,fun b hb=>h _ _ (h2 b hb),h3⟩

def ydfc (B:List BlkL) (j:Nat):Option BlkL:=B.find? fun b=>Nat.beq b.i j
def ybyq (p:Nat -> Bool):Nat -> Bool
 | 0=>true
 | n + 1=>p n && ybyq p n
theorem ybfj {p:Nat -> Bool}:∀ {n:Nat},ybyq p n = true -> ∀ k,k < n -> p k = true
 | 0,_,k,h=>absurd h (Nat.not_lt_zero k)
 | n + 1,h,k,hk=>by
  have h:(p n && ybyq p n) = true:=h
  rw [Bool.and_eq_true] at h
  by_cases q:k = n
  ·rw [q]; exact h.1
  ·exact ybfj h.2 k (by omega)
def ybdc (B:List BlkL) (z n:Nat) (row:Nat -> List Value -> Bool):Value -> Bool
 | .slice (some a) m _=>a.spot.isNone && Nat.beq m n && (match ydfc B a.block with
  | some b=>Nat.beq b.z z && Nat.ble (a.off + n * z) b.l.length && ybyq (fun k=>row k ((b.l.drop (a.off + k * z)).take z)) n
  | none=>false)
 | .slice none 0 0=>Nat.beq n 0
 | _=>false
theorem ypj {B:List BlkL} {F:AM} {ρ:Nat -> Nat} {z n:Nat} {row:Nat -> List Value -> Bool} {v:Value} {g:Nat -> List SV} (hF:∀ b ∈ B,F (ρ b.i) = some (b.ren ρ).blk) (h:ybdc B z n row v = true)
  (hr:∀ k L,k < n -> row k L = true -> L.length = z /\ RVL F om0 (g k) (L.map (ren2 ρ)) /\ (g k).all one1 = true):RV F om0 (.sl z n g) (ren1 ρ v):=by
 unfold ybdc at h
 split at h
 ·rename_i a m c
  simp only [Bool.and_eq_true] at h
  obtain ⟨⟨h1,h2⟩,h3⟩:=h
  split at h3
  ·rename_i b hb
   simp only [Bool.and_eq_true] at h3
   obtain ⟨⟨h3,h4⟩,h5⟩:=h3
   have hm:m = n:=Nat.eq_of_beq_eq_true h2
   have hz:=Nat.eq_of_beq_eq_true h3
   have h4:=Nat.le_of_ble_eq_true h4
   have hmem:=List.mem_of_find?_eq_some hb
   have hi:b.i = a.block:=Nat.eq_of_beq_eq_true (List.find?_some (p:=fun b:BlkL=>Nat.beq b.i a.block) hb)
   have h6:=hF b hmem
   rw [hi] at h6
   show RV F om0 _ (.slice (some (renA ρ a)) m c)
   rw [yim]
   subst hm
   obtain ⟨A,o,sp⟩:=a
   have hsp:sp = none:=by simpa using h1
   subst hsp
   have h6:F (ρ A) = some (.cells (tOf (b.l.map (ren2 ρ))) (b.l.map (ren2 ρ)).length b.e b.z):=h6
   have hrow:∀ k,k < m -> _:=fun k hk=>hr k _ hk (ybfj h5 k hk)
   refine .sl (L:=fun k=>((b.l.drop (o + k * z)).take z).map (ren2 ρ)) h6 (.inl hz) (by rw [List.length_map]; exact h4) ?_ ?_ (fun k hk=>(hrow k hk).2.1) (fun k hk=>(hrow k hk).2.2)
   ·intro k hk
    rw [List.length_map]
    exact (hrow k hk).1
   ·intro k hk j hj
    rw [ycq]
    simp only [List.getElem?_map,List.getElem?_take,List.getElem?_drop,hj,if_true]
  ·cases h3
 ·have h:Nat.beq n 0 = true:=h
  have h0:=Nat.eq_of_beq_eq_true h
  subst h0
  exact .sl0 (.inl rfl)
 ·cases h
def isI (v:Value) (n:Int):Bool:=match v with
 | .int .i64 m=>eqInt m n
 | _=>false
def isS (v:Value) (s:ByteArray):Bool:=match v with
 | .string t=>eqBytes t.data.toList s.data.toList
 | _=>false
theorem yob {F:AM} {ρ:Nat -> Nat} {v:Value} {n:Int} (h:isI v n = true):RV F om0 (.i .i64 n) (ren2 ρ v):=by
 unfold isI at h
 split at h
 ·rw [ypi h]; exact .i
 ·cases h
theorem ycds {F:AM} {ρ:Nat -> Nat} {v:Value} {s:ByteArray} (h:isS v s = true):RV F om0 (.a (.string s)) (ren2 ρ v):=by
 unfold isS at h
 split at h
 ·rename_i t
  have e:=ymn h
  have:t = s:=by
   cases t; cases s
   congr 1
   exact Array.toList_inj.1 e
  rw [this]; exact .a rfl
 ·cases h
def ycvy (ls:List (Int × Int)) (k:Nat):List Value -> Bool
 | [x,y]=>isI x (ls.getD k (0,0)).1 && isI y (ls.getD k (0,0)).2
 | _=>false
def ycek (l:List VarR) (k:Nat):List Value -> Bool
 | [s,a,b,c,d,e]=>isS s (l.getD k default).name && isI a (l.getD k default).kind && isI b (l.getD k default).lo && isI c (l.getD k default).hi && isI d (l.getD k default).perNode && isI e (l.getD k default).perID
 | _=>false
def ywu (B:List BlkL) (ls:List (Int × Int)) (v:Value):Bool:=ybdc B 2 ls.length (ycvy ls) v
def isSl:Value -> Bool
 | .slice _ _ _=>true
 | _=>false
def ybuf (B:List BlkL) (l:List SetR) (k:Nat):List Value -> Bool
 | [a,v]=>isI a (l.getD k default).var && isSl v && ywu B (l.getD k default).val v
 | _=>false
def ybot (B:List BlkL) (l:List RuleR) (k:Nat):List Value -> Bool
 | [s,v,w]=>isS s (l.getD k default).name && isSl v && ywu B (l.getD k default).guard v && isSl w && ybdc B 2 (l.getD k default).sets.length (ybuf B (l.getD k default).sets) w
 | _=>false
def ybrn (B:List BlkL) (v:Value) (l:List VarR):Bool:=ybdc B 6 l.length (ycek l) v
def ybgs (B:List BlkL) (v:Value) (l:List RuleR):Bool:=ybdc B 3 l.length (ybot B l) v
section
variable {B:List BlkL} {F:AM} {ρ:Nat -> Nat}
theorem ybct {v:Value} (h:isSl v = true):ren2 ρ v = ren1 ρ v:=by
 unfold isSl at h
 split at h
 ·rfl
 ·cases h
theorem yrv (hF:∀ b ∈ B,F (ρ b.i) = some (b.ren ρ).blk) {ls:List (Int × Int)} {v:Value} (h:ywu B ls v = true):RV F om0 (ybb ls) (ren1 ρ v):=by
 refine ypj hF h fun k L hk hq=>?_
 unfold ycvy at hq
 split at hq
 ·simp only [Bool.and_eq_true] at hq
  exact ⟨rfl,.cons (yob hq.1) (.cons (yob hq.2) .nil),rfl⟩
 ·cases hq
theorem ybkq (hF:∀ b ∈ B,F (ρ b.i) = some (b.ren ρ).blk) {l:List VarR} {v:Value} (h:ybrn B v l = true):RV F om0 (ydb l) (ren1 ρ v):=by
 refine ypj hF h fun k L hk hq=>?_
 unfold ycek at hq
 split at hq
 ·simp only [Bool.and_eq_true] at hq
  obtain ⟨⟨⟨⟨⟨h1,h2⟩,h3⟩,h4⟩,h5⟩,h6⟩:=hq
  exact ⟨rfl,.cons (ycds h1) (.cons (yob h2) (.cons (yob h3) (.cons (yob h4) (.cons (yob h5) (.cons (yob h6) .nil))))),rfl⟩
 ·cases hq
theorem ybjg (hF:∀ b ∈ B,F (ρ b.i) = some (b.ren ρ).blk) {l:List SetR} {v:Value} (h:ybdc B 2 l.length (ybuf B l) v = true):RV F om0 (yhk l) (ren1 ρ v):=by
 refine ypj hF h fun k L hk hq=>?_
 unfold ybuf at hq
 split at hq
 ·simp only [Bool.and_eq_true] at hq
  obtain ⟨⟨h1,h2⟩,h3⟩:=hq
  refine ⟨rfl,.cons (yob h1) (.cons ?_ .nil),rfl⟩
  rw [ybct h2]
  exact yrv hF h3
 ·cases hq
theorem yben (hF:∀ b ∈ B,F (ρ b.i) = some (b.ren ρ).blk) {l:List RuleR} {v:Value} (h:ybgs B v l = true):RV F om0 (ycj l) (ren1 ρ v):=by
 refine ypj hF h fun k L hk hq=>?_
 unfold ybot at hq
 split at hq
 ·simp only [Bool.and_eq_true] at hq
  obtain ⟨⟨⟨⟨h1,h2⟩,h3⟩,h4⟩,h5⟩:=hq
  refine ⟨rfl,.cons (ycds h1) (.cons ?_ (.cons ?_ .nil)),rfl⟩
  ·rw [ybct h2]
   exact yrv hF h3
  ·rw [ybct h4]
   exact ybjg hF h5
 ·cases hq
end
structure LaidP (fp:Fact) (t:ByteArray) (p:ProgR) (vv vr:Value) (Bv Br:List BlkL):Prop where
 args:fp.args = [.string t]
 pre:fp.pre = []
 v:fp.v = .agg #[.string p.name,vv,vr]
 still:fp.still = true
 bv:∀ b ∈ Bv,b ∈ fp.post
 br:∀ b ∈ Br,b ∈ fp.post
 vars:ybrn Bv vv p.vars = true
 rules:ybgs Br vr p.rules = true
theorem ybvn {P:Program} {fp:Fact} {t:ByteArray} {p:ProgR} {vv vr:Value} {Bv Br:List BlkL} (hok:yfm P fp) (h:LaidP fp t p vv vr Bv Br):Returns P fp.g [.a (.string t)] (.ag (ydh (Lies Bv vv) (Lies Br vr) p)):=by
 intro G m us hwf hle hus
 have hu:us = [.string t]:=by
  cases hus with
  | cons a b=>cases a with | a _=>cases b with | nil=>rfl
 subst hu
 obtain ⟨s1,⟨s2,s3⟩,s4,s5,s6,s7,s8⟩:=ykf h.still
 have hmv:=ytv (tgt:=[]) (n0:=m.next) hok h.still (by rw [h.pre]; rfl) List.nodup_nil (fun t ht=>by cases ht)
 obtain ⟨ρ,hρ⟩:∃ ρ,fp.rho [] m.next = ρ:=⟨_,rfl⟩
 have hpost:(fp.move [] m.next).post = fp.post.map (BlkL.ren ρ):=by rw [<- hρ]; rfl
 have hv:(fp.move [] m.next).v = .agg #[.string p.name,ren1 ρ vv,ren1 ρ vr]:=by
  show renV (fp.rho [] m.next) fp.v = _
  rw [hρ,h.v]; rfl
 have hpre:(fp.move [] m.next).pre = []:=by
  show fp.pre.map _ = []
  rw [h.pre]; rfl
 have hfit:(fp.move [] m.next).fits fp.g [.string t] m = true:=by
  unfold Fact.fits
  rw [hpre]
  show (Nat.beq fp.g fp.g && Nat.beq m.next m.next && eqL2 (fp.args.map (ren2 _)) [.string t] && true) = true
  rw [Nat.beq_refl,Nat.beq_refl,h.args]
  show (true && true && (eqBytes t.data.toList t.data.toList && true) && true) = true
  rw [yoo]; rfl
 have hri:∀ b ∈ fp.post,ρ b.i = b.i - fp.next0 + m.next:=fun b hb=>by rw [<- hρ]; exact ybfr (s6 b hb).1 (s6 b hb).2.1
 have hnd:ygc ((fp.post.map (BlkL.ren ρ)).map (·.i)) = true:=by
  refine ykw ?_
  have e:(fp.post.map (BlkL.ren ρ)).map (·.i) = (fp.post.map (·.i)).map (fun i=>i - fp.next0 + m.next):=by
   rw [List.map_map,List.map_map]
   refine List.map_congr_left fun b hb=>?_
   show (b.ren ρ).i = _
   rw [b.yhb,hri b hb]; rfl
  rw [e]
  unfold List.Nodup at s7 ⊢
  rw [List.pairwise_map]
  refine List.Pairwise.imp_of_mem (fun {x y} hx hy h=>?_) s7
  obtain ⟨bx,hbx,rfl⟩:=List.mem_map.1 hx
  obtain ⟨by_,hby,rfl⟩:=List.mem_map.1 hy
  have:=(s6 bx hbx).1
  have:=(s6 by_ hby).1
  omega
 have hs:=yuw hmv hfit
 unfold Fact.out at hs
 rw [hv,hpre,hpost] at hs
 refine ⟨_,_,_,hs,Nat.le_refl _,?_,rfl,?_⟩
 ·intro i b hb
  show (blksT m.b (fp.post.map (BlkL.ren ρ))).get i = some b
  rw [yrk fun c hc=>?_]
  ·exact hb
  ·obtain ⟨c,hc',rfl⟩:=List.mem_map.1 hc
   have:=hwf i b hb
   rw [c.yhb,hri c hc']
   omega
 ·have hF:∀ b ∈ fp.post,frsh m.next ⟨(fp.move [] m.next).next1,blksT m.b (fp.post.map (BlkL.ren ρ)),(fp.move [] m.next).low⟩ G (ρ b.i) = some (b.ren ρ).blk:=fun b hb=>by
   unfold frsh
   rw [if_pos (by rw [hri b hb]; omega)]
   have:=ypn (t:=m.b) hnd _ (List.mem_map.2 ⟨b,hb,rfl⟩)
   rw [b.yhb] at this
   exact this
  have hinj:∀ b ∈ fp.post,∀ c ∈ fp.post,ρ b.i = ρ c.i -> b.i = c.i:=fun b hb c hc e=>by
   rw [hri b hb,hri c hc] at e
   have:=(s6 b hb).1
   have:=(s6 c hc).1
   omega
  refine .ag (.cons (.a rfl) (.cons (.ex ?_ (fun A B w=>Lies.mono A B w) ?_) (.cons (.ex ?_ (fun A B w=>Lies.mono A B w) ?_) .nil)))
  ·exact ⟨ρ,fun b hb c hc=>hinj b (h.bv b hb) c (h.bv c hc),fun b hb=>hF b (h.bv b hb),rfl⟩
  ·exact ybkq (fun b hb=>hF b (h.bv b hb)) h.vars
  ·exact ⟨ρ,fun b hb c hc=>hinj b (h.br b hb) c (h.br c hc),fun b hb=>hF b (h.br b hb),rfl⟩
  ·exact yben (fun b hb=>hF b (h.br b hb)) h.rules

def inB (B:List BlkL):Value -> Bool
 | .slice (some a) _ _=>(B.map (·.i)).elem a.block
 | .pointer (some a)=>(B.map (·.i)).elem a.block
 | .agg _=>false
 | .func _ _ _=>false
 | _=>true
theorem yhf {B:List BlkL} {ρ σ:Nat -> Nat} (h:∀ b ∈ B,ρ b.i = σ b.i) {v:Value} (hv:inB B v = true):ren1 ρ v = ren1 σ v:=by
 have hk:∀ j,(B.map (·.i)).elem j = true -> ρ j = σ j:=fun j hj=>by
  have:j ∈ B.map (·.i):=by simpa using hj
  obtain ⟨b,hb,rfl⟩:=List.mem_map.1 this
  exact h b hb
 cases v with
 | slice p n c=>cases p with
  | none=>rfl
  | some a =>
   show Value.slice (some (renA ρ a)) n c = .slice (some (renA σ a)) n c
   rw [yim,yim,hk _ hv]
 | pointer p=>cases p with
  | none=>rfl
  | some a =>
   show Value.pointer (some (renA ρ a)) = .pointer (some (renA σ a))
   rw [yim,yim,hk _ hv]
 | agg a=>cases hv
 | func f a c=>cases hv
 | _=>rfl
theorem ybgj {B:List BlkL} {τ:Nat -> Nat} {v:Value} (hv:inB B v = true):ren2 τ v = ren1 τ v:=by
 cases v with
 | agg a=>cases hv
 | func f a c=>cases hv
 | _=>rfl
theorem ybio {B:List BlkL} {ρ σ:Nat -> Nat} (h:∀ b ∈ B,ρ b.i = σ b.i) {v:Value} (hv:inB B v = true):ren2 ρ v = ren2 σ v:=by
 rw [ybgj hv,ybgj hv]
 exact yhf h hv
def ybcy (B:List BlkL):Bool:=B.all fun b=>b.l.all (inB B)
theorem yxk {B:List BlkL} {ρ σ:Nat -> Nat} (hc:ybcy B = true) (h:∀ b ∈ B,ρ b.i = σ b.i) {b:BlkL} (hb:b ∈ B):b.ren ρ = b.ren σ:=by
 have h1:=List.all_eq_true.1 (List.all_eq_true.1 hc b hb)
 have e:∀ τ:Nat -> Nat,b.ren τ = ⟨τ b.i,b.e,b.z,b.l.map (ren2 τ)⟩:=fun τ=>by
  unfold BlkL.ren
  rw [forceN_eq]
 rw [e,e,h b hb]
 congr 1
 exact List.map_congr_left fun v hv=>ybio h (h1 v hv)
theorem ytg {low:Nat}:∀ {l:List BlkL} {t:T ABlk},(∀ b ∈ l,b.i < low) -> dropT t low l = t
 | [],_,_=>rfl
 | b :: l,t,h=>by
  have hb:=h b List.mem_cons_self
  unfold dropT
  have e:Nat.ble low b.i = false:=by
   cases q:Nat.ble low b.i with
   | false=>rfl
   | true=>have:=Nat.le_of_ble_eq_true q; omega
  rw [e,iteB_eq,if_neg (by simp)]
  exact ytg fun c hc=>h c (List.mem_cons_of_mem _ hc)
structure GoodV (fv:Fact) (p:ProgR) (vv vr:Value) (Bv Br:List BlkL):Prop where
 args:fv.args = [.agg #[.string p.name,vv,vr]]
 pre:∀ b ∈ fv.pre,b ∈ Bv \/ b ∈ Br
 bv:∀ b ∈ Bv,b ∈ fv.pre
 br:∀ b ∈ Br,b ∈ fv.pre
 v:fv.v = .bool true
 post:fv.post = []
 still:fv.still = true
 apart:(Bv.all fun b=>Br.all fun c=>!(Nat.beq b.e c.e) && !(Nat.beq b.i c.i)) = true
 cv:ybcy Bv = true
 cr:ybcy Br = true
 iv:inB Bv vv = true
 ir:inB Br vr = true
 refl:eq2 (.agg #[.string p.name,vv,vr]) (.agg #[.string p.name,vv,vr]) = true
theorem ybws {P:Program} {fv:Fact} {p:ProgR} {vv vr:Value} {Bv Br:List BlkL} (hok:yfm P fv) (h:GoodV fv p vv vr Bv Br):Returns P fv.g [.ag (ydh (Lies Bv vv) (Lies Br vr) p)] (.b true):=by
 intro G m us hwf hle hus
 obtain ⟨ρ1,ρ2,hu,a1,a2,a3,a4⟩:∃ ρ1 ρ2:Nat -> Nat,us = [.agg #[.string p.name,ren1 ρ1 vv,ren1 ρ2 vr]] /\ (∀ b ∈ Bv,∀ c ∈ Bv,ρ1 b.i = ρ1 c.i -> b.i = c.i) /\ (∀ b ∈ Bv,G (ρ1 b.i) = some (b.ren ρ1).blk) /\
   (∀ b ∈ Br,∀ c ∈ Br,ρ2 b.i = ρ2 c.i -> b.i = c.i) /\ ∀ b ∈ Br,G (ρ2 b.i) = some (b.ren ρ2).blk:=by
  cases hus with
  | cons a b =>
   cases b
   cases a with
   | ag hl =>
    cases hl with
    | cons x1 hl =>
     cases x1
     cases hl with
     | cons x2 hl =>
      cases x2 with
      | ex q2 _ _ =>
       cases hl with
       | cons x3 hl =>
        cases x3 with
        | ex q3 _ _ =>
         cases hl
         obtain ⟨ρ1,b1,b2,rfl⟩:=q2
         obtain ⟨ρ2,b3,b4,rfl⟩:=q3
         exact ⟨ρ1,ρ2,rfl,b1,b2,b3,b4⟩
 subst hu
 obtain ⟨s1,⟨s2,s3⟩,s4,s5,s6,s7,s8⟩:=ykf h.still
 have hap:∀ b ∈ Bv,∀ c ∈ Br,b.e ≠ c.e /\ b.i ≠ c.i:=fun b hb c hc=>by
  have:=List.all_eq_true.1 (List.all_eq_true.1 h.apart b hb) c hc
  simp only [Bool.and_eq_true,Bool.not_eq_true'] at this
  exact ⟨fun e=>(by rw [e,Nat.beq_refl] at this; exact absurd this.1 (by decide)),fun e=>(by rw [e,Nat.beq_refl] at this; exact absurd this.2 (by decide))⟩
 let σ:Nat -> Nat:=fun i=>if (Bv.map (·.i)).elem i then ρ1 i else ρ2 i
 have hcross:∀ b ∈ Bv,∀ c ∈ Br,ρ1 b.i ≠ ρ2 c.i:=fun b hb c hc e=>by
  have e1:=a2 b hb
  have e2:=a4 c hc
  rw [e,e2] at e1
  injection e1 with e1
  unfold BlkL.blk at e1
  injection e1 with _ _ e3 _
  exact (hap b hb c hc).1 e3.symm
 have hG:∀ i b,G i = some b -> i < m.next:=fun i b hb=>hwf i b (hle i b hb)
 have sv:∀ b ∈ Bv,σ b.i = ρ1 b.i:=fun b hb=>if_pos (by simpa using ⟨b,hb,rfl⟩)
 have sr:∀ b ∈ Br,σ b.i = ρ2 b.i:=fun b hb=>by
  refine if_neg fun q=>?_
  have:b.i ∈ Bv.map (·.i):=by simpa using q
  obtain ⟨d,hd,hdi⟩:=List.mem_map.1 this
  exact (hap d hd b hb).2 hdi
 have tgtLt:∀ b ∈ fv.pre,σ b.i < m.next:=fun b hb=>by
  rcases h.pre b hb with q | q
  ·rw [sv b q]; exact hG _ _ (a2 b q)
  ·rw [sr b q]; exact hG _ _ (a4 b q)
 have sinj:∀ b ∈ fv.pre,∀ c ∈ fv.pre,σ b.i = σ c.i -> b.i = c.i:=fun b hb c hc e=>by
  rcases h.pre b hb with q | q <;> rcases h.pre c hc with q' | q'
  ·rw [sv b q,sv c q'] at e; exact a1 b q c q' e
  ·rw [sv b q,sr c q'] at e; exact absurd e (hcross b q c q')
  ·rw [sr b q,sv c q'] at e; exact absurd e.symm (hcross c q' b q)
  ·rw [sr b q,sr c q'] at e; exact a3 b q c q' e
 obtain ⟨tgt,htgt⟩:∃ t,fv.pre.map (fun b=>σ b.i) = t:=⟨_,rfl⟩
 have tlt:∀ t ∈ tgt,t < m.next:=fun t ht=>by
  rw [<- htgt] at ht
  obtain ⟨b,hb,rfl⟩:=List.mem_map.1 ht
  exact tgtLt b hb
 have tnd:tgt.Nodup:=by
  rw [<- htgt]
  have s5:=s5
  unfold List.Nodup at s5 ⊢
  rw [List.pairwise_map] at s5 ⊢
  exact List.Pairwise.imp_of_mem (fun {x y} hx hy h e=>h (sinj x hx y hy e)) s5
 have tlen:fv.pre.length = tgt.length:=by rw [<- htgt,List.length_map]
 have hmv:=ytv (n0:=m.next) hok h.still tlen tnd tlt
 have hrho:=ybnj (n0:=m.next) s4 s5 tlen
 obtain ⟨ρ,hρ⟩:∃ ρ,fv.rho tgt m.next = ρ:=⟨_,rfl⟩
 rw [hρ,<- htgt] at hrho
 have hri:∀ b ∈ fv.pre,ρ b.i = σ b.i:=List.map_inj_left.1 hrho
 have hv1:∀ b ∈ Bv,ρ b.i = ρ1 b.i:=fun b hb=>by rw [hri b (h.bv b hb),sv b hb]
 have hr1:∀ b ∈ Br,ρ b.i = ρ2 b.i:=fun b hb=>by rw [hri b (h.br b hb),sr b hb]
 have hargs:(fv.move tgt m.next).args = [.agg #[.string p.name,ren1 ρ1 vv,ren1 ρ2 vr]]:=by
  show fv.args.map (ren2 (fv.rho tgt m.next)) = _
  rw [hρ,h.args,<- yhf hv1 h.iv,<- yhf hr1 h.ir]
  rfl
 have hself:eqL2 [.agg #[.string p.name,ren1 ρ1 vv,ren1 ρ2 vr]] [.agg #[.string p.name,ren1 ρ1 vv,ren1 ρ2 vr]] = true:=by
  have hf:yjw (.agg #[.string p.name,vv,vr]) = true:=by
   have:=s2
   rw [h.args] at this
   simpa using this
  have e:=ybqx (ρ:=ρ) hf h.refl
  rw [show ren2 ρ (.agg #[.string p.name,vv,vr]) = .agg #[.string p.name,ren1 ρ vv,ren1 ρ vr] from rfl,yhf hv1 h.iv,yhf hr1 h.ir] at e
  show (eq2 _ _ && true) = true
  rw [e]; rfl
 have hpre:∀ b ∈ fv.pre,m.b.get (ρ b.i) = some (b.ren ρ).blk:=fun b hb=>by
  rcases h.pre b hb with q | q
  ·rw [yxk h.cv hv1 q,hv1 b q]; exact hle _ _ (a2 b q)
  ·rw [yxk h.cr hr1 q,hr1 b q]; exact hle _ _ (a4 b q)
 have hp:(fv.move tgt m.next).pre = fv.pre.map (BlkL.ren ρ):=by rw [<- hρ]; rfl
 have hfit:(fv.move tgt m.next).fits fv.g [.agg #[.string p.name,ren1 ρ1 vv,ren1 ρ2 vr]] m = true:=by
  unfold Fact.fits
  rw [hargs,hself]
  show (Nat.beq fv.g fv.g && Nat.beq m.next m.next && true && (fv.move tgt m.next).pre.all (blkIs m)) = true
  rw [Nat.beq_refl,Nat.beq_refl,hp]
  show List.all _ _ = true
  refine List.all_eq_true.2 fun b' hb'=>?_
  obtain ⟨b,hb,rfl⟩:=List.mem_map.1 hb'
  have h2:=(s4 b hb).2
  refine ymf ?_ (yrx h2) ?_
  ·rw [b.yhb]; exact hpre b hb
  ·show Nat.blt (b.l.map _).length 1000000 = true
   rw [List.length_map]
   unfold reflB at h2
   rw [Bool.and_eq_true] at h2
   exact h2.2
 have hs:=yuw hmv hfit
 unfold Fact.out at hs
 have hv:(fv.move tgt m.next).v = .bool true:=by
  show renV (fv.rho tgt m.next) fv.v = _
  rw [h.v]; rfl
 have hpost:(fv.move tgt m.next).post = []:=by
  show fv.post.map _ = []
  rw [h.post]; rfl
 rw [hv,hpost] at hs
 refine ⟨_,_,_,hs,Nat.le_refl _,?_,rfl,.b⟩
 intro i b hb
 show (dropT m.b m.next (fv.move tgt m.next).pre).get i = some b
 rw [ytg fun c hc=>?_]
 ·exact hb
 ·rw [hp] at hc
  obtain ⟨c,hc',rfl⟩:=List.mem_map.1 hc
  rw [c.yhb,hri c hc']
  exact tgtLt c hc'
end Sh
end Go.Proofs.YtpngeppkgoaimaaGreatDoor

namespace Go.Proofs.YtpngeppkgoaimaaGreatDoor
namespace Sh
open Go Ev
set_option maxRecDepth 1000000
def BqP:ProgT:=ybj (by8 [98,102,115]) (by8 [100]) (by8 [112]) (by8 [116,111,112]) (by8 [108,111,119])
def Bqt:ByteArray:=ybp
def Bqv:Value:=.slice (some ⟨867,0,none⟩) 2 CU
def Bqr:Value:=.slice (some ⟨1416,0,none⟩) 2 CU
def BqB:List BlkL:=yts.post.take 1
def BqC:List BlkL:=yts.post.drop 1
theorem yfx:Returns Tryz.prog 25 [.a (.string Bqt)] (.ag (ydh (Lies BqB Bqv) (Lies BqC Bqr) BqP.raw)) :=
 ybvn (fp:=yts) (ybn.at_ ybxb 0 rfl) ⟨rfl,rfl,rfl,by kernel_rfl,fun _ h=>List.mem_of_mem_take h,fun _ h=>List.mem_of_mem_drop h,by kernel_rfl,by kernel_rfl⟩
theorem ycwl:ybnn.pre = yts.post:=rfl
theorem ype:Returns Tryz.prog 169 [.ag (ydh (Lies BqB Bqv) (Lies BqC Bqr) BqP.raw)] (.b true) :=
 ybws (fv:=ybnn) (ybn.at_ ybyt 0 rfl) ⟨rfl,fun b h=>by
  rw [ycwl,<- List.take_append_drop 1 yts.post] at h
  exact List.mem_append.1 h,fun _ h=>List.mem_of_mem_take h,fun _ h=>List.mem_of_mem_drop h,rfl,rfl,by kernel_rfl,by kernel_rfl,by kernel_rfl,by kernel_rfl,by kernel_rfl,by kernel_rfl,by kernel_rfl⟩
theorem ypx:BqP.ok = true:=by kernel_rfl
end Sh
end Go.Proofs.YtpngeppkgoaimaaGreatDoor

namespace Go.Proofs.YtpngeppkgoaimaaGreatDoor
namespace Ev
open Go Go.RowKit
def hkL:Hooks:=⟨none,none,some 116,symB,[],none⟩
theorem ydco:HooksOk Tryz.prog hkL:=⟨fun g h=>(by cases h),fun g h=>(by cases h),fun g h=>(by cases h; exact ybpt),fun c hc=>(by cases hc),fun g h=>(by cases h)⟩
set_option maxRecDepth 1000000 in
theorem ybcq:outV (ev Tryz.prog hkL 3000 (.call 34 [] mem0)) = some (.bool true):=by kernel_rfl
theorem ycrl (w:World):Calls Tryz.prog 34 #[] w fun e w'=>e = .returned (.bool true) /\ Below w.heap.size w w' :=
 ywy mix yms ydco ybcq rfl rfl ⟨_,_,Tryz.func34,rfl⟩ w
end Ev
end Go.Proofs.YtpngeppkgoaimaaGreatDoor

namespace Go.Proofs.YtpngeppkgoaimaaGreatDoor
namespace Sh
open Go Ev
def yczc:LO:=[o3 (.alloc 73 1 [.a (.string (ByteArray.mk #[])),.i .i64 0,.i .i64 0,.i .i64 0,.i .i64 0,.i .i64 0]) 8 0]
def ydar:LO:=[mv' 0 9 0,mv' 1 10 0,mv' 2 11 0,mv' 3 12 0,o3 (.build [.a (.string (ByteArray.mk #[])),.i .i64 0,.i .i64 0,.i .i64 0,.i .i64 0,.i .i64 0] [(0,1,(.tmp 9)),(1,1,(ci' 1)),(3,1,(.tmp 10)),(4,1,(.tmp 11)),(5,1,(.tmp 12))]) 13 15,o0 (.store 6 (.tmp 8) (.tmp 13)) 31]
def c51:SC:=(.seq (.reg false yczc) (.seq (.reg false ydar) .ret))
theorem yddd:Fn 51 c51 [.c 8 true 6]:=fn_0 Tryz.func51 (by kernel_rfl) (by kernel_rfl)
def yczg:LO:=[o3 (.alloc 73 1 [.a (.string (ByteArray.mk #[])),.i .i64 0,.i .i64 0,.i .i64 0,.i .i64 0,.i .i64 0]) 2 0]
def yddw:LO:=[mv' 0 3 0,o3 (.build [.a (.string (ByteArray.mk #[])),.i .i64 0,.i .i64 0,.i .i64 0,.i .i64 0,.i .i64 0] [(0,1,(.tmp 3)),(1,1,(ci' 3))]) 4 1,o0 (.store 6 (.tmp 2) (.tmp 4)) 3]
def c52:SC:=(.seq (.reg false yczg) (.seq (.reg false yddw) .ret))
theorem ycxb:Fn 52 c52 [.c 2 true 6]:=fn_0 Tryz.func52 (by kernel_rfl) (by kernel_rfl)
def ycve:LO:=[o3 (.mv (.const (.bool false))) 6 0]
def ydcd:LO:=[mv' 0 7 0,mv' 1 8 0,bn' .geq 7 8 9 3,mv' 9 10 7,⟨.mv (.tmp 0),some 11,some (10,true),15⟩,⟨.mv (.tmp 2),some 12,some (10,true),15⟩,⟨.bin .leq (.tmp 11) (.tmp 12),some 13,some (10,true),63⟩,o3 (.pick (.tmp 10) (.tmp 13) (.const (.bool false))) 14 127,mv' 14 6 255]
def c54:SC:=(.seq (.reg false ycve) (.seq (.reg false ydcd) .ret))
theorem ydaj:Fn 54 c54 [.t 6]:=fn_0 Tryz.func54 (by kernel_rfl) (by kernel_rfl)
end Sh
end Go.Proofs.YtpngeppkgoaimaaGreatDoor

namespace Go.Proofs.YtpngeppkgoaimaaGreatDoor
open Go
namespace Sh
open Ev Go.RowKit
set_option maxRecDepth 8000
theorem ycst {g:Gr} (hg:ybc g) (hc:ycb g = true):0 <= eccP g 0 /\ eccP g 0 <= 1000:=by
 refine ⟨?_,(yqa g 0).2⟩
 have h0:0 < g.ports.length:=by have:=hg.1; omega
 have e:eccP g 0 = ybm (ybi g 0):=by
  unfold eccP
  rw [if_pos ⟨hc,by omega,by omega⟩]
  rfl
 have hl:0 < (ybi g 0).length:=by rw [ycm hg h0]; exact h0
 have h1:=ylb hg hc h0
 rw [List.getD_eq_getElem?_getD,List.getElem?_eq_getElem hl] at h1
 have h1:(ybi g 0)[0] = 0:=h1
 rw [e,<- h1]
 exact yix _ _ (List.getElem_mem hl)
theorem yib:Returns Tryz.prog 34 [] (.b true):=by
 refine yom ⟨_,_,Tryz.func34,rfl⟩ (fun _=>.b) (fun _=>.simple rfl) fun G m us hG hr φ M w us' hRl hs hv=>?_
 cases hr
 cases hv
 exact ycrl w
theorem yli:Returns Tryz.prog 32 [] (.a (.string Bqt)):=by
 refine Returns.of (ydbc _ _ ?_)
 simp only [c32,ydct,ycyp,go_sem,↓reduceIte]
 exact Sim.refl _
theorem ybay (nm:ByteArray) (hi pn pi:Int):Returns Tryz.prog 51 [.a (.string nm),.i .i64 hi,.i .i64 pn,.i .i64 pi] (.ag (varC ⟨nm,1,0,hi,pn,pi⟩)):=by
 refine Returns.of (yddd _ _ ?_)
 simp only [c51,yczc,ydar,varC,go_sem,Nat.reduceEqDiff,Nat.reduceAdd,Nat.reduceLeDiff,Nat.reduceLT,↓reduceIte,reduceCtorEq]
 exact Sim.refl _
theorem yun (nm:ByteArray):Returns Tryz.prog 52 [.a (.string nm)] (.ag (varC ⟨nm,3,0,0,0,0⟩)):=by
 refine Returns.of (ycxb _ _ ?_)
 simp only [c52,yczg,yddw,varC,go_sem,Nat.reduceEqDiff,Nat.reduceAdd,Nat.reduceLeDiff,Nat.reduceLT,↓reduceIte,reduceCtorEq]
 exact Sim.refl _
theorem ylo:Returns Tryz.prog 33 [] (ydb BqP.vars):=by
 refine Returns.of (ycwo _ _ ?_)
 have h1:=ybay ⟨#[100]⟩ 0 1 0
 have h2:=yun ⟨#[112]⟩
 simp only [varC] at h1 h2
 simp only [c33,ycvi,ydbl,go_sem,↓reduceIte]
 refine h1.use ?_
 simp only [thenO,clash,go_sem,Nat.reduceEqDiff,Nat.reduceAdd,Nat.reduceLeDiff,Nat.reduceLT,↓reduceIte,reduceCtorEq]
 refine h2.use ?_
 simp only [go_sem,Nat.reduceAdd,↓reduceIte]
 have two:∀ {q:Nat},q < 2 -> q = 0 \/ q = 1:=fun {q} h=>by omega
 refine ⟨fun q hq=>by rcases two hq with rfl | rfl <;> simp only [go_sem],?_⟩
 refine yio fun q hq=>?_
 rcases two hq with rfl | rfl <;> (simp only [BqP,ybj,varC,List.getD_cons_zero,List.getD_cons_succ,go_sem]; exact ⟨Sim.refl _,Sim.refl _,Sim.refl _,Sim.refl _,Sim.refl _,Sim.refl _,trivial⟩)
set_option maxHeartbeats 4000000 in
theorem ybii {x:NetR} (hx:x.ok) {raw:List Int} (hr:∀ k,inK .i64 (raw.getD k 0)) {l:List Nat} (hb:∀ k,l.getD k 0 < 2 ^ 32):Returns Tryz.prog 13 [.ag (netC x),yj raw,usV l] (.b true):=by
 refine Returns.of (ycuu _ _ ?_)
 have hC:=yfq hx (most:=8) (by omega)
 simp only [netC] at hC
 simp only [c13,ycxu,ycxt,netC,clash,go_sem,Nat.reduceEqDiff,Nat.reduceAdd,Nat.reduceLT,↓reduceIte]
 refine hC.found (V:=grV) (fun r g h=>h.2.2.2) fun r g h=>?_
 obtain ⟨hg,hcn,hn8,-⟩:=h
 have hI:=ybdj hg
 have hCh:Checked (Lies BqB Bqv) (Lies BqC Bqr) BqP g:=⟨hg,ypx,ykz hg,ype⟩
 have hTx:=yli
 have hVs:=ylo
 have hPr:=yfx
 have hCf:=yju hg ypx hCh.hf hr
 have hCl:=ysw hI hcn
 simp only [grV] at hCf hCl
 simp (maxSteps:=5000000) only [thenO,ycyn,grV,clash,go_sem,Nat.reduceEqDiff,Nat.reduceAdd,Nat.reduceLT,↓reduceIte]
 refine hTx.use ?_
 simp (maxSteps:=5000000) only [go_sem,↓reduceIte]
 refine hPr.use ?_
 simp (maxSteps:=5000000) only [thenO,ydcz,clash,ydh,go_sem,Nat.reduceEqDiff,Nat.reduceAdd,↓reduceIte,reduceCtorEq]
 refine hTx.use ?_
 simp (maxSteps:=5000000) only [go_sem]
 refine hCl.use ?_
 simp (maxSteps:=5000000) only [yfj,clash,go_sem,Nat.reduceEqDiff,Nat.reduceAdd,Nat.reduceLeDiff,↓reduceIte,reduceCtorEq]
 refine hVs.use ?_
 simp (maxSteps:=5000000) only [usV,go_sem,↓reduceIte]
 refine ⟨by decide,hCf.found (V:=ybg) (fun r c h=>h.2) fun r c h=>?_⟩
 obtain ⟨hcv,-⟩:=h
 have hWs:=yjl l hb 60 (by omega)
 simp only [usV] at hWs
 simp (maxSteps:=5000000) only [go_sem]
 refine ⟨by decide,hWs.found (V:=usV) (fun r ws h=>h.2.2) fun r ws h=>?_⟩
 obtain ⟨hwl,hw,-⟩:=h
 have hRun:=yuu yfx hCh (kind:=3) (by omega) (yrj _) hcv hw (by omega)
 have hJ:∀ q ∈ (ybh BqP g).runs yin ws c,ycs BqP g q.1 = true:=fun q hq=>(yfw hg hcn yis hcv q hq).valid
 have hlen:((ybh BqP g).runs yin ws c).length <= 61:=by
  have:=Sys.run_len (ybh BqP g) yin ws c (ydd ((ybh BqP g).en c))
  simp only [Sys.runs,List.length_cons]
  omega
 obtain ⟨R,hR⟩:∃ R,(ybh BqP g).runs yin ws c = R:=⟨_,rfl⟩
 rw [hR] at hRun hJ hlen
 obtain ⟨n,hn⟩:∃ n,R.length = n:=⟨_,rfl⟩
 obtain ⟨Cs,hCs⟩:∃ l,R.map (·.1) = l:=⟨_,rfl⟩
 obtain ⟨Ks,hKs⟩:∃ l,R.map (·.2) = l:=⟨_,rfl⟩
 have lC:Cs.length = n:=by rw [<- hCs,List.length_map,hn]
 have lK:Ks.length = n:=by rw [<- hKs,List.length_map,hn]
 rw [hCs,hKs] at hRun
 rw [hn] at hlen
 have hCv:∀ k,k < n -> ycs BqP g (Cs.getD k []) = true:=fun k hk=>by
  rw [<- hn] at hk
  have e:Cs.getD k [] = R[k].1:=by rw [<- hCs,List.getD_eq_getElem?_getD,List.getElem?_map,List.getElem?_eq_getElem hk]; rfl
  rw [e]
  exact hJ _ (List.getElem_mem hk)
 simp only [grV,usV,ydi,ydn,lC,lK] at hRun
 simp (maxSteps:=5000000) only [usV,go_sem,↓reduceIte]
 refine ⟨by decide,hRun.use ?_⟩
 simp (maxSteps:=5000000) only [go_sem,Nat.reduceEqDiff,↓reduceIte]
 refine ⟨by decide,?_⟩
 simp (maxSteps:=5000000) only [ycwy,go_sem]
 refine ybe (σ:=Nat) (fun k=>⟨[(12,.i .i64 k),(11,.b true),(9,.sl 1 n fun i=>[ybg (Cs.getD i [])]),(8,.pt (8,0) 0 0),(7,.pt (7,0) 0 0)],[(8,.one (some ⟨53,true,3,1,fun _=>ydh (Lies BqB Bqv) (Lies BqC Bqr) BqP.raw⟩)),(7,.one (some ⟨28,true,2,1,fun _=>[yj g.ids,yba g.ports]⟩))]⟩) (fun k=>k <= n) (fun k=>n - k) 0 (Nat.zero_le _) ?_ ?_
 ·refine yg [] [] [] ?_
  simp only [ydh,allQ,live,yc,Int.natCast_zero,go_sem,Nat.reduceEqDiff,↓reduceIte,reduceCtorEq]
 ·intro k hk
  by_cases hlt:k < n
  ·have t1:decide ((k:Int) < (n:Int)) = true:=decide_eq_true (by omega)
   have hLg:=yml hI (yvi (ygn hg ypx (hCv k hlt)))
   have hE:=yiv hCh (hCv k hlt)
   have e2:((((ybk BqP g (Cs.getD k []):Nat):Int)) == 0) = ybq g (Cs.getD k []):=by
    have hb:ybk BqP g (Cs.getD k []) = 0 ↔ ybq g (Cs.getD k []) = true:=ypy hg hcn (hCv k hlt)
    rw [Bool.eq_iff_iff,beq_iff_eq,<- hb]; omega
   simp only [grV,ydh] at hLg hE
   obtain ⟨lg,hlg⟩:∃ b,ybq g (Cs.getD k []) = b:=⟨_,rfl⟩
   rw [hlg] at hLg e2
   have e3:(lg != lg) = false:=by cases lg <;> rfl
   simp (maxSteps:=5000000) only [ycnv,ydav,t1,ydh,clash,go_sem,Nat.reduceEqDiff,Nat.reduceAdd,↓reduceIte,reduceCtorEq]
   refine ⟨⟨by omega,by omega⟩,hE.use ?_⟩
   simp (maxSteps:=5000000) only [thenO,clash,e2,go_sem,Nat.reduceEqDiff,Nat.reduceAdd,↓reduceIte,reduceCtorEq]
   refine ⟨⟨by omega,by omega⟩,hLg.use ?_⟩
   simp (maxSteps:=5000000) only [e3,go_sem]
   simp (maxSteps:=5000000) only [yddt,clash,go_sem,Nat.reduceEqDiff,Nat.reduceAdd,↓reduceIte,reduceCtorEq]
   refine ⟨ikw (by omega) (by omega),?_⟩
   refine yh (k + 1) (by omega) (by omega) ?_
   refine yg [] [] [] ?_
   simp only [allQ,live,yc,yu,go_sem,Nat.reduceEqDiff,↓reduceIte,reduceCtorEq]
   omega
  ·obtain rfl:k = n:=by omega
   have t1:decide ((k:Int) < (k:Int)) = false:=decide_eq_false (by omega)
   have hK:=yib
   simp (maxSteps:=5000000) only [ycnv,ycuo,t1,clash,go_sem,Nat.reduceEqDiff,Nat.reduceAdd,↓reduceIte,reduceCtorEq]
   refine hK.use ?_
   simp (maxSteps:=5000000) only [thenO,clash,go_sem,Nat.reduceEqDiff,Nat.reduceAdd,↓reduceIte,reduceCtorEq]
   exact Sim.refl _
end Sh
end Go.Proofs.YtpngeppkgoaimaaGreatDoor

