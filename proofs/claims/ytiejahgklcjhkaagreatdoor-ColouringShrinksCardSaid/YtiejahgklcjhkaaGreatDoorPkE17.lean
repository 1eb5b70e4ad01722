/- Lemmas, joined: KcB CmC TrA TrB ScDl NtT KyC Ky0 Ky1 KyR KyM Kwn RvG Li Kp Tz Nd Dl ScLw WlA WlB WlC WrN Dm Kwo RowA. -/
import Derived.Test.YtiejahgklcjhkaaGreatDoorPkE16
import Derived.Test.YtiejahgklcjhkaaGreatDoorPkE5
import Derived.Test.YtiejahgklcjhkaaGreatDoorPkE6
import Derived.Test.YtiejahgklcjhkaaGreatDoorPkE15
import Derived.Test.YtiejahgklcjhkaaGreatDoorPkE11
import Derived.Test.YtiejahgklcjhkaaGreatDoorPkE10
import Derived.Test.YtiejahgklcjhkaaGreatDoorPkE9
import Derived.Test.YtiejahgklcjhkaaGreatDoorPkE14
import Derived.Test.YtiejahgklcjhkaaGreatDoorPkE12
import Derived.Test.YtiejahgklcjhkaaGreatDoorPkE8
import Derived.ProofKit
import Derived.OpenShut
import Derived.ShutString
import Derived.ChangeOld
import Derived.Deep.Matrix
import Derived.Lib.SmallJoins
set_option linter.unusedSimpArgs false
set_option linter.unusedVariables false
namespace Go.Proofs.YtiejahgklcjhkaaGreatDoor
section
variable {nm nc nr:ByteArray} {g:Gr}
theorem ybmb(hg:GoodG g){c:Conf}(hv:ydn (ybe nm nc nr) g c=true):yga g c=true:=by
 have hC:=yjs hv;have hpl:=hg.2.2.1;unfold yga;rw[(ycu g).2 hg,Bool.true_and,ydy];refine⟨by rw[hC.len,hpl],fun v s hs=>?_⟩
 obtain⟨hvl,e⟩:=List.getElem?_eq_some_iff.1 hs;have e:c.getD v []=s:=by simp[List.getD,hs]
 obtain⟨h1,h2,h3⟩:=hC.row v (by rw[<- hC.len];exact hvl)
 unfold yfn at h2 h3;rw[e]at h1 h2 h3
 have eb:ycy g [(g.ids.length:Int)] v = [(0,(g.ids.length:Int))]:=by
  have:¬ (g.ids.length:Int) = -1:=by omega
  simp[ycy,this]
 rw[eb];refine⟨h1,fun i b x hb hx=>?_⟩;have hi:=(List.getElem?_eq_some_iff.1 hb).1;have hi:i<1:=by simpa using hi
 obtain rfl:i=0:=by omega
 have hb:some (0,(g.ids.length:Int))=some b:=hb;cases hb
 have e2:s.getD 0 0=x:=by simp[List.getD,hx]
 rw[e2]at h2 h3;exact⟨h2,h3⟩
theorem ybih(hg:GoodG g){c:Conf}:yib g c=0 ↔ yvf g c:=by
 have hpl:=hg.2.2.1;rw[ybg];constructor
 ·intro h v hv q;have:=(yhv hg (c:=c) (v:=v)).2 ⟨by omega,q⟩
  rw[h v]at this;cases this
 ·intro h i;cases q:(yib g c).testBit i with
  | false=>rfl
  | true =>
   obtain⟨h1,h2⟩:=(yhv hg).1 q;exact absurd h2 (h i (by omega))
theorem ywr(hg:GoodG g){c:Conf}(hv:ydn (ybe nm nc nr) g c=true):yee g c=true ↔ yvf g c:=by
 unfold yee;rw[ybmb hg hv,Bool.true_and,decide_eq_true_iff];exact ybih hg
theorem yji(hg:GoodG g){c:Conf}(hv:ydn (ybe nm nc nr) g c=true):yw (ybe nm nc nr) g c=0 ↔ yee g c=true:=(ybwl hg).trans (ywr hg hv).symm
theorem ybyq(hg:GoodG g){c:Conf}:yib g c=yw (ybe nm nc nr) g c:=by
 have hpl:=hg.2.2.1;refine Nat.eq_of_testBit_eq fun i=>?_
 by_cases hi:i<g.ids.length
 ·rw[Bool.eq_iff_iff,yhv hg,ywz hg hi];exact⟨fun h=>h.2,fun h=>⟨by omega,h⟩⟩
 ·rw[Nat.testBit_lt_two_pow (Nat.lt_of_lt_of_le (Sh.ywg _ g c) (Nat.pow_le_pow_right (by omega) (by omega)))]
  cases q:(yib g c).testBit i with
  | false=>rfl
  | true=>exact absurd ((yhv hg).1 q).1 (by omega)
theorem ycqm (hg:GoodG g) {res:Nat->Nat->Nat} (hr:ResD (yll g) res) {ws:List Nat} {c:Conf} (hv:ydn (ybe nm nc nr) g c=true) {ended:Bool}
  (he:ended=true -> ∀ p,((ybj (ybe nm nc nr) g).runs res ws c)[((ybj (ybe nm nc nr) g).runs res ws c).length - 1]? = some p->yw (ybe nm nc nr) g p.1=0) :
  Sh.HeldOk (((ybj (ybe nm nc nr) g).runs res ws c).map fun p=>yee g p.1) (((ybj (ybe nm nc nr) g).runs res ws c).map (·.2)) 1 (g.ids.length:Nat) ended:=by
 refine Sh.ycww (S:=ybj (ybe nm nc nr) g) (J:=KcJ nm nc nr g) (ybci hg hr hv) (fun c k q=>yji hg q.inv.valid) (fun c k q hL=>?_) (fun c k q hL hm=>?_) he
 ·have:=(ybgg q (fun hR=>by rw[(ywr hg q.inv.valid).2 hR]at hL;cases hL)).1
  omega
 ·have:=(ybgg q (fun hR=>by rw[(ywr hg q.inv.valid).2 hR]at hL;cases hL)).2
  omega
end
end Go.Proofs.YtiejahgklcjhkaaGreatDoor

namespace Go.Proofs.YtiejahgklcjhkaaGreatDoor
namespace Sh
open Go Ev
theorem Cm.ct{P:Program}{g:FuncId}{args:List SV}{Q:SV->Own->Prop}{R:SV->Prop}(h:Cm P g [] [] args Q)(hq:∀ r o',Q r o'->vok o' 5 r/\R (view o' 5 r)):Ct P g args R:=by
 intro G m us hw hle hargs
 have hc0:Conc m.next G om0 ⟨[],[]⟩ ⟨0,.leaf⟩ (enterM m) :=
  ⟨hw,Nat.le_refl _,Nat.le_refl _,hle,fun β b h=>(by cases h),fun β _=>rfl,fun β γ k z k' z' h=>(by cases h),fun β k z h=>(by cases h),fun t v hv=>(by cases hv)⟩
 obtain⟨v,m1,r,o',F',ω',s0,t2,hrv,l1,l2,_,_,hQ⟩:=h m.next G om0 ⟨0,.leaf⟩ (enterM m) us hc0 hargs
 obtain⟨r3,r4⟩:=hq r o' hQ
 have hs0:ybi P (.call g us m) (.call v m1):=by
  obtain⟨n,b,l⟩:=m;exact ybi.relow s0
 have hm1:m.next<=m1.low:=t2.low
 have hold:∀ {i x},m.b.get i=some x->i<m.next:=fun {i x} q=>hw i x q
 have hview:∀ H:AM,Le F' H->(∀ β k z,ω' β=some (some (k,z)) -> ∀ b,m1.b.get k=some b->H k=some b)->RV H om0 (view o' 5 r) v:=fun H h1 h2=>ygu t2 h1 h2 hrv r3
 have hs1:ybi P (.call g us m) (.call v ⟨m1.next,yfl m.b m1.b,m1.low⟩):=by
  intro hwm;obtain⟨ext,hcall⟩:=hs0 hwm
  have hget:∀ {i x},(yfl m.b m1.b).get i=some x->m.b.get i=some x\/m1.b.get i=some x:=fun {i x} q=>by
   rw[ycb]at q;split at q
   ·rename_i y hy;cases q;exact .inl hy
   ·exact .inr q
  refine⟨⟨ext.next,fun i b hq=>?_,fun i b h1 h2 hq=>?_,fun i b hq=>?_⟩,fun φ M w args' hR hs ha hf=>?_⟩
  ·rcases hget hq with q | q
   ·exact .inl ⟨b,q⟩
   ·exact ext.dom i b q
  ·rcases hget hq with q | q
   ·exact q
   ·exact ext.old i b h1 h2 q
  ·rcases hget hq with q | q
   ·exact Nat.lt_of_lt_of_le (hold q) ext.next
   ·exact ext.wf i b q
  ·refine(hcall φ M w args' hR hs ha hf).mono ?_;rintro e' w' ⟨v',rfl,φ',M',hgd,hv⟩;refine⟨v',rfl,φ',M',⟨hgd.le,hgd.out,hgd.rel,fun i b hq=>?_,hgd.frame,hgd.wg⟩,hv⟩;rcases hget hq with q | q
   ·have hi:=hold q;rw[hgd.frame i (fun z=>by omega) (.inr (Nat.lt_of_lt_of_le hi hm1))]
    exact hs i b q
   ·exact hgd.sub i b q
 have hnone:∀ {i},m.next<=i->m.b.get i=none:=fun {i} q=>by
  cases hh:m.b.get i with
  | none=>rfl
  | some x=>have:=hold hh;omega
 refine⟨_,_,view o' 5 r,hs1,hm1,fun i b hq=>?_,r4,hview _ (fun i b hq=>?_) (fun β k z hk b hq=>?_)⟩
 ·show(yfl m.b m1.b).get i=some b;rw[ycb,hq]
 ·unfold frsh;rcases l2 i b hq with q | q
  ·rw[if_neg (by have:=hold (hle i b q);omega)];exact q
  ·rw[if_pos q];show(yfl m.b m1.b).get i=some b;rw[ycb,hnone q];exact t2.sub i b hq
 ·unfold frsh;have:=(t2.apart β k z hk).2.1;rw[if_pos this];show(yfl m.b m1.b).get k=some b;rw[ycb,hnone this];exact hq
theorem Cm.weak {P:Program} {g:FuncId} {o:Own} {args:List SV} {Q R:SV->Own->Prop} (h:Cm P g [] o args Q)
  (hq:∀ r o',Q r o' -> ∃ r2 o2,Weak [] ⟨[(0,r)],o'⟩ ⟨[(0,r2)],o2⟩/\(cln (live o2) 5 r2=true/\allQ (fun p=>famCln (live o2) p.2) o2)/\R r2 o2):Cm P g [] o args R:=by
 intro lo G ω f m us hc hargs;obtain⟨v,m1,r,o',F',ω',s0,t2,hrv,l1,l2,_,_,hQ⟩:=h lo G ω f m us hc hargs;obtain⟨r2,o2,hw,hcl,hR⟩:=hq r o' hQ
 have t3:Conc lo F' ω' ⟨[(0,r)],o'⟩ ⟨1,tOf [v]⟩ m1:=⟨t2.wf,t2.low,t2.nxt,t2.sub,t2.own,t2.dom,t2.inj,t2.apart,fun t x hx=>by
  unfold look at hx;split at hx
  ·rename_i e
   cases hx
   exact⟨v,by rw[ybv];simp[<- e],hrv⟩
  ·cases hx⟩
 obtain⟨ω2,F2,k1,k2,k3,_⟩:=hw lo F' ω' _ m1 t3;obtain⟨u,q1,q2⟩:=k3.fr 0 r2 rfl
 have e:u=v:=by
  rw[ybv]at q1
  simpa using q1.symm
 subst e
 exact⟨u,m1,r2,o2,F2,ω2,s0,⟨k3.wf,k3.low,k3.nxt,k3.sub,k3.own,k3.dom,k3.inj,k3.apart,fun t x hx=>(by cases hx)⟩,q2,fun x b hx=>k1 x b (l1 x b hx),fun x b hx=>by
  rcases k2 x b hx with z | z
  ·exact l2 x b z
  ·exact .inr z,fun β hβ=>absurd hβ List.not_mem_nil,⟨hcl.1,hcl.2,trivial⟩,hR⟩
end Sh
end Go.Proofs.YtiejahgklcjhkaaGreatDoor

namespace Go.Proofs.YtiejahgklcjhkaaGreatDoor
structure TreeM(g:Gr):Prop where
 up:∀ a v u,a<g.ports.length->adj g v u->(ydq g a).getD u 0=(ydq g a).getD v 0 - 1\/(ydq g a).getD u 0=(ydq g a).getD v 0+1
 one:∀ a v u w,a<g.ports.length->adj g v u->adj g v w->(ydq g a).getD u 0=(ydq g a).getD v 0 - 1->(ydq g a).getD w 0=(ydq g a).getD v 0 - 1->u=w
end Go.Proofs.YtiejahgklcjhkaaGreatDoor

namespace Go.Proofs.YtiejahgklcjhkaaGreatDoor
def dP(g:Gr)(a v:Nat):Int:=(ydq g a).getD v 0
structure Tr(g:Gr):Prop where
 good:GoodG g
 conn:ype g=true
 m:TreeM g
section
variable {g:Gr} {a b u v w x:Nat}
theorem Tr.self(h:Tr g)(ha:a<g.ports.length):dP g a a=0:=ybsj h.good h.conn ha
theorem Tr.nonneg(h:Tr g)(ha:a<g.ports.length)(hv:v<g.ports.length):0<=dP g a v:=(ycwl h.good h.conn ha hv).1
theorem Tr.pos(h:Tr g)(ha:a<g.ports.length)(hv:v<g.ports.length)(hne:v ≠ a):1<=dP g a v:=ybwm h.good h.conn ha hv hne
theorem Tr.up(h:Tr g)(ha:a<g.ports.length)(hu:adj g v u):dP g a u=dP g a v - 1\/dP g a u=dP g a v+1:=h.m.up a v u ha hu
theorem Tr.one(h:Tr g)(ha:a<g.ports.length)(hu:adj g v u)(hx:adj g v x)(e1:dP g a u=dP g a v - 1)(e2:dP g a x=dP g a v - 1):u=x:=h.m.one a v u x ha hu hx e1 e2
theorem Tr.back(h:Tr g)(ha:a<g.ports.length)(hv:v<g.ports.length)(hne:v ≠ a):∃ u,adj g v u/\dP g a u=dP g a v - 1:=ybpi h.good h.conn ha hv hne
theorem Tr.adj1(h:Tr g)(hu:adj g v u):dP g v u=1:=by
 obtain⟨hv,hu'⟩:=h.good.adj_lt hu;have h1:=h.up hv hu;have h2:=h.self hv;have h3:=h.nonneg hv hu';omega
theorem Tr.ne(h:Tr g)(hu:adj g v u):v ≠ u:=fun e=>by
 subst e;have:=h.adj1 hu;have:=h.self (h.good.adj_lt hu).1;omega
theorem Tr.into(h:Tr g)(hu:adj g v u)(hx:adj g u x)(hne:x ≠ v)(hw:w<g.ports.length)(hs:dP g w x<dP g w u):dP g w u<dP g w v/\dP g w v=dP g w u+1:=by
 have h1:=h.up hw hx;have h2:=h.up hw (h.good.adj_symm hu);rcases h2 with h2 | h2
 ·exact absurd (h.one hw hx (h.good.adj_symm hu) (by omega) h2) hne
 ·omega
theorem Tr.thru(h:Tr g)(hw:w<g.ports.length):∀ (k:Nat) (v u x:Nat),adj g v u->dP g w u=dP g w v+1->x<g.ports.length->dP g x u<dP g x v->(dP g x u).toNat<k->dP g w x=dP g w u+dP g x u
 | 0,v,u,x,_,_,_,_,hk=>by omega
 | k+1,v,u,x,hu,hwu,hx,hs,hk=>by
  obtain⟨hv,hu'⟩:=h.good.adj_lt hu
  by_cases e:x=u
  ·subst e;rw[h.self hx];omega
  ·obtain⟨y,hy,h1⟩:=h.back hx hu' (fun q=>e q.symm);have hyv:y ≠ v:=fun q=>by subst q;omega
   have h2:=h.up hw hy
   have hw1:dP g w y=dP g w u+1:=by
    rcases h2 with h2 | h2
    ·exact absurd (h.one hw hy (h.good.adj_symm hu) h2 (by omega)) hyv
    ·exact h2
   have:=h.nonneg hx (h.good.adj_lt hy).2;have ih:=Tr.thru h hw k u y x hy hw1 hx (by omega) (by omega)
   omega
theorem Tr.apart(h:Tr g)(ha:adj g v a)(hb:adj g v b)(hne:a ≠ b)(hw:w<g.ports.length)(hx:x<g.ports.length)(h1:dP g w a<dP g w v)(h2:dP g x b<dP g x v):dP g w x=dP g w v+dP g x v:=by
 have a1:=h.up hw ha;have b1:=h.up hw hb;have b2:=h.up hx hb
 have hwb:dP g w b=dP g w v+1:=by
  rcases b1 with q | q
  ·exact absurd (h.one hw ha hb (by omega) q) hne
  ·exact q
 have:=h.thru hw _ v b x hb hwb hx h2 (Nat.lt_succ_self _);omega
end
end Go.Proofs.YtiejahgklcjhkaaGreatDoor

namespace Go.Proofs.YtiejahgklcjhkaaGreatDoor
namespace Sh
open Go Ev
def ycbd:LO:=[o3 (.box 40 (.tmp 0)) 1 0,o3 (.mv (.const (.nilFunc))) 2 0]
def yclw:LO:=[o3 (.mkfn 189 [] [(.tmp 1)]) 3 0,mv' 3 2 1]
def c154:SC:=(.seq (.reg false ycbd) (.seq (.reg false yclw) .ret))
theorem ybvj:FnM 154 c154 [.t 2]:=fn_m Tryz.func154 (by kernel_rfl) (by kernel_rfl)
def ycht:LO:=[o3 (.box 110 (.tmp 0)) 2 0,o3 (.box 40 (.tmp 1)) 3 0,o3 (.alloc 4 1 [.b false]) 4 0]
def ycfr:LO:=[ld' false 1 3 6 0,cl' 154 [6] 7 1]
def ycpj:LO:=[mv' 8 5 0]
def ycex:LO:=[ld' false 1 2 9 0,mv' 5 10 0,ix' 1 9 10 11 3,ld' false 1 11 12 7,ld' false 1 3 13 0,bn' .and 12 13 14 31,o3 (.bin .neq (.tmp 14) (.const (.int .u32 0))) 15 63]
def yczq:LO:=[o0 (.store 1 (.tmp 4) (.const (.bool false))) 0]
def yccw:LO:=[o0 (.store 1 (.tmp 4) (.const (.bool true))) 0]
def c221:SC:=(.seq (.reg false ycht) (.seq (.seq (.reg false ycfr) (.block 0 (.range (.tmp 7) [8] (.reg false ycpj) (.block 1 (.seq (.reg true ycex) (.cond (.tmp 15) (.seq (.reg false yczq) .ret) .skip)))))) (.seq (.reg false yccw) .ret)))
theorem ybwo:FnU 221 c221 [.c 4 false 1]:=fn_u Tryz.func221 (by kernel_rfl) (by kernel_rfl)
def ydft:LO:=[o3 (.box 27 (.tmp 0)) 4 0,o3 (.mv (.const (.int .u32 0))) 8 0]
def ydcs:LO:=[ld' true 2 4 9 0,cl' 96 [9] 10 1,o3 (.un .not (.tmp 10)) 11 3,mv' 11 12 7,⟨.mv (.tmp 1),some 13,some (12,false),15⟩,⟨.call (.func 108) [(.tmp 13)],some 14,some (12,false),31⟩,⟨.un .not (.tmp 14),some 15,some (12,false),63⟩,o3 (.pick (.tmp 12) (.const (.bool true)) (.tmp 15)) 16 127,mv' 16 17 255,⟨.mv (.tmp 2),some 18,some (17,false),511⟩,⟨.load true 2 (.tmp 4),some 19,some (17,false),511⟩,⟨.call (.func 109) [(.tmp 19)],some 20,some (17,false),1535⟩,⟨.bin .andNot (.tmp 18) (.tmp 20),some 21,some (17,false),4095⟩,⟨.bin .neq (.tmp 21) (.const (.int .u32 0)),some 22,some (17,false),8191⟩,o3 (.pick (.tmp 17) (.const (.bool true)) (.tmp 22)) 23 16383]
def ydhj:LO:=[o3 (.mv (.const (.int .u32 0))) 8 0]
def yddj:LO:=[ld' true 2 4 24 0,cl' 110 [24] 25 1,mv' 1 26 0,mv' 2 27 0,mv' 3 28 0,cl' 111 [25,26,27,28] 29 31,mv' 29 8 63]
def c52:SC:=(.seq (.reg false ydft) (.seq (.seq (.reg false ydcs) (.cond (.tmp 23) (.seq (.reg false ydhj) .ret) .skip)) (.seq (.reg false yddj) .ret)))
theorem yddg:Fn 52 c52 [.t 8]:=fn_0 Tryz.func52 (by kernel_rfl) (by kernel_rfl)
def yctw:LO:=[o3 (.box 24 (.tmp 0)) 2 0,o3 (.alloc 27 1 [.a (.slice none 0 0),.a (.slice none 0 0)]) 4 0]
def ycre:LO:=[fa' 4 1 2 5 0,ld' false 1 5 6 1,o3 (.un .not (.tmp 6)) 7 3]
def ydbh:LO:=[ld' true 6 2 8 0,mv' 1 9 0,cl' 70 [8,9] 10 3,o0 (.store 2 (.tmp 4) (.tmp 10)) 7]
def ydfc:LO:=[ld' true 6 2 11 0,ld' true 6 2 12 0,mv' 1 13 0,cl' 75 [12,13] 14 6,cl' 105 [11,14] 15 15,o0 (.store 2 (.tmp 4) (.tmp 15)) 31]
def c48:SC:=(.seq (.reg false yctw) (.seq (.seq (.reg false ycre) (.cond (.tmp 7) (.seq (.reg false ydbh) .ret) .skip)) (.seq (.reg true ydfc) .ret)))
theorem ycta:FnU 48 c48 [.c 4 true 2]:=fn_u Tryz.func48 (by kernel_rfl) (by kernel_rfl)
def ydcq:LO:=[o3 (.mv (.const (.bool false))) 4 0]
def ycxu:LO:=[mv' 1 5 0,o3 (.bin .geq (.tmp 5) (ci' 0)) 6 1,mv' 6 7 3,⟨.mv (.tmp 1),some 8,some (7,true),7⟩,⟨.bin .lss (.tmp 8) (ci' 32),some 9,some (7,true),15⟩,o3 (.pick (.tmp 7) (.tmp 9) (.const (.bool false))) 10 31,mv' 10 11 63,⟨.mv (.tmp 0),some 12,some (11,true),127⟩,⟨.mv (.tmp 1),some 13,some (11,true),127⟩,⟨.conv .u64 (.tmp 13),some 14,some (11,true),383⟩,⟨.bin .shr (.tmp 12) (.tmp 14),some 15,some (11,true),1023⟩,⟨.bin .and (.tmp 15) (.const (.int .u32 1)),some 16,some (11,true),2047⟩,⟨.bin .eql (.tmp 16) (.const (.int .u32 1)),some 17,some (11,true),4095⟩,o3 (.pick (.tmp 11) (.tmp 17) (.const (.bool false))) 18 8191,mv' 18 4 16383]
def c55:SC:=(.seq (.reg false ydcq) (.seq (.reg false ycxu) .ret))
theorem yczo:Fn 55 c55 [.t 4]:=fn_0 Tryz.func55 (by kernel_rfl) (by kernel_rfl)
def ycyv:LO:=[o3 (.box 58 (.tmp 0)) 4 0,o3 (.box 27 (.tmp 1)) 5 0,o3 (.mv (.const (.slice none 0 0))) 8 0,o3 (.mv (ci' 0)) 9 4]
def ydee:LO:=[ld' true 3 4 12 0,ld' true 2 5 13 0,mv' 2 14 0,cl' 112 [12,13,14] 15 7,mv' 15 10 15]
def ydbo:LO:=[mv' 10 16 0,o3 (.bin .neq (.tmp 16) (ci' 0)) 17 1]
def ydgm:LO:=[mv' 10 18 0,o3 (.mv (.const (.slice none 0 0))) 8 0,mv' 18 9 3]
def ydag:LO:=[ld' true 3 4 19 0,ld' true 2 5 20 0,cl' 93 [19,20] 21 3,mv' 21 11 7]
def ycze:LO:=[mv' 3 22 0,o3 (.bin .eql (.tmp 22) (.const (.int .u32 0))) 23 1,mv' 23 24 3,⟨.mv (.tmp 3),some 25,some (24,false),7⟩,⟨.mv (.tmp 11),some 26,some (24,false),7⟩,⟨.mv (.tmp 2),some 27,some (24,false),7⟩,⟨.call (.func 94) [(.tmp 26),(.tmp 27)],some 28,some (24,false),55⟩,⟨.bin .andNot (.tmp 25) (.tmp 28),some 29,some (24,false),127⟩,⟨.bin .neq (.tmp 29) (.const (.int .u32 0)),some 30,some (24,false),255⟩,o3 (.pick (.tmp 24) (.const (.bool true)) (.tmp 30)) 31 511]
def ydgz:LO:=[o3 (.mv (.const (.slice none 0 0))) 8 0,o3 (.mv (ci' 11)) 9 1]
def yddu:LO:=[mv' 11 32 0,mv' 2 33 0,mv' 3 34 0,cl' 113 [32,33,34] 35 7,mv' 35 8 15,o3 (.mv (ci' 0)) 9 31]
def c53:SC:=(.seq (.reg false ycyv) (.seq (.seq (.reg false ydee) (.seq (.reg false ydbo) (.cond (.tmp 17) (.seq (.reg false ydgm) .ret) .skip))) (.seq (.reg false ydag) (.seq (.seq (.reg false ycze) (.cond (.tmp 31) (.seq (.reg false ydgz) .ret) .skip)) (.seq (.reg false yddu) .ret)))))
theorem ydby:Fn 53 c53 [.t 8,.t 9]:=fn_0 Tryz.func53 (by kernel_rfl) (by kernel_rfl)
end Sh
end Go.Proofs.YtiejahgklcjhkaaGreatDoor

namespace Go.Proofs.YtiejahgklcjhkaaGreatDoor
open Go
namespace Sh
open Ev Go.RowKit
set_option maxRecDepth 8000
theorem nodesL_ok{x:NetR}(hx:x.ok){most:Nat}(hm:1<=most/\most<=24) :
  Cm Tryz.prog 75 [] [] [.ag (netC x),.i .i64 most] fun r o=>∃ g,GoodG g/\g.ports.length<=most/\r=linkA g/\o=linkO g.ports :=
 (nodes_ok hx hm).weak fun r o' ⟨ids,h1,h2,h3,e1,e2⟩=>by
  subst e1 e2;obtain⟨n,hn⟩:∃ n,ids.length=n:=⟨_,rfl⟩;have b1:(bare ids).ids=ids:=rfl;have b2:(bare ids).ports.length=n:=by simp[bare,hn]
  have b3:∀ v,(bare ids).ports.getD v [] = []:=bare_ports ids;refine⟨linkA (bare ids),linkO (bare ids).ports,?_,?_,bare ids,bare_good (by omega) (by omega) h2 h3,by rw[b2];omega,rfl,rfl⟩
  ·refine weak_all [(211,fun i=>(17,i))] [212] [] ?_;simp only[linkA,linkO,rowO,b1,b2,b3,hn,List.length_nil,allQ,live,sim_self,go_sem,Nat.reduceEqDiff,Nat.reduceBEq,↓reduceIte,reduceCtorEq];refine⟨fun i hi=>⟨(212,i),rfl,rfl,by simp[hi]⟩,fun i b hb=>?_⟩
   obtain⟨_,rfl⟩:=some_row hb;exact⟨rfl,rfl⟩
  ·simp only[linkO,linkA,famCln,obCln,allQ,live,go_sem,Nat.reduceEqDiff,↓reduceIte];refine⟨fun i hi=>by rw[if_pos hi],fun i b hb k hk=>?_⟩
   obtain⟨hi,rfl⟩:=some_row hb;simp only[rowO,go_sem]
theorem ybdy{x:NetR}(hx:x.ok){most:Nat}(hm:1<=most/\most<=24) :
  Ct Tryz.prog 48 [.ag (netC x),.i .i64 most] fun r=>∃ g,GoodG g/\g.ports.length<=most/\Sim r (grV g):=by
 refine ycta [75,105] _ _ ?_;have hC:=ywx hx hm;have hN:=nodesL_ok hx hm;simp only[netC]at hC hN;cases hap:x.apart with
 | false =>
  rw[hap]at hC;simp only[c48,yctw,ycre,ydbh,netC,hap,clash,go_sem,Nat.reduceEqDiff,Nat.reduceAdd,Nat.reduceLeDiff,Nat.reduceLT,Nat.reduceBEq,↓reduceIte,reduceCtorEq];refine hC.found (V:=grV) (fun r g h=>h.2.2.2) fun r g h=>?_;simp only[thenO,grV,splice,clash,go_sem,Nat.reduceEqDiff,Nat.reduceAdd,↓reduceIte];exact⟨g,h.1,h.2.2.1,Sim.refl _⟩
 | true =>
  rw[hap]at hN;simp only[c48,yctw,ycre,ydfc,netC,hap,clash,go_sem,Nat.reduceEqDiff,Nat.reduceAdd,Nat.reduceLeDiff,Nat.reduceLT,↓reduceIte,reduceCtorEq];refine callM_of hN [(211,211),(212,212)] 0 [2,4,11] [2,4] ?_ ?_
  ·simp only[okN,famCln,obCln,keepF,keepO,allQ,live,sim_self,go_sem,Nat.reduceEqDiff,Nat.reduceAdd,Nat.reduceBEq,↓reduceIte,reduceCtorEq]
  rintro r o' ⟨g,hg,hn,rfl,rfl⟩;have hM:=ybmx (Q:=fun _=>True) hx hg trivial (fun G a b w gG gl ga gb gw gQ=>trivial);simp only[netC,hap]at hM;simp only[linkO,linkA,thenM,ygw,nuF,nu,difN,keepF,keepO,Fam.ren,OB.ren,dim,ylh,ygs,go_sem,Nat.reduceEqDiff,Nat.reduceAdd,Nat.reduceBEq,↓reduceIte];refine callM_of hM [(211,211),(212,212)] 0 [4] [4] ?_ ?_
  ·simp only[linkA,linkO,to1,okN,famCln,obCln,keepF,keepO,allQ,live,sim_self,go_sem,Nat.reduceEqDiff,Nat.reduceAdd,Nat.reduceBEq,↓reduceIte,reduceCtorEq];refine⟨⟨fun i _ j _ e=>e,fun i hi=>by rw[if_pos hi],fun i b hb=>?_⟩,by decide⟩
   obtain⟨hi,rfl⟩:=some_row hb;refine⟨_,yqd (f:=ren (nu [(211,211),(212,212)] 0) 5) (fun _ _=>rfl) hi,⟨rfl,rfl,rfl,rfl⟩,fun k hk=>?_⟩;simp only[rowO,live,sim_self,go_sem,reduceCtorEq]
  rintro r o' ⟨G,gg,-,gn,rfl,rfl⟩;simp only[linkO,linkA,clash,splice,thenM,ygw,nuF,nu,difN,keepF,keepO,Fam.ren,OB.ren,dim,ylh,ygs,go_sem,Nat.reduceEqDiff,Nat.reduceAdd,Nat.reduceBEq,↓reduceIte];refine⟨by decide,fun q hq=>?_,G,gg,by omega,?_⟩
  ·simp only[if_pos hq];exact⟨Nat.le_refl _,fun k hk=>by simp only[rowO,go_sem]⟩
  ·refine ylk ⟨Sim.refl _,?_,trivial⟩;refine ygb fun q hq=>?_;simp only[if_pos hq];simp only[rowO,yu,yex,go_sem];exact⟨Sim.refl _,trivial⟩
end Sh
end Go.Proofs.YtiejahgklcjhkaaGreatDoor

namespace Go.Proofs.YtiejahgklcjhkaaGreatDoor
namespace Ev
open Go
set_option maxRecDepth 1000000
def ybkz:ByteArray:=by8 [112,114,111,103,114,97,109,32,99,111,108,111,117,114,105,110,103,59,10,118,97,114,32,99,32,58,32,48,32,46,46,32,110,59,10,114,117,108,101,32,102,105,120,58,32,115,111,109,101,40,113,46,99,32,61,61,32,99,41,32,45,62,32,99,32,58,61,32,109,101,120,40,113,46,99,41,59,10]
def ydgf:List Value:=[.int .i64 1,.int .i64 0,.int .i64 7,.int .i64 0,.int .i64 1,.int .i64 8,.int .i64 17,.int .i64 0,.int .i64 3,.int .i64 17,.int .i64 18,.int .i64 0,.int .i64 1,.int .i64 19,.int .i64 22,.int .i64 0,.int .i64 1,.int .i64 23,.int .i64 24,.int .i64 0,.int .i64 3,.int .i64 25,.int .i64 26,.int .i64 0,.int .i64 2,.int .i64 27,.int .i64 28,.int .i64 0,.int .i64 3,.int .i64 29,.int .i64 31,.int .i64 0,.int .i64 1,.int .i64 32,.int .i64 33,.int .i64 0,.int .i64 3,.int .i64 33,.int .i64 34,.int .i64 0,.int .i64 1,.int .i64 35,.int .i64 39,.int .i64 0,.int .i64 1,.int .i64 40,.int .i64 43,.int .i64 0,.int .i64 3,.int .i64 43,.int .i64 44,.int .i64 0,.int .i64 1,.int .i64 45,.int .i64 49,.int .i64 0,.int .i64 3,.int .i64 49,.int .i64 50,.int .i64 0,.int .i64 1,.int .i64 50,.int .i64 51,.int .i64 0,.int .i64 3,.int .i64 51,.int .i64 52,.int .i64 0,.int .i64 1,.int .i64 52,.int .i64 53,.int .i64 0,.int .i64 3,.int .i64 54,.int .i64 56,.int .i64 0,.int .i64 1,.int .i64 57,.int .i64 58,.int .i64 0,.int .i64 3,.int .i64 58,.int .i64 59,.int .i64 0,.int .i64 3,.int .i64 60,.int .i64 62,.int .i64 0,.int .i64 1,.int .i64 63,.int .i64 64,.int .i64 0,.int .i64 3,.int .i64 65,.int .i64 67,.int .i64 0,.int .i64 1,.int .i64 68,.int .i64 71,.int .i64 0,.int .i64 3,.int .i64 71,.int .i64 72,.int .i64 0,.int .i64 1,.int .i64 72,.int .i64 73,.int .i64 0,.int .i64 3,.int .i64 73,.int .i64 74,.int .i64 0,.int .i64 1,.int .i64 74,.int .i64 75,.int .i64 0,.int .i64 3,.int .i64 75,.int .i64 76,.int .i64 0,.int .i64 3,.int .i64 76,.int .i64 77,.int .i64 0]
def Kyb0:BlkL:=⟨321,240,2,[.int .i64 21,.int .i64 0,.int .i64 35,.int .i64 0,.int .i64 12,.int .i64 0,.int .i64 5,.int .i64 0]⟩
def Kyb1:BlkL:=⟨357,240,2,[.int .i64 27,.int .i64 0,.int .i64 12,.int .i64 0]⟩
def Kyb2:BlkL:=⟨364,200,2,[.int .i64 0,.slice (some ⟨357,0,none⟩) 2 CU]⟩
end Ev
end Go.Proofs.YtiejahgklcjhkaaGreatDoor

namespace Go.Proofs.YtiejahgklcjhkaaGreatDoor
namespace Ev
open Go
set_option maxRecDepth 1000000
/- (*selfstab/program.reader).all -/
def yccx:Fact:=⟨150,[.pointer (some ⟨250,0,none⟩)],251,[⟨249,175,4,ydgf⟩,⟨250,151,0,[.string ybkz,.slice (some ⟨249,0,none⟩) 31 CU,.slice none 0 0,.string (by8 []),.slice none 0 0,.slice none 0 0,.slice none 0 0]⟩],.tuple #[],369,[⟨250,151,0,[.string ybkz,.slice (some ⟨249,124,none⟩) 0 CU,.slice (some ⟨273,0,none⟩) 1 CU,.string (by8 [99,111,108,111,117,114,105,110,103]),.slice (some ⟨275,0,none⟩) 1 CU,.slice (some ⟨368,0,none⟩) 1 CU,.slice (some ⟨282,0,none⟩) 1 CU]⟩,⟨273,9,1,[.string (by8 [99])]⟩,⟨275,87,6,[.string (by8 [99]),.int .i64 1,.int .i64 0,.int .i64 0,.int .i64 1,.int .i64 0]⟩,⟨282,9,1,[.string (by8 [102,105,120])]⟩,Kyb0,Kyb1,Kyb2,⟨368,191,3,[.string (by8 [102,105,120]),.slice (some ⟨321,0,none⟩) 4 CU,.slice (some ⟨364,0,none⟩) 1 CU]⟩],250⟩
def ydhr:List Fact:=[yccx]
theorem ybyg:ybp ydhr:=ybp.seq ybp.nil (by kernel_rfl)
/- selfstab/step.Step -/
def ydhz:Fact:=⟨53,[.agg #[.string (by8 [99,111,108,111,117,114,105,110,103]),.slice (some ⟨275,0,none⟩) 1 CU,.slice (some ⟨368,0,none⟩) 1 CU],.agg #[.slice (some ⟨14,0,none⟩) 3 CU,.slice (some ⟨7,0,none⟩) 3 3],.slice (some ⟨758,0,none⟩) 3 3,.int .u32 2],785,[⟨7,71,1,[.slice (some ⟨31,0,none⟩) 2 CU,.slice (some ⟨43,0,none⟩) 2 CU,.slice (some ⟨45,0,none⟩) 2 CU]⟩,⟨14,3,1,[.int .i64 0,.int .i64 1,.int .i64 2]⟩,⟨31,95,2,[.int .i64 1,.int .i64 1,.int .i64 2,.int .i64 1]⟩,⟨43,95,2,[.int .i64 0,.int .i64 1,.int .i64 2,.int .i64 1]⟩,⟨45,95,2,[.int .i64 0,.int .i64 1,.int .i64 1,.int .i64 1]⟩,⟨275,87,6,[.string (by8 [99]),.int .i64 1,.int .i64 0,.int .i64 0,.int .i64 1,.int .i64 0]⟩,Kyb0,Kyb1,Kyb2,⟨368,191,3,[.string (by8 [102,105,120]),.slice (some ⟨321,0,none⟩) 4 CU,.slice (some ⟨364,0,none⟩) 1 CU]⟩,⟨758,22,1,[.slice (some ⟨775,0,none⟩) 1 CU,.slice (some ⟨760,0,none⟩) 1 CU,.slice (some ⟨761,0,none⟩) 1 CU]⟩,⟨760,3,1,[.int .i64 1]⟩,⟨761,3,1,[.int .i64 1]⟩,⟨775,3,1,[.int .i64 0]⟩],.tuple #[.slice (some ⟨1052,0,none⟩) 3 3,.int .i64 0],1079,[⟨1052,22,1,[.slice (some ⟨1053,0,none⟩) 1 CU,.slice (some ⟨1069,0,none⟩) 1 CU,.slice (some ⟨1055,0,none⟩) 1 CU]⟩,⟨1053,3,1,[.int .i64 0]⟩,⟨1055,3,1,[.int .i64 1]⟩,⟨1069,3,1,[.int .i64 2]⟩],785⟩
end Ev
end Go.Proofs.YtiejahgklcjhkaaGreatDoor

namespace Go.Proofs.YtiejahgklcjhkaaGreatDoor
namespace Ev
open Go
set_option maxRecDepth 1000000
/- selfstab/selfstabworld.Program -/
def yboy:Fact:=⟨37,[.string ybkz],47,[],.agg #[.string (by8 [99,111,108,111,117,114,105,110,103]),.slice (some ⟨275,0,none⟩) 1 CU,.slice (some ⟨368,0,none⟩) 1 CU],486,[⟨275,87,6,[.string (by8 [99]),.int .i64 1,.int .i64 0,.int .i64 0,.int .i64 1,.int .i64 0]⟩,Kyb0,Kyb1,Kyb2,⟨368,191,3,[.string (by8 [102,105,120]),.slice (some ⟨321,0,none⟩) 4 CU,.slice (some ⟨364,0,none⟩) 1 CU]⟩],47⟩
def ydha:List Fact:=[yboy]
theorem ybyl:ybp ydha:=ybp.seq (ybp.cons (f:=yccx) (ybp.at_ ybyg 0 rfl) ybp.nil) (by kernel_rfl)
end Ev
end Go.Proofs.YtiejahgklcjhkaaGreatDoor

namespace Go.Proofs.YtiejahgklcjhkaaGreatDoor
namespace Ev
open Go
set_option maxRecDepth 1000000
end Ev
end Go.Proofs.YtiejahgklcjhkaaGreatDoor

namespace Go.Proofs.YtiejahgklcjhkaaGreatDoor
namespace Ev
open Go Go.RowKit
def kyF:List Fact:=[yboy]
theorem ydeq:ybp kyF:=(ybp.cons (f:=yboy) (ybp.at_ ybyl 0 rfl) ybp.nil)
def kyH:Hooks:=⟨some 149,some 261,some 153,symB,[⟨1000000000000,kyF⟩],some 158⟩
theorem ydgi:HooksOk Tryz.prog kyH:=⟨fun g h=>(by cases h;exact ybfw),fun g h=>(by cases h;exact yox),fun g h=>(by cases h;exact ybmo),ydt.cons ydeq ydt.nil,fun g h=>(by cases h;exact yvb)⟩
set_option maxRecDepth 1000000 in
theorem ybdc:outV (ev Tryz.prog kyH 3000 (.call 51 [] mem0))=some (.bool true):=by kernel_rfl
theorem ycut(w:World)(hG:GlW w):Calls Tryz.prog 51 #[] w fun e w'=>e = .returned (.bool true)/\Below w.heap.size w w' :=
 ywm mix ykz ydgi ybdc rfl rfl ⟨_,_,Tryz.func51,rfl⟩ w hG
end Ev
end Go.Proofs.YtiejahgklcjhkaaGreatDoor

namespace Go.Proofs.YtiejahgklcjhkaaGreatDoor
namespace Sh
open Go Ev Go.RowKit
theorem ykg:Returns Tryz.prog 51 [] (.b true):=by
 refine ybgq ⟨_,_,Tryz.func51,rfl⟩ (fun _=>.b) (fun _=>.simple rfl) fun G m us hG hr φ M w us' hRl hs hv=>?_;cases hr
 cases hv
 exact ycut w fun x hx=>(hRl.gl x hx).1
end Sh
end Go.Proofs.YtiejahgklcjhkaaGreatDoor

namespace Go.Proofs.YtiejahgklcjhkaaGreatDoor
namespace Ev
open Go
theorem yoz:∀ l:List UInt8,eqBytes l l=true
 | []=>rfl
 | x :: l=>by
  show(Nat.beq x.toNat x.toNat && eqBytes l l)=true;rw[Nat.beq_refl,yoz l];rfl
theorem yui{ρ:Nat->Nat}{a:Addr}(h:a.spot.isNone=true):eqAddr (renA ρ a) (renA ρ a)=true:=by
 rw[yih];unfold eqAddr;simp only[Nat.beq_refl,h,Bool.and_self]
theorem ybok{ρ:Nat->Nat}{v:Value}(hf:ypl v=true)(h:eq1 v v=true):eq1 (ren1 ρ v) (ren1 ρ v)=true:=by
 unfold ypl at hf;split at hf
 ·exact yui hf
 ·rename_i a n c
  show(eqAddr (renA ρ a) (renA ρ a) && Nat.beq n n && Nat.beq c c)=true;rw[yui hf,Nat.beq_refl,Nat.beq_refl];rfl
 ·rename_i h1 h2
  have:ren1 ρ v=v:=by
   unfold ren1;split
   ·rename_i a;exact absurd rfl (h1 a)
   ·rename_i a n c;exact absurd rfl (h2 a n c)
   ·rfl
  rw[this];exact h
theorem yqc{ρ:Nat->Nat}:∀ {l:List Value},l.all ypl=true->eqL1 l l=true->eqL1 (l.map (ren1 ρ)) (l.map (ren1 ρ))=true
 | [],_,_=>rfl
 | x :: l,hf,h=>by
  simp only[List.all_cons,Bool.and_eq_true]at hf;have h:(eq1 x x && eqL1 l l)=true:=h;rw[Bool.and_eq_true]at h;show(eq1 (ren1 ρ x) (ren1 ρ x) && eqL1 (l.map (ren1 ρ)) (l.map (ren1 ρ)))=true;rw[ybok hf.1 h.1,yqc hf.2 h.2];rfl
theorem ybrh{v:Value}(h1:∀ a,v = .agg a->False)(h2:∀ g a c,v = .func (.func g) a c->False):eq2 v v=eq1 v v:=by
 cases v with
 | agg a=>exact(h1 a rfl).elim
 | func f a c=>cases f with
  | func g=>exact(h2 g a c rfl).elim
  | _=>rfl
 | _=>rfl
theorem ybqs{ρ:Nat->Nat}{v:Value}(h1:∀ a,v = .agg a->False)(h2:∀ g a c,v = .func (.func g) a c->False)(hf:ypl v=true):ren2 ρ v=ren1 ρ v:=by
 cases v with
 | agg a=>exact(h1 a rfl).elim
 | func f a c=>cases f with
  | func g=>exact(h2 g a c rfl).elim
  | _=>cases hf
 | _=>rfl
theorem ytx{ρ:Nat->Nat}{v:Value}(hf:ypl v=true):(∀ a,ren1 ρ v = .agg a->False) /\ ∀ g a c,ren1 ρ v = .func (.func g) a c->False:=by
 cases v with
 | agg a=>cases hf
 | func f a c=>cases hf
 | pointer p=>cases p<;>exact⟨fun _ h=>(by cases h),fun _ _ _ h=>(by cases h)⟩
 | slice p n c=>cases p<;>exact⟨fun _ h=>(by cases h),fun _ _ _ h=>(by cases h)⟩
 | _=>exact⟨fun _ h=>(by cases h),fun _ _ _ h=>(by cases h)⟩
theorem ybnq{ρ:Nat->Nat}{v:Value}(hf:yje v=true)(h:eq2 v v=true):eq2 (ren2 ρ v) (ren2 ρ v)=true:=by
 unfold yje at hf;split at hf
 ·rename_i a
  have h:eqL1 a.toList a.toList=true:=h;show eqL1 (a.toList.map (ren1 ρ)).toArray.toList (a.toList.map (ren1 ρ)).toArray.toList=true;exact yqc hf h
 ·rename_i g a c
  rw[Bool.and_eq_true]at hf;have h:(Nat.beq g g && eqL1 a.toList a.toList && eqL1 c.toList c.toList)=true:=h;simp only[Bool.and_eq_true]at h;show(Nat.beq g g && eqL1 (a.toList.map (ren1 ρ)).toArray.toList (a.toList.map (ren1 ρ)).toArray.toList && eqL1 (c.toList.map (ren1 ρ)).toArray.toList (c.toList.map (ren1 ρ)).toArray.toList)=true;rw[Nat.beq_refl,yqc hf.1 h.1.2,yqc hf.2 h.2];rfl
 ·rename_i h1 h2
  rw[ybrh h1 h2]at h;rw[ybqs h1 h2 hf,ybrh (ytx hf).1 (ytx hf).2];exact ybok hf h
def reflB(b:BlkL):Bool:=b.l.all (fun v=>eq2 v v && yje v) && Nat.blt b.l.length 1000000
theorem yry{ρ:Nat->Nat}{b:BlkL}(h:reflB b=true):∀ v ∈ (b.ren ρ).l,eq2 v v=true:=by
 unfold reflB at h;rw[Bool.and_eq_true]at h;intro v hv;obtain⟨x,hx,rfl⟩:=List.mem_map.1 hv;have:=List.all_eq_true.1 h.1 x hx;rw[Bool.and_eq_true]at this;exact ybnq this.2 this.1
theorem ykr{l:List Value}(h:∀ v ∈ l,eq2 v v=true):∀ (k:List Value) (n:Nat),l.drop n=k->cellsAre (tOf l) n k=true
 | [],_,_=>rfl
 | v :: k,n,e=>by
  have hn:n<l.length:=by
   rcases Nat.lt_or_ge n l.length with q | q
   ·exact q
   ·rw[List.drop_eq_nil_of_le q]at e;cases e
  rw[List.drop_eq_getElem_cons hn]at e
  injection e with e1 e2
  unfold cellsAre;rw[ybv,List.getElem?_eq_getElem hn,e1];simp only;rw[h v (by rw[<- e1];exact List.getElem_mem _),ykr h k (n+1) e2]
  rfl
theorem ymj{m:Mem}{b:BlkL}(hg:m.b.get b.i=some b.blk)(h:∀ v ∈ b.l,eq2 v v=true)(hl:Nat.blt b.l.length 1000000=true):blkIs m b=true:=by
 unfold blkIs;rw[hg];show(Nat.beq b.l.length b.l.length && Nat.beq b.e b.e && Nat.beq b.z b.z && Nat.blt b.l.length 1000000 && cellsAre (tOf b.l) 0 b.l)=true;rw[Nat.beq_refl,Nat.beq_refl,Nat.beq_refl,hl,ykr h b.l 0 (List.drop_zero ..)];rfl
theorem yqw:∀ {l:List BlkL} {t:T ABlk} {i:Nat},(∀ b ∈ l,b.i ≠ i)->(blksT t l).get i=t.get i
 | [],_,_,_=>rfl
 | b :: l,t,i,h=>by
  unfold blksT;rw[T.strict_eq,yqw fun c hc=>h c (List.mem_cons_of_mem _ hc),T.set_at,if_neg (fun e=>h b List.mem_cons_self e.symm)]
theorem ypn:∀ {l:List BlkL} {t:T ABlk},yfi (l.map (·.i))=true -> ∀ b ∈ l,(blksT t l).get b.i=some b.blk
 | [],_,_,b,hb=>by cases hb
 | c :: l,t,h,b,hb=>by
  have h:(!(l.map (·.i)).elem c.i && yfi (l.map (·.i)))=true:=h;rw[Bool.and_eq_true,Bool.not_eq_true']at h;unfold blksT;rw[T.strict_eq];rcases List.mem_cons.1 hb with e | hb
  ·subst e;rw[yqw fun d hd e=>?_,T.set_at,if_pos rfl];have:(l.map (·.i)).elem b.i=true:=List.elem_eq_true_of_mem (List.mem_map.2 ⟨d,hd,e⟩);rw[this]at h;cases h.1
  ·exact ypn h.2 b hb
theorem ylu:∀ {l:List Nat},l.Nodup->yfi l=true
 | [],_=>rfl
 | x :: l,h=>by
  rw[List.nodup_cons]at h;show(!(l.elem x) && yfi l)=true
  have:l.elem x=false:=by
   cases hq:l.elem x with
   | false=>rfl
   | true=>exact absurd (by simpa using hq) h.1
  rw[this,ylu h.2];rfl
theorem ywi:∀ {l:List Nat},yfi l=true->l.Nodup
 | [],_=>List.nodup_nil
 | x :: l,h=>by
  have h:(!(l.elem x) && yfi l)=true:=h;rw[Bool.and_eq_true,Bool.not_eq_true']at h;rw[List.nodup_cons];refine⟨fun hm=>?_,ywi h.2⟩;have:l.elem x=true:=by simpa using hm
  rw[this]at h;cases h.1
theorem ybfv{d:Nat}:∀ {l:List BlkL} {k:List Nat},(l.map (·.i)).Nodup->l.length=k.length->l.map (fun b=>ywa l k d b.i)=k
 | [],[],_,_=>rfl
 | b :: l,t :: k,hn,hl=>by
  rw[List.map_cons,List.nodup_cons]at hn;have ih:=ybfv (d:=d) hn.2 (by simpa using hl)
  rw[List.map_cons];have e1:ywa (b :: l) (t :: k) d b.i=t:=by unfold ywa;rw[Nat.beq_refl];rfl
  rw[e1];congr 1;refine Eq.trans (List.map_congr_left fun c hc=>?_) ih;show(bif Nat.beq b.i c.i then t else ywa l k d c.i)=_
  have:Nat.beq b.i c.i=false:=by
   cases hq:Nat.beq b.i c.i with
   | false=>rfl
   | true=>exact absurd (List.mem_map.2 ⟨c,hc,(Nat.eq_of_beq_eq_true hq).symm⟩) hn.1
  rw[this];rfl
 | [],_ :: _,_,h=>by cases h
 | _ :: _,[],_,h=>by cases h
def Fact.still(f:Fact):Bool:=Nat.ble f.next0 f.low && f.args.all yje && ybtf f.v && f.pre.all (fun b=>Nat.blt b.i f.next0 && reflB b) && yfi (f.pre.map (·.i)) && f.post.all (fun b=>Nat.ble f.next0 b.i && Nat.blt b.i f.next1 && reflB b) && yfi (f.post.map (·.i)) && Nat.ble f.next0 f.next1
theorem ycfd{a b:Nat}(h:Nat.blt a b=true):a<b:=Nat.lt_of_lt_of_le (Nat.lt_succ_self _) (Nat.le_of_ble_eq_true h)
theorem ybhd{a b:Nat}(h:a<b):Nat.blt a b=true:=Nat.ble_eq_true_of_le h
theorem ykj{f:Fact}(h:f.still=true):f.next0<=f.low/\(f.args.all yje=true/\ybtf f.v=true)/\(∀ b ∈ f.pre,b.i<f.next0/\reflB b=true)/\(f.pre.map (·.i)).Nodup/\(∀ b ∈ f.post,f.next0<=b.i/\b.i<f.next1/\reflB b=true)/\(f.post.map (·.i)).Nodup/\f.next0<=f.next1:=by
 unfold Fact.still at h;simp only[Bool.and_eq_true]at h;obtain⟨⟨⟨⟨⟨⟨⟨h1,h2⟩,h3⟩,h4⟩,h5⟩,h6⟩,h7⟩,h8⟩:=h;refine⟨Nat.le_of_ble_eq_true h1,⟨h2,h3⟩,fun b hb=>?_,ywi h5,fun b hb=>?_,ywi h7,Nat.le_of_ble_eq_true h8⟩
 ·have:=List.all_eq_true.1 h4 b hb;rw[Bool.and_eq_true]at this;exact⟨ycfd this.1,this.2⟩
 ·have:=List.all_eq_true.1 h6 b hb;simp only[Bool.and_eq_true]at this;exact⟨Nat.le_of_ble_eq_true this.1.1,ycfd this.1.2,this.2⟩
theorem ybpg{f:Fact}{tgt:List Nat}{n0:Nat}(hp:∀ b ∈ f.pre,b.i<f.next0/\reflB b=true)(hn:(f.pre.map (·.i)).Nodup)(hl:f.pre.length=tgt.length):f.pre.map (fun b=>f.rho tgt n0 b.i)=tgt:=by
 refine Eq.trans (List.map_congr_left fun b hb=>?_) (ybfv (d:=Nat.add n0 (Nat.sub f.next1 f.next0)) hn hl);unfold Fact.rho;have h1:=(hp b hb).1
 have:(Nat.ble f.next0 b.i && Nat.blt b.i f.next1)=false:=by
  rw[Bool.and_eq_false_iff];left
  cases hq:Nat.ble f.next0 b.i with
  | false=>rfl
  | true=>have:=Nat.le_of_ble_eq_true hq;omega
 rw[this];rfl
theorem ybff{f:Fact}{tgt:List Nat}{n0 i:Nat}(h1:f.next0<=i)(h2:i<f.next1):f.rho tgt n0 i=i - f.next0+n0:=by
 unfold Fact.rho;rw[Bool.cond_eq_ite,if_pos (by rw[Nat.ble_eq_true_of_le h1,ybhd h2];rfl)]
 rfl
theorem yum{P:Program}{f:Fact}{tgt:List Nat}{n0:Nat}(hok:yff P f)(hs:f.still=true)(hl:f.pre.length=tgt.length)(hn:tgt.Nodup)(hlt:∀ t ∈ tgt,t<n0):yff P (f.move tgt n0):=by
 refine yblu hok ?_;obtain⟨s1,⟨s2,s3⟩,s4,s5,s6,s7,s8⟩:=ykj hs
 have hpi:(f.move tgt n0).pre.map (·.i)=tgt:=by
  show(f.pre.map (BlkL.ren (f.rho tgt n0))).map (·.i)=tgt;rw[List.map_map];exact Eq.trans (List.map_congr_left fun b hb=>b.yex) (ybpg (n0:=n0) s4 s5 hl)
 have hqi:yfi ((f.move tgt n0).post.map (·.i))=true:=by
  refine ylu ?_;show((f.post.map (BlkL.ren (f.rho tgt n0))).map (·.i)).Nodup
  have e:(f.post.map (BlkL.ren (f.rho tgt n0))).map (·.i)=(f.post.map (·.i)).map (fun i=>i - f.next0+n0):=by
   rw[List.map_map,List.map_map];refine List.map_congr_left fun b hb=>?_;show(b.ren (f.rho tgt n0)).i=b.i - f.next0+n0;rw[b.yex,ybff (s6 b hb).1 (s6 b hb).2.1]
  rw[e];unfold List.Nodup at s7 ⊢;rw[List.pairwise_map];refine List.Pairwise.imp_of_mem (fun {x y} hx hy h=>?_) s7;obtain⟨bx,hbx,rfl⟩:=List.mem_map.1 hx;obtain⟨by_,hby,rfl⟩:=List.mem_map.1 hy;have:=(s6 bx hbx).1;have:=(s6 by_ hby).1;omega
 have hpre:yfi ((f.move tgt n0).pre.map (·.i))=true:=by rw[hpi];exact ylu hn
 unfold Fact.moves;simp only[Bool.and_eq_true];refine⟨⟨⟨⟨⟨⟨⟨⟨Nat.ble_eq_true_of_le s1,s2⟩,s3⟩,?_⟩,?_⟩,hpre⟩,?_⟩,?_⟩,Nat.ble_eq_true_of_le s8⟩
 ·refine List.all_eq_true.2 fun b hb=>?_;have:=(s4 b hb).2;unfold reflB at this;rw[Bool.and_eq_true]at this;rw[ybhd (s4 b hb).1,Bool.true_and];exact List.all_eq_true.2 fun v hv=>by have:=List.all_eq_true.1 this.1 v hv;rw[Bool.and_eq_true]at this;exact this.2
 ·refine List.all_eq_true.2 fun b hb=>?_;have:=(s6 b hb).2.2;unfold reflB at this;rw[Bool.and_eq_true]at this;rw[ybhd (s6 b hb).2.1,Bool.true_and];exact List.all_eq_true.2 fun v hv=>by have:=List.all_eq_true.1 this.1 v hv;rw[Bool.and_eq_true]at this;exact this.2
 ·refine List.all_eq_true.2 fun b' hb'=>?_;obtain⟨b,hb,rfl⟩:=List.mem_map.1 hb';have h2:=(s4 b hb).2;have h3:(b.ren (f.rho tgt n0)).i ∈ (f.move tgt n0).pre.map (·.i):=List.mem_map.2 ⟨_,hb',rfl⟩;rw[hpi]at h3;rw[ybhd (hlt _ h3),Bool.true_and];refine ymj (ypn hpre _ hb') (yry h2) ?_;show Nat.blt (b.l.map _).length 1000000=true;rw[List.length_map];unfold reflB at h2;rw[Bool.and_eq_true]at h2
  exact h2.2
 ·refine List.all_eq_true.2 fun b' hb'=>?_;obtain⟨b,hb,rfl⟩:=List.mem_map.1 hb';have h2:=(s6 b hb).2.2;refine ymj (ypn hqi _ hb') (yry h2) ?_;show Nat.blt (b.l.map _).length 1000000=true;rw[List.length_map];unfold reflB at h2;rw[Bool.and_eq_true]at h2;exact h2.2
end Ev
end Go.Proofs.YtiejahgklcjhkaaGreatDoor

namespace Go.Proofs.YtiejahgklcjhkaaGreatDoor
namespace Sh
open Go Ev

def Lies(B:List BlkL)(v:Value)(F:AM)(u:Value):Prop :=
 ∃ ρ:Nat->Nat,(∀ b ∈ B,∀ c ∈ B,ρ b.i=ρ c.i->b.i=c.i)/\(∀ b ∈ B,F (ρ b.i)=some (b.ren ρ).blk)/\u=ren1 ρ v
theorem Lies.mono{B:List BlkL}{v:Value}(F G:AM)(u:Value)(h:Le F G)(k:Lies B v F u):Lies B v G u:=by
 obtain⟨ρ,h1,h2,h3⟩:=k;exact⟨ρ,h1,fun b hb=>h _ _ (h2 b hb),h3⟩

def ydgu(B:List BlkL)(j:Nat):Option BlkL:=B.find? fun b=>Nat.beq b.i j
def ybwr(p:Nat->Bool):Nat->Bool
 | 0=>true
 | n+1=>p n && ybwr p n
theorem ybgw{p:Nat->Bool}:∀ {n:Nat},ybwr p n=true -> ∀ k,k<n->p k=true
 | 0,_,k,h=>absurd h (Nat.not_lt_zero k)
 | n+1,h,k,hk=>by
  have h:(p n && ybwr p n)=true:=h;rw[Bool.and_eq_true]at h
  by_cases q:k=n
  ·rw[q];exact h.1
  ·exact ybgw h.2 k (by omega)
def ybbv(B:List BlkL)(z n:Nat)(row:Nat->List Value->Bool):Value->Bool
 | .slice (some a) m _=>a.spot.isNone && Nat.beq m n && (match ydgu B a.block with
  | some b=>Nat.beq b.z z && Nat.ble (a.off+n * z) b.l.length && ybwr (fun k=>row k ((b.l.drop (a.off+k * z)).take z)) n
  | none=>false)
 | .slice none 0 0=>Nat.beq n 0
 | _=>false
theorem yqg {B:List BlkL} {F:AM} {ρ:Nat->Nat} {z n:Nat} {row:Nat->List Value->Bool} {v:Value} {g:Nat->List SV} (hF:∀ b ∈ B,F (ρ b.i)=some (b.ren ρ).blk) (h:ybbv B z n row v=true)
  (hr:∀ k L,k<n->row k L=true->L.length=z/\RVL F om0 (g k) (L.map (ren2 ρ))/\(g k).all one1=true):RV F om0 (.sl z n g) (ren1 ρ v):=by
 unfold ybbv at h;split at h
 ·rename_i a m c
  simp only[Bool.and_eq_true]at h;obtain⟨⟨h1,h2⟩,h3⟩:=h;split at h3
  ·rename_i b hb
   simp only[Bool.and_eq_true]at h3;obtain⟨⟨h3,h4⟩,h5⟩:=h3;have hm:m=n:=Nat.eq_of_beq_eq_true h2;have hz:=Nat.eq_of_beq_eq_true h3;have h4:=Nat.le_of_ble_eq_true h4;have hmem:=List.mem_of_find?_eq_some hb;have hi:b.i=a.block:=Nat.eq_of_beq_eq_true (List.find?_some (p:=fun b:BlkL=>Nat.beq b.i a.block) hb);have h6:=hF b hmem;rw[hi]at h6;show RV F om0 _ (.slice (some (renA ρ a)) m c);rw[yih];subst hm
   obtain⟨A,o,sp⟩:=a;have hsp:sp=none:=by simpa using h1
   subst hsp;have h6:F (ρ A)=some (.cells (tOf (b.l.map (ren2 ρ))) (b.l.map (ren2 ρ)).length b.e b.z):=h6;have hrow:∀ k,k<m->_:=fun k hk=>hr k _ hk (ybgw h5 k hk);refine .sl (L:=fun k=>((b.l.drop (o+k * z)).take z).map (ren2 ρ)) h6 (.inl hz) (by rw[List.length_map];exact h4) ?_ ?_ (fun k hk=>(hrow k hk).2.1) (fun k hk=>(hrow k hk).2.2)
   ·intro k hk;rw[List.length_map];exact(hrow k hk).1
   ·intro k hk j hj;rw[ybv];simp only[List.getElem?_map,List.getElem?_take,List.getElem?_drop,hj,if_true]
  ·cases h3
 ·have h:Nat.beq n 0=true:=h;have h0:=Nat.eq_of_beq_eq_true h;subst h0;exact .sl0 (.inl rfl)
 ·cases h
def isI(v:Value)(n:Int):Bool:=match v with
 | .int .i64 m=>eqInt m n
 | _=>false
def isS(v:Value)(s:ByteArray):Bool:=match v with
 | .string t=>eqBytes t.data.toList s.data.toList
 | _=>false
theorem yoh{F:AM}{ρ:Nat->Nat}{v:Value}{n:Int}(h:isI v n=true):RV F om0 (.i .i64 n) (ren2 ρ v):=by
 unfold isI at h;split at h
 ·rw[yqb h];exact .i
 ·cases h
theorem ycir{F:AM}{ρ:Nat->Nat}{v:Value}{s:ByteArray}(h:isS v s=true):RV F om0 (.a (.string s)) (ren2 ρ v):=by
 unfold isS at h;split at h
 ·rename_i t
  have e:=yne h
  have:t=s:=by
   cases t;cases s
   congr 1;exact Array.toList_inj.1 e
  rw[this];exact .a rfl
 ·cases h
def ydbu(ls:List (Int × Int))(k:Nat):List Value->Bool
 | [x,y]=>isI x (ls.getD k (0,0)).1 && isI y (ls.getD k (0,0)).2
 | _=>false
def ycgl(l:List VarR)(k:Nat):List Value->Bool
 | [s,a,b,c,d,e]=>isS s (l.getD k default).name && isI a (l.getD k default).kind && isI b (l.getD k default).lo && isI c (l.getD k default).hi && isI d (l.getD k default).perNode && isI e (l.getD k default).perID
 | _=>false
def ywt(B:List BlkL)(ls:List (Int × Int))(v:Value):Bool:=ybbv B 2 ls.length (ydbu ls) v
def isSl:Value->Bool
 | .slice _ _ _=>true
 | _=>false
def ybpj(B:List BlkL)(l:List SetR)(k:Nat):List Value->Bool
 | [a,v]=>isI a (l.getD k default).var && isSl v && ywt B (l.getD k default).val v
 | _=>false
def ybnt(B:List BlkL)(l:List RuleR)(k:Nat):List Value->Bool
 | [s,v,w]=>isS s (l.getD k default).name && isSl v && ywt B (l.getD k default).guard v && isSl w && ybbv B 2 (l.getD k default).sets.length (ybpj B (l.getD k default).sets) w
 | _=>false
def ybrz(B:List BlkL)(v:Value)(l:List VarR):Bool:=ybbv B 6 l.length (ycgl l) v
def ybfe(B:List BlkL)(v:Value)(l:List RuleR):Bool:=ybbv B 3 l.length (ybnt B l) v
section
variable {B:List BlkL} {F:AM} {ρ:Nat->Nat}
theorem ybdn{v:Value}(h:isSl v=true):ren2 ρ v=ren1 ρ v:=by
 unfold isSl at h;split at h
 ·rfl
 ·cases h
theorem yro(hF:∀ b ∈ B,F (ρ b.i)=some (b.ren ρ).blk){ls:List (Int × Int)}{v:Value}(h:ywt B ls v=true):RV F om0 (yu ls) (ren1 ρ v):=by
 refine yqg hF h fun k L hk hq=>?_;unfold ydbu at hq;split at hq
 ·simp only[Bool.and_eq_true]at hq;exact⟨rfl,.cons (yoh hq.1) (.cons (yoh hq.2) .nil),rfl⟩
 ·cases hq
theorem ybkc(hF:∀ b ∈ B,F (ρ b.i)=some (b.ren ρ).blk){l:List VarR}{v:Value}(h:ybrz B v l=true):RV F om0 (ycn l) (ren1 ρ v):=by
 refine yqg hF h fun k L hk hq=>?_;unfold ycgl at hq;split at hq
 ·simp only[Bool.and_eq_true]at hq;obtain⟨⟨⟨⟨⟨h1,h2⟩,h3⟩,h4⟩,h5⟩,h6⟩:=hq;exact⟨rfl,.cons (ycir h1) (.cons (yoh h2) (.cons (yoh h3) (.cons (yoh h4) (.cons (yoh h5) (.cons (yoh h6) .nil))))),rfl⟩
 ·cases hq
theorem ybjd(hF:∀ b ∈ B,F (ρ b.i)=some (b.ren ρ).blk){l:List SetR}{v:Value}(h:ybbv B 2 l.length (ybpj B l) v=true):RV F om0 (ygg l) (ren1 ρ v):=by
 refine yqg hF h fun k L hk hq=>?_;unfold ybpj at hq;split at hq
 ·simp only[Bool.and_eq_true]at hq;obtain⟨⟨h1,h2⟩,h3⟩:=hq;refine⟨rfl,.cons (yoh h1) (.cons ?_ .nil),rfl⟩;rw[ybdn h2];exact yro hF h3
 ·cases hq
theorem ybcy(hF:∀ b ∈ B,F (ρ b.i)=some (b.ren ρ).blk){l:List RuleR}{v:Value}(h:ybfe B v l=true):RV F om0 (yca l) (ren1 ρ v):=by
 refine yqg hF h fun k L hk hq=>?_;unfold ybnt at hq;split at hq
 ·simp only[Bool.and_eq_true]at hq;obtain⟨⟨⟨⟨h1,h2⟩,h3⟩,h4⟩,h5⟩:=hq;refine⟨rfl,.cons (ycir h1) (.cons ?_ (.cons ?_ .nil)),rfl⟩
  ·rw[ybdn h2];exact yro hF h3
  ·rw[ybdn h4];exact ybjd hF h5
 ·cases hq
end
structure LaidP(fp:Fact)(t:ByteArray)(p:ProgR)(vv vr:Value)(Bv Br:List BlkL):Prop where
 args:fp.args = [.string t]
 pre:fp.pre = []
 v:fp.v = .agg #[.string p.name,vv,vr]
 still:fp.still=true
 bv:∀ b ∈ Bv,b ∈ fp.post
 br:∀ b ∈ Br,b ∈ fp.post
 vars:ybrz Bv vv p.vars=true
 rules:ybfe Br vr p.rules=true
theorem ybwv{P:Program}{fp:Fact}{t:ByteArray}{p:ProgR}{vv vr:Value}{Bv Br:List BlkL}(hok:yff P fp)(h:LaidP fp t p vv vr Bv Br):Returns P fp.g [.a (.string t)] (.ag (ycc (Lies Bv vv) (Lies Br vr) p)):=by
 intro G m us hwf hle hus
 have hu:us = [.string t]:=by
  cases hus with
  | cons a b=>cases a with | a _=>cases b with | nil=>rfl
 subst hu;obtain⟨s1,⟨s2,s3⟩,s4,s5,s6,s7,s8⟩:=ykj h.still;have hmv:=yum (tgt:=[]) (n0:=m.next) hok h.still (by rw[h.pre];rfl) List.nodup_nil (fun t ht=>by cases ht)
 obtain⟨ρ,hρ⟩:∃ ρ,fp.rho [] m.next=ρ:=⟨_,rfl⟩
 have hpost:(fp.move [] m.next).post=fp.post.map (BlkL.ren ρ):=by rw[<- hρ];rfl
 have hv:(fp.move [] m.next).v = .agg #[.string p.name,ren1 ρ vv,ren1 ρ vr]:=by
  show renV (fp.rho [] m.next) fp.v=_
  rw[hρ,h.v];rfl
 have hpre:(fp.move [] m.next).pre = []:=by
  show fp.pre.map _ = [];rw[h.pre];rfl
 have hfit:(fp.move [] m.next).fits fp.g [.string t] m=true:=by
  unfold Fact.fits;rw[hpre];show(Nat.beq fp.g fp.g && Nat.beq m.next m.next && eqL2 (fp.args.map (ren2 _)) [.string t] && true)=true
  rw[Nat.beq_refl,Nat.beq_refl,h.args];show(true && true && (eqBytes t.data.toList t.data.toList && true) && true)=true;rw[yoz];rfl
 have hri:∀ b ∈ fp.post,ρ b.i=b.i - fp.next0+m.next:=fun b hb=>by rw[<- hρ];exact ybff (s6 b hb).1 (s6 b hb).2.1
 have hnd:yfi ((fp.post.map (BlkL.ren ρ)).map (·.i))=true:=by
  refine ylu ?_
  have e:(fp.post.map (BlkL.ren ρ)).map (·.i)=(fp.post.map (·.i)).map (fun i=>i - fp.next0+m.next):=by
   rw[List.map_map,List.map_map];refine List.map_congr_left fun b hb=>?_;show(b.ren ρ).i=_;rw[b.yex,hri b hb];rfl
  rw[e];unfold List.Nodup at s7 ⊢;rw[List.pairwise_map];refine List.Pairwise.imp_of_mem (fun {x y} hx hy h=>?_) s7;obtain⟨bx,hbx,rfl⟩:=List.mem_map.1 hx;obtain⟨by_,hby,rfl⟩:=List.mem_map.1 hy;have:=(s6 bx hbx).1;have:=(s6 by_ hby).1;omega
 have hs:=ywl hmv hfit;unfold Fact.out at hs;rw[hv,hpre,hpost]at hs;refine⟨_,_,_,hs,Nat.le_refl _,?_,rfl,?_⟩
 ·intro i b hb;show(blksT m.b (fp.post.map (BlkL.ren ρ))).get i=some b;rw[yqw fun c hc=>?_]
  ·exact hb
  ·obtain⟨c,hc',rfl⟩:=List.mem_map.1 hc;have:=hwf i b hb;rw[c.yex,hri c hc'];omega
 ·have hF:∀ b ∈ fp.post,frsh m.next ⟨(fp.move [] m.next).next1,blksT m.b (fp.post.map (BlkL.ren ρ)),(fp.move [] m.next).low⟩ G (ρ b.i)=some (b.ren ρ).blk:=fun b hb=>by
   unfold frsh;rw[if_pos (by rw[hri b hb];omega)]
   have:=ypn (t:=m.b) hnd _ (List.mem_map.2 ⟨b,hb,rfl⟩);rw[b.yex]at this;exact this
  have hinj:∀ b ∈ fp.post,∀ c ∈ fp.post,ρ b.i=ρ c.i->b.i=c.i:=fun b hb c hc e=>by
   rw[hri b hb,hri c hc]at e;have:=(s6 b hb).1;have:=(s6 c hc).1;omega
  refine .ag (.cons (.a rfl) (.cons (.ex ?_ (fun A B w=>Lies.mono A B w) ?_) (.cons (.ex ?_ (fun A B w=>Lies.mono A B w) ?_) .nil)))
  ·exact⟨ρ,fun b hb c hc=>hinj b (h.bv b hb) c (h.bv c hc),fun b hb=>hF b (h.bv b hb),rfl⟩
  ·exact ybkc (fun b hb=>hF b (h.bv b hb)) h.vars
  ·exact⟨ρ,fun b hb c hc=>hinj b (h.br b hb) c (h.br c hc),fun b hb=>hF b (h.br b hb),rfl⟩
  ·exact ybcy (fun b hb=>hF b (h.br b hb)) h.rules

def inB(B:List BlkL):Value->Bool
 | .slice (some a) _ _=>(B.map (·.i)).elem a.block
 | .pointer (some a)=>(B.map (·.i)).elem a.block
 | .agg _=>false
 | .func _ _ _=>false
 | _=>true
theorem ygo{B:List BlkL}{ρ σ:Nat->Nat}(h:∀ b ∈ B,ρ b.i=σ b.i){v:Value}(hv:inB B v=true):ren1 ρ v=ren1 σ v:=by
 have hk:∀ j,(B.map (·.i)).elem j=true->ρ j=σ j:=fun j hj=>by
  have:j ∈ B.map (·.i):=by simpa using hj
  obtain⟨b,hb,rfl⟩:=List.mem_map.1 this;exact h b hb
 cases v with
 | slice p n c=>cases p with
  | none=>rfl
  | some a =>
   show Value.slice (some (renA ρ a)) n c = .slice (some (renA σ a)) n c;rw[yih,yih,hk _ hv]
 | pointer p=>cases p with
  | none=>rfl
  | some a =>
   show Value.pointer (some (renA ρ a)) = .pointer (some (renA σ a));rw[yih,yih,hk _ hv]
 | agg a=>cases hv
 | func f a c=>cases hv
 | _=>rfl
theorem ybgi{B:List BlkL}{τ:Nat->Nat}{v:Value}(hv:inB B v=true):ren2 τ v=ren1 τ v:=by
 cases v with
 | agg a=>cases hv
 | func f a c=>cases hv
 | _=>rfl
theorem ybjy{B:List BlkL}{ρ σ:Nat->Nat}(h:∀ b ∈ B,ρ b.i=σ b.i){v:Value}(hv:inB B v=true):ren2 ρ v=ren2 σ v:=by
 rw[ybgi hv,ybgi hv];exact ygo h hv
def ybef(B:List BlkL):Bool:=B.all fun b=>b.l.all (inB B)
theorem ybab{B:List BlkL}{ρ σ:Nat->Nat}(hc:ybef B=true)(h:∀ b ∈ B,ρ b.i=σ b.i){b:BlkL}(hb:b ∈ B):b.ren ρ=b.ren σ:=by
 have h1:=List.all_eq_true.1 (List.all_eq_true.1 hc b hb)
 have e:∀ τ:Nat->Nat,b.ren τ=⟨τ b.i,b.e,b.z,b.l.map (ren2 τ)⟩:=fun τ=>by
  unfold BlkL.ren;rw[forceN_eq]
 rw[e,e,h b hb];congr 1;exact List.map_congr_left fun v hv=>ybjy h (h1 v hv)
theorem ytd{low:Nat}:∀ {l:List BlkL} {t:T ABlk},(∀ b ∈ l,b.i<low)->dropT t low l=t
 | [],_,_=>rfl
 | b :: l,t,h=>by
  have hb:=h b List.mem_cons_self;unfold dropT
  have e:Nat.ble low b.i=false:=by
   cases q:Nat.ble low b.i with
   | false=>rfl
   | true=>have:=Nat.le_of_ble_eq_true q;omega
  rw[e,iteB_eq,if_neg (by simp)]
  exact ytd fun c hc=>h c (List.mem_cons_of_mem _ hc)
structure GoodV(fv:Fact)(p:ProgR)(vv vr:Value)(Bv Br:List BlkL):Prop where
 args:fv.args = [.agg #[.string p.name,vv,vr]]
 pre:∀ b ∈ fv.pre,b ∈ Bv\/b ∈ Br
 bv:∀ b ∈ Bv,b ∈ fv.pre
 br:∀ b ∈ Br,b ∈ fv.pre
 v:fv.v = .bool true
 post:fv.post = []
 still:fv.still=true
 apart:(Bv.all fun b=>Br.all fun c=>!(Nat.beq b.e c.e) && !(Nat.beq b.i c.i))=true
 cv:ybef Bv=true
 cr:ybef Br=true
 iv:inB Bv vv=true
 ir:inB Br vr=true
 refl:eq2 (.agg #[.string p.name,vv,vr]) (.agg #[.string p.name,vv,vr])=true
theorem ybxu{P:Program}{fv:Fact}{p:ProgR}{vv vr:Value}{Bv Br:List BlkL}(hok:yff P fv)(h:GoodV fv p vv vr Bv Br):Returns P fv.g [.ag (ycc (Lies Bv vv) (Lies Br vr) p)] (.b true):=by
 intro G m us hwf hle hus
 obtain⟨ρ1,ρ2,hu,a1,a2,a3,a4⟩:∃ ρ1 ρ2:Nat->Nat,us = [.agg #[.string p.name,ren1 ρ1 vv,ren1 ρ2 vr]]/\(∀ b ∈ Bv,∀ c ∈ Bv,ρ1 b.i=ρ1 c.i->b.i=c.i)/\(∀ b ∈ Bv,G (ρ1 b.i)=some (b.ren ρ1).blk) /\
   (∀ b ∈ Br,∀ c ∈ Br,ρ2 b.i=ρ2 c.i->b.i=c.i) /\ ∀ b ∈ Br,G (ρ2 b.i)=some (b.ren ρ2).blk:=by
  cases hus with
  | cons a b =>
   cases b
   cases a with
   | ag hl =>
    cases hl with
    | cons x1 hl =>
     cases x1
     cases hl with
     | cons x2 hl =>
      cases x2 with
      | ex q2 _ _ =>
       cases hl with
       | cons x3 hl =>
        cases x3 with
        | ex q3 _ _ =>
         cases hl
         obtain⟨ρ1,b1,b2,rfl⟩:=q2;obtain⟨ρ2,b3,b4,rfl⟩:=q3;exact⟨ρ1,ρ2,rfl,b1,b2,b3,b4⟩
 subst hu;obtain⟨s1,⟨s2,s3⟩,s4,s5,s6,s7,s8⟩:=ykj h.still
 have hap:∀ b ∈ Bv,∀ c ∈ Br,b.e ≠ c.e/\b.i ≠ c.i:=fun b hb c hc=>by
  have:=List.all_eq_true.1 (List.all_eq_true.1 h.apart b hb) c hc;simp only[Bool.and_eq_true,Bool.not_eq_true']at this;exact⟨fun e=>(by rw[e,Nat.beq_refl]at this;exact absurd this.1 (by decide)),fun e=>(by rw[e,Nat.beq_refl]at this;exact absurd this.2 (by decide))⟩
 let σ:Nat->Nat:=fun i=>if (Bv.map (·.i)).elem i then ρ1 i else ρ2 i
 have hcross:∀ b ∈ Bv,∀ c ∈ Br,ρ1 b.i ≠ ρ2 c.i:=fun b hb c hc e=>by
  have e1:=a2 b hb;have e2:=a4 c hc;rw[e,e2]at e1
  injection e1 with e1
  unfold BlkL.blk at e1
  injection e1 with _ _ e3 _
  exact(hap b hb c hc).1 e3.symm
 have hG:∀ i b,G i=some b->i<m.next:=fun i b hb=>hwf i b (hle i b hb)
 have sv:∀ b ∈ Bv,σ b.i=ρ1 b.i:=fun b hb=>if_pos (by simpa using⟨b,hb,rfl⟩)
 have sr:∀ b ∈ Br,σ b.i=ρ2 b.i:=fun b hb=>by
  refine if_neg fun q=>?_;have:b.i ∈ Bv.map (·.i):=by simpa using q
  obtain⟨d,hd,hdi⟩:=List.mem_map.1 this;exact(hap d hd b hb).2 hdi
 have tgtLt:∀ b ∈ fv.pre,σ b.i<m.next:=fun b hb=>by
  rcases h.pre b hb with q | q
  ·rw[sv b q];exact hG _ _ (a2 b q)
  ·rw[sr b q];exact hG _ _ (a4 b q)
 have sinj:∀ b ∈ fv.pre,∀ c ∈ fv.pre,σ b.i=σ c.i->b.i=c.i:=fun b hb c hc e=>by
  rcases h.pre b hb with q | q<;>rcases h.pre c hc with q' | q'
  ·rw[sv b q,sv c q']at e;exact a1 b q c q' e
  ·rw[sv b q,sr c q']at e;exact absurd e (hcross b q c q')
  ·rw[sr b q,sv c q']at e;exact absurd e.symm (hcross c q' b q)
  ·rw[sr b q,sr c q']at e;exact a3 b q c q' e
 obtain⟨tgt,htgt⟩:∃ t,fv.pre.map (fun b=>σ b.i)=t:=⟨_,rfl⟩
 have tlt:∀ t ∈ tgt,t<m.next:=fun t ht=>by
  rw[<- htgt]at ht;obtain⟨b,hb,rfl⟩:=List.mem_map.1 ht;exact tgtLt b hb
 have tnd:tgt.Nodup:=by
  rw[<- htgt];have s5:=s5;unfold List.Nodup at s5 ⊢;rw[List.pairwise_map]at s5 ⊢;exact List.Pairwise.imp_of_mem (fun {x y} hx hy h e=>h (sinj x hx y hy e)) s5
 have tlen:fv.pre.length=tgt.length:=by rw[<- htgt,List.length_map]
 have hmv:=yum (n0:=m.next) hok h.still tlen tnd tlt
 have hrho:=ybpg (n0:=m.next) s4 s5 tlen
 obtain⟨ρ,hρ⟩:∃ ρ,fv.rho tgt m.next=ρ:=⟨_,rfl⟩
 rw[hρ,<- htgt]at hrho;have hri:∀ b ∈ fv.pre,ρ b.i=σ b.i:=List.map_inj_left.1 hrho;have hv1:∀ b ∈ Bv,ρ b.i=ρ1 b.i:=fun b hb=>by rw[hri b (h.bv b hb),sv b hb]
 have hr1:∀ b ∈ Br,ρ b.i=ρ2 b.i:=fun b hb=>by rw[hri b (h.br b hb),sr b hb]
 have hargs:(fv.move tgt m.next).args = [.agg #[.string p.name,ren1 ρ1 vv,ren1 ρ2 vr]]:=by
  show fv.args.map (ren2 (fv.rho tgt m.next))=_
  rw[hρ,h.args,<- ygo hv1 h.iv,<- ygo hr1 h.ir];rfl
 have hself:eqL2 [.agg #[.string p.name,ren1 ρ1 vv,ren1 ρ2 vr]] [.agg #[.string p.name,ren1 ρ1 vv,ren1 ρ2 vr]]=true:=by
  have hf:yje (.agg #[.string p.name,vv,vr])=true:=by
   have:=s2;rw[h.args]at this
   simpa using this
  have e:=ybnq (ρ:=ρ) hf h.refl;rw[show ren2 ρ (.agg #[.string p.name,vv,vr]) = .agg #[.string p.name,ren1 ρ vv,ren1 ρ vr]from rfl,ygo hv1 h.iv,ygo hr1 h.ir]at e
  show(eq2 _ _ && true)=true;rw[e];rfl
 have hpre:∀ b ∈ fv.pre,m.b.get (ρ b.i)=some (b.ren ρ).blk:=fun b hb=>by
  rcases h.pre b hb with q | q
  ·rw[ybab h.cv hv1 q,hv1 b q];exact hle _ _ (a2 b q)
  ·rw[ybab h.cr hr1 q,hr1 b q];exact hle _ _ (a4 b q)
 have hp:(fv.move tgt m.next).pre=fv.pre.map (BlkL.ren ρ):=by rw[<- hρ];rfl
 have hfit:(fv.move tgt m.next).fits fv.g [.agg #[.string p.name,ren1 ρ1 vv,ren1 ρ2 vr]] m=true:=by
  unfold Fact.fits;rw[hargs,hself];show(Nat.beq fv.g fv.g && Nat.beq m.next m.next && true && (fv.move tgt m.next).pre.all (blkIs m))=true
  rw[Nat.beq_refl,Nat.beq_refl,hp];show List.all _ _=true;refine List.all_eq_true.2 fun b' hb'=>?_;obtain⟨b,hb,rfl⟩:=List.mem_map.1 hb';have h2:=(s4 b hb).2;refine ymj ?_ (yry h2) ?_
  ·rw[b.yex];exact hpre b hb
  ·show Nat.blt (b.l.map _).length 1000000=true;rw[List.length_map];unfold reflB at h2;rw[Bool.and_eq_true]at h2;exact h2.2
 have hs:=ywl hmv hfit;unfold Fact.out at hs
 have hv:(fv.move tgt m.next).v = .bool true:=by
  show renV (fv.rho tgt m.next) fv.v=_
  rw[h.v];rfl
 have hpost:(fv.move tgt m.next).post = []:=by
  show fv.post.map _ = [];rw[h.post];rfl
 rw[hv,hpost]at hs;refine⟨_,_,_,hs,Nat.le_refl _,?_,rfl,.b⟩;intro i b hb;show(dropT m.b m.next (fv.move tgt m.next).pre).get i=some b
 rw[ytd fun c hc=>?_]
 ·exact hb
 ·rw[hp]at hc;obtain⟨c,hc',rfl⟩:=List.mem_map.1 hc;rw[c.yex,hri c hc'];exact tgtLt c hc'
end Sh
end Go.Proofs.YtiejahgklcjhkaaGreatDoor

namespace Go.Proofs.YtiejahgklcjhkaaGreatDoor
namespace Sh
open Go Ev
set_option maxRecDepth 1000000
def KqP:ProgT:=ybe (by8 [99,111,108,111,117,114,105,110,103]) (by8 [99]) (by8 [102,105,120])
def Kqt:ByteArray:=ybhf
def Kqv:Value:=.slice (some ⟨228,0,none⟩) 1 CU
def Kqr:Value:=.slice (some ⟨321,0,none⟩) 1 CU
def KqB:List BlkL:=yte.post.take 1
def KqC:List BlkL:=yte.post.drop 1
theorem ygl:Returns Tryz.prog 37 [.a (.string Kqt)] (.ag (ycc (Lies KqB Kqv) (Lies KqC Kqr) KqP.raw)) :=
 ybwv (fp:=yte) (ybp.at_ ybyz 0 rfl) ⟨rfl,rfl,rfl,by kernel_rfl,fun _ h=>List.mem_of_mem_take h,fun _ h=>List.mem_of_mem_drop h,by kernel_rfl,by kernel_rfl⟩
theorem yczt:ybmn.pre=yte.post:=rfl
theorem yxf:Returns Tryz.prog 191 [.ag (ycc (Lies KqB Kqv) (Lies KqC Kqr) KqP.raw)] (.b true) :=
 ybxu (fv:=ybmn) (ybp.at_ ybyi 0 rfl) ⟨rfl,fun b h=>by
  rw[yczt,<- List.take_append_drop 1 yte.post]at h;exact List.mem_append.1 h,fun _ h=>List.mem_of_mem_take h,fun _ h=>List.mem_of_mem_drop h,rfl,rfl,by kernel_rfl,by kernel_rfl,by kernel_rfl,by kernel_rfl,by kernel_rfl,by kernel_rfl,by kernel_rfl⟩
theorem yrp:KqP.ok=true:=by kernel_rfl
end Sh
end Go.Proofs.YtiejahgklcjhkaaGreatDoor

namespace Go.Proofs.YtiejahgklcjhkaaGreatDoor
open Go.RowKit
theorem ydfh(x a:Nat)(hx:x<4294967296)(hx0:x ≠ 0)(hlow:x &&& (4294967296 - x)=a) :
  bits BinOp.and IntKind.u32 (x:Int) (-(x:Int) % 4294967296) * 125613361 % 4294967296 / 134217728=((a * 125613361 % 4294967296 / 134217728:Nat):Int):=by
 have e1:-(x:Int) % 4294967296=((4294967296 - x:Nat):Int):=by omega
 have e2:bits BinOp.and IntKind.u32 (x:Int) ((4294967296 - x:Nat):Int)=((x &&& (4294967296 - x):Nat):Int):=u32_and (a:=x) (b:=4294967296 - x) (by omega) (by omega)
 rw[e1,e2,hlow];omega
set_option maxHeartbeats 1000000 in
theorem ycus (x k idx:Nat) (w:World) (hx0:((x:Int) == 0)=false) (key:bits BinOp.and IntKind.u32 (x:Int) (-(x:Int) % 4294967296) * 125613361 % 4294967296 / 134217728=(idx:Int))
  (hi:idx<32) (hk:k<32) (hcell:w.cell? ⟨0,idx,none⟩=some (.int .u8 k)) :
  Calls Tryz.prog 190 #[.int .u32 x] w fun e w'=>e = .returned (.int .i64 k)/\w'=w:=by
 go_enter Tryz.func190,Tryz.ntmps190
 go_wp2_with (simp only[key])
 go_ret
 exact⟨rfl,rfl⟩
theorem ycsa(w:World):Calls Tryz.prog 190 #[.int .u32 0] w fun e w'=>e = .returned (.int .i64 32)/\w'=w:=by
 go_enter Tryz.func190,Tryz.ntmps190
 go_wp2
 go_ret
 exact⟨rfl,rfl⟩
theorem yczn{w:World}{x:Nat}(hx:x<2 ^ 32)(hw:∃ e fz,w.heap[0]? = some (.cells Ev.yyi.toArray e fz)) :
  Calls Tryz.prog 190 #[.int .u32 x] w fun e w'=>e = .returned (.int .i64 (Lib.ctz 32 x))/\w'=w:=by
 by_cases hx0:x=0
 ·subst hx0;exact ycsa w
 ·obtain⟨hlow,hk⟩:=Lib.lowest_bit 32 x hx0 hx;obtain⟨hi,htab⟩:=Lib.deBruijn32_at _ hk;obtain⟨e,fz,hw⟩:=hw;refine ycus x _ _ w (by simp;omega) (ydfh x _ hx hx0 hlow) hi hk ?_
  have keyN:∀ j,j<32->([0,1,28,2,29,14,24,3,30,22,20,15,25,17,4,8,31,27,13,23,21,19,16,7,26,12,18,6,11,5,10,9]:List Int)[j]? = some ((Lib.deBruijn32tab.getD j 0:Nat):Int):=by decide +kernel
  have key:∀ j,j<32->Ev.yyi[j]? = some (.int .u8 (Lib.deBruijn32tab.getD j 0:Nat)):=fun j hj=>by
   unfold Ev.yyi;rw[List.getElem?_map,keyN j hj];rfl
  rw[World.cell?,hw];have:=key _ hi;rw[htab]at this
  simpa using this
namespace Sh
open Ev
end Sh
end Go.Proofs.YtiejahgklcjhkaaGreatDoor

namespace Go.Proofs.YtiejahgklcjhkaaGreatDoor
namespace Ev
open Go Go.RowKit
theorem ybfn(v:Value):(T.sets .leaf 0 [v]).get 0=some v:=ybta (l:=[v]) (j:=0) (by simp)
noncomputable def ytl(x:Nat):ABlk:=.cells (T.sets .leaf 0 [.int .u32 x]) 1 40 0
def setAt(b x:Nat)(m:Mem):Prop:=∃ c,m.b.get b=some (.cells c 1 40 0)/\c.get 0=some (.int .u32 x)
section
variable {φ:Phi} {M:AM} {w:World} {m:Mem} {b x y:Nat}
theorem yvv(h:setAt b x m)(hR:Rel φ M w)(hs:Sub m M):∃ l cs,φ b=some l/\l.sz=0/\l.base+1<=l.size/\l.ob=none/\w.heap[l.blk]? = some (.cells cs 40 (0,0))/\cs.size=l.size/\cs[l.base]? = some (.int .u32 x):=by
 obtain⟨c,h1,h2⟩:=h;obtain⟨l,cs,e',fz,g1,g2,g3,g4,g5,g6,g7⟩:=hR.cellsAt (hs _ _ h1);obtain⟨q1,q2,q3⟩:=g4 (by decide)
 subst q1 q2;obtain⟨v',k1,k2⟩:=g7 0 _ (by omega) h2
 have e:=k2.eq_simple rfl;subst e;exact⟨l,cs.toArray,g1,g2,g3,q3,g5,by simpa using g6,by simpa using k1⟩
theorem ycsi(h:setAt b x m)(hR:Rel φ M w)(hs:Sub m M){l:Loc}(hl:φ b=some l) :
  Rel φ (upd M b (some (ytl y))) (w.setCell ⟨l.blk,l.base,none⟩ (.int .u32 y))/\WG φ M w φ (upd M b (some (ytl y))) (w.setCell ⟨l.blk,l.base,none⟩ (.int .u32 y)):=by
 obtain⟨l',cs,g1,g2,g3,g4,g5,g6,g7⟩:=yvv h hR hs;rw[hl]at g1;cases g1
 obtain⟨c,h1,_⟩:=h;rw[setCell_eq_setRow w l.blk l.base cs _ _ _ g5];refine hR.setRow (hs _ _ h1) hl ⟨g2,g3,(cs.setIfInBounds l.base (.int .u32 y)).toList,40,(0,0),⟨fun _=>⟨rfl,rfl,g4⟩,fun o ho=>(by rw[g4]at ho;cases ho)⟩,?_,by simpa using g6,fun j v hj hv=>?_⟩
 ·rw[Array.toArray_toList];exact setRow_heap w _ _ _ _ _ g5
 ·obtain rfl:j=0:=by omega
  rw[ybfn]at hv;cases hv
  refine⟨.int .u32 y,?_,.simple rfl⟩;have hlt:l.base<cs.size:=by omega
  simp[hlt]
end
noncomputable def yor(b y:Nat)(m:Mem):Mem:=m.app (.upd b (ytl y))
theorem ybkb(b y:Nat)(m:Mem)(i:Nat):(yor b y m).b.get i=if i=b then some (ytl y)else m.b.get i:=by
 unfold yor;rw[Sh.ybda];exact T.set_at _ _ _ _
noncomputable def ycju(b s:Nat):It where
 n:=(ybh s).length
 el:=fun k=>[.int .i64 ((ybh s).getD k 0:Nat)]
 pre:=fun k m=>setAt b (ych s k) m
 adv:=fun k m=>yor b (ych s (k+1)) m
 step:=fun k φ M w M' w'=>∃ l,φ b=some l/\M'=upd M b (some (ytl (ych s (k+1))))/\w'=w.setCell ⟨l.blk,l.base,none⟩ (.int .u32 (ych s (k+1):Nat))
theorem ycqr{a:Nat}(h0:a ≠ 0)(h:a<2 ^ 32):bits BinOp.and IntKind.u32 (a:Int) (IntKind.wrap .u32 ((a:Int) - 1))=((a &&& (a - 1):Nat):Int):=by
 have e:IntKind.wrap .u32 ((a:Int) - 1)=((a - 1:Nat):Int):=by
  have e1:(a:Int) - 1=((a - 1:Nat):Int):=by omega
  rw[e1];exact yiy (by omega)
 rw[e];exact u32_and (a:=a) (b:=a - 1) h (by omega)
set_option maxRecDepth 100000 in
set_option maxHeartbeats 2000000 in
theorem ybxk{b s:Nat}(hs32:s<2 ^ 32):ItOk Tryz.prog 189 [.pointer (some ⟨b,0,none⟩)] (ycju b s):=by
 refine⟨fun args w=>ybm ykz Tryz.func189 rfl args w,fun k m hk hw hp=>?_,?_,?_⟩
 ·obtain⟨c,h1,_⟩:=hp;have hb:=hw _ _ h1;show Grow m (yor b _ m);unfold yor
  exact⟨ybtm hw (fun i hi=>by
   have hi:i ∈ [b]:=hi;rw[List.mem_singleton.1 hi];exact⟨_,h1⟩),(yse m _).1⟩
 ·rintro k φ M w m M' w' hk hw hR hs hp ⟨l,hl,rfl,rfl⟩;obtain⟨r1,r2⟩:=ycsi (y:=ych s (k+1)) hp hR hs hl;obtain⟨c,h1,_⟩:=hp;refine⟨φ.le_refl,fun _ _=>rfl,r1,fun i x hx=>?_,fun i hi hn=>?_,r2⟩
  ·have hx:(yor b (ych s (k+1)) m).b.get i=some x:=hx;rw[ybkb]at hx;show(if i=b then _ else _)=_
   split at hx
   ·rename_i q;rw[if_pos q];exact hx
   ·rename_i q;rw[if_neg q];exact hs _ _ hx
  ·show(if i=b then _ else _)=_
   rw[if_neg fun q=>?_];subst q;rcases hn with hn | hn
   ·rw[h1]at hn;cases hn
   ·have hn:i<(yor i (ych s (k+1)) m).low:=hn;unfold yor at hn;rw[Sh.ybda]at hn;have hn:i<Nat.min m.low i:=hn;exact absurd hn (Nat.not_lt.2 (Nat.min_le_right m.low i))
 ·intro l St Stop φ M w cap' hread hgrow hyield h0 hcap;obtain⟨box,rfl,hbox⟩:=yeo hcap;obtain⟨lc,hlc,_,rfl⟩:=hbox.ptr_inv;obtain⟨N,hN⟩:∃ N,(ybh s).length=N:=⟨_,rfl⟩;have Hread:=Lib.hid hread;have Hgrow:=Lib.hid hgrow;have Hyield:=Lib.hid hyield;have H0:=Lib.hid h0;have Hlc:=Lib.hid hlc
  have cellOf:Hid (∀ k φ' M' W,St k φ' M' W->φ.le φ'/\W.cell? ⟨lc.blk,lc.base,none⟩=some (.int .u32 (ych s k:Nat))/\W.frozen? ⟨lc.blk,lc.base,none⟩=false/\(∃ e fz,W.heap[0]? = some (.cells yyi.toArray e fz))/\lc.blk<W.heap.size):=Lib.hid fun k φ' M' W hst=>by
   obtain⟨hle,m,hR,hsu,hpre⟩:=hread k φ' M' W hst;obtain⟨l',cs,g1,g2,g3,g4,g5,g6,g7⟩:=yvv hpre hR hsu;rw[hle _ _ hlc]at g1;cases g1
   exact⟨hle,by simp[World.cell?,g5,g7],by simp[World.frozen?,g5],(hR.gl _ rfl).1,(Array.getElem?_eq_some_iff.1 g5).1⟩
  clear hread hgrow hyield h0 hbox hlc hcap
  refine callsIn_of_wp Tryz.func189 rfl trivial ?_
  simp only[Tryz.ntmps189,List.size_toArray,List.length_cons,List.length_nil,Nat.reduceAdd,Nat.reduceSub,Array.replicate_succ,
    Array.replicate_zero,List.push_toArray,List.append_toArray,List.nil_append,List.cons_append]
  gi_wp2
  gi_loopg [] N (fun q wr=>∃ k:Nat,q+k=N/\Hid (∃ φ' M',φ.le φ'/\St k φ' M' wr))
  case atStart=>exact⟨0,by omega,Lib.hid ⟨φ,M,φ.le_refl,H0.out⟩⟩
  case round =>
   obtain⟨k,hq,hst⟩:=hrel;obtain⟨φ1,M1,hle1,hst1⟩:=hst.out;obtain⟨_,hc1,hf1,hg1,hb1⟩:=cellOf.out _ _ _ _ hst1
   by_cases hlt:k<N
   ·obtain⟨h0,hz⟩:=ycui hs32 (k:=k) (by omega)
    have hx32:=ylm hs32 k;have key:=ycqr h0 hx32;have hrs:ych s (k+1)=ych s k &&& (ych s k - 1):=rfl;obtain⟨x,hx⟩:∃ x,ych s k=x:=⟨_,rfl⟩;obtain⟨y,hy⟩:∃ y,ych s (k+1)=y:=⟨_,rfl⟩;rw[hx]at hc1 h0 hz hx32 key hrs;rw[hy]at hrs;rw[<- hrs]at key;have hne:((x:Int) != 0)=true:=by rw[bne_iff_ne];omega
    have htz:=yczn (w:=wr) (x:=x) hx32 hg1;rw[hz]at htz;obtain⟨v,hv⟩:∃ v,(ybh s).getD k 0=v:=⟨_,rfl⟩
    obtain⟨fn,tmps,assign,body,hy',hRd⟩:=Hyield.out k φ1 M1 wr [.int .i64 (v:Nat)] (by show k<(ybh s).length;omega) hst1 (by
     show VRL φ1 [.int .i64 ((ybh s).getD k 0:Nat)] _;rw[hv];exact .cons (.simple rfl) .nil)
    rw[hv]at htz;have hyl:(Instr.yield l #[.int .i64 (v:Int)]).run Tryz.prog wr = .ok (.round l fn tmps assign body) wr:=hy';have Hst1:=Lib.hid hst1;have Hle1:=Lib.hid hle1;have Hy:=Lib.hid hy;have Hx:=Lib.hid hx
    clear hst hst1 hle1 hy' hg1 hz hrs hx hy
    gi_wp2
    refine⟨trivial,callsIn_wide.2 (htz.mono ?_)⟩;rintro e w' ⟨rfl,rfl⟩
    gi_wp2
    refine hRd.mono ?_;rintro e W3 (⟨rfl,φ3,M3,hle3,⟨m3,hR3,hS3,hp3⟩,hst3⟩ | ⟨rfl,hstop⟩)
    ·obtain⟨l',cs,g1,g2,g3,g4,g5,g6,g7⟩:=yvv hp3 hR3 hS3;rw[hle3 _ _ (Hle1.out _ _ Hlc.out)]at g1;cases g1
     have hc3:W3.cell? ⟨lc.blk,lc.base,none⟩=some (.int .u32 (x:Nat)):=by
      have hxe:ych s k=x:=Hx.out;simp[World.cell?,g5,g7,hxe]
     have hf3:W3.frozen? ⟨lc.blk,lc.base,none⟩=false:=by simp[World.frozen?,g5]
     have Hst3:=Lib.hid (hst3 _ _ ⟨lc,hle3 _ _ (Hle1.out _ _ Hlc.out),rfl,rfl⟩);have Hle3:=Lib.hid hle3
     clear hst3 hle3 hRd hyl hR3 hS3 hp3 g2 g3 g4 g5 g6 g7
     gi_wp2
     gi_roundg (gk - 1)
     case measure=>omega
     case rel =>
      have hthis:=Hst3.out;rw[Hy.out]at hthis;refine⟨k+1,by omega,Lib.hid ⟨φ3,upd M3 b (some (ytl y)),Phi.le_trans Hle1.out Hle3.out,?_⟩⟩
      clear Hread Hgrow Hyield H0 cellOf Hst3
      have e1:IntKind.wrap .u32 ((x:Int) - 1)=(x:Int) - 1:=by
       have e:(x:Int) - 1=((x - 1:Nat):Int):=by omega
       rw[e];exact yiy (by omega)
      rw[e1]at key;rw[key];exact hthis
    ·have Hstop:=Lib.hid hstop
     clear hstop hRd hyl
     gi_wp2
     refine bodyPost_ret (results_none rfl _ _ _) rfl ?_;exact⟨⟨_,rfl⟩,.inr Hstop.out⟩
   ·have hk:k=N:=by omega
    have h0:ych s k=0:=(rest_end hs32 (by omega)).2 (by omega)
    rw[h0]at hc1;have Hst1:=Lib.hid hst1;have Hle1:=Lib.hid hle1
    clear hst hst1 hle1 hg1
    gi_wp2
    go_end0
    exact⟨⟨_,rfl⟩,.inl ⟨φ1,M1,by
     have:=Hst1.out;rw[hk,<- hN]at this;exact this⟩⟩
end Ev
end Go.Proofs.YtiejahgklcjhkaaGreatDoor

namespace Go.Proofs.YtiejahgklcjhkaaGreatDoor
open Go
namespace Sh
open Ev Go.RowKit
set_option maxRecDepth 8000
def setO(x:Nat):OB:=⟨40,true,1,1,fun _=>[.i .u32 x]⟩
def yyq(b s:Nat):ItS:=⟨(ybh s).length,fun k=>[.i .i64 ((ybh s).getD k 0:Nat)],[(b,0)],fun k o=>lookO o (b,0)=some (setO (ych s k)),fun k o=>(SS.own ⟨[],o⟩ (b,0) (some (setO (ych s (k+1))))).o⟩
theorem yxy{b s:Nat}(hs:s<2 ^ 32):ItC Tryz.prog 189 [.pt (b,0) 0 0] (yyq b s):=by
 intro lo F ω st f m us hc hr hown;obtain⟨u,rfl,hu⟩:=rvl1 hr;obtain⟨k,z,hk,rfl⟩:=hu.pt_inv;have hown0:lookO st.o (b,0)=some (setO (ych s 0)):=hown;obtain⟨hz,_⟩:=hc.ownAt hown0 hk;have hz:z=1:=hz;subst hz;refine⟨ycju k s,ybxk hs,rfl,fun F' ω' s' f' m' j hF hω hc' hj hown'=>?_⟩;have hk':=hω (b,0) List.mem_cons_self _ hk;have hown':lookO s'.o (b,0)=some (setO (ych s j)):=hown';obtain⟨_,Tb,L,g1,g2⟩:=hc'.ownAt hown' hk'
 obtain⟨g3,g4,_,g5⟩:=g2 0 (by show 0<1;omega)
 refine⟨?_,fun hlt=>⟨.cons .i .nil,?_⟩⟩
 ·refine⟨Tb,g1,?_⟩;have h0:=g5 0 (by show 0<1;omega)
  have g4:RVL F' ω' [.i .u32 (ych s j:Nat)] (L 0):=g4;obtain⟨v,e,hv⟩:=rvl1 g4;rw[e,hv.int_inv]at h0;exact h0
 ·exact hc'.upd (b:=setO (ych s (j+1))) ⟨_,hown'⟩ hk' (show 40 ≠ CU by decide) (Tb:=T.sets .leaf 0 [.int .u32 (ych s (j+1):Nat)]) (L:=fun _=>[.int .u32 (ych s (j+1):Nat)]) fun i hi=>by
   have hi:i<1:=hi;obtain rfl:i=0:=by omega
   refine⟨rfl,.cons .i .nil,rfl,fun q hq=>?_⟩;have hq:q<1:=hq;obtain rfl:q=0:=by omega
   exact ybfn _
theorem ybgk{s:Nat}:Cm Tryz.prog 154 [] [] [.i .u32 s] fun r o=>r = .fn 189 [] [.pt (1,0) 0 0]/\o = [(1,.one (some (setO s)))]:=by
 refine ybvj [] [] _ _ _ ?_;simp only[c154,ycbd,yclw,clash,yev,go_sem,Nat.reduceEqDiff,Nat.reduceAdd,Nat.reduceLT,↓reduceIte,reduceCtorEq];refine⟨.fn 189 [] [.pt (1,0) 0 0],[(1,.one (some (setO s)))],?_,?_,rfl,rfl⟩
 ·refine weak_all [] [] [] ?_;simp only[setO,allQ,live,sim_self,go_sem,↓reduceIte,reduceCtorEq]
 ·simp only[setO,famCln,obCln,allQ,live,go_sem,↓reduceIte]
theorem ywf{s v:Nat}(hs:s<2 ^ 24)(h:v ∈ ybh s):v<24/\s.testBit v=true:=by
 have hb:=(ybtk.1 h).2;refine⟨Classical.byContradiction fun q=>?_,hb⟩;rw[Nat.testBit_lt_two_pow (Nat.lt_of_lt_of_le hs (Nat.pow_le_pow_right (by omega) (by omega)))]at hb
 cases hb
theorem getD_mem{l:List Nat}{k:Nat}(h:k<l.length):l.getD k 0 ∈ l:=by rw[getD_at h];exact List.getElem_mem h
theorem ybls{net:List Nat}{s:Nat}(hs:s<2 ^ 24)(hn:∀ v,s.testBit v=true->v<net.length)(hb:∀ v,net.getD v 0<2 ^ 32)(hind:∀ v,s.testBit v=true->net.getD v 0 &&& s=0) :
  Returns Tryz.prog 221 [usV net,.i .u32 s] (.b true):=by
 refine Returns.of (ybwo [154] _ _ ?_);simp only[c221,ycht,ycfr,usV,clash,go_sem,Nat.reduceEqDiff,Nat.reduceAdd,Nat.reduceLT,↓reduceIte,reduceCtorEq];refine callM_of (ybgk (s:=s)) [(1,60)] 0 [2,3,4] [2,3,4] ?_ ?_
 ·simp only[okN,famCln,obCln,keepF,keepO,allQ,live,sim_self,go_sem,Nat.reduceEqDiff,Nat.reduceBEq,↓reduceIte,reduceCtorEq]
 rintro r o' ⟨rfl,rfl⟩;simp only[setO,thenM,ygw,nuF,nu,difN,keepF,keepO,Fam.ren,OB.ren,dim,yex,ybfm,ybhj,go_sem,Nat.reduceEqDiff,Nat.reduceBEq,↓reduceIte]
 refine yvp (yxy (b:=60) (s:=s) (by omega)) [(60,0),(2,0),(3,0),(4,0)] (fun i (_:Unit)=>⟨[(7,.fn 189 [] [.pt (60,0) 0 0]),(2,.pt (2,0) 0 0),(3,.pt (3,0) 0 0),(4,.pt (4,0) 0 0)],
  [(60,.one (some (setO (ych s i)))),(2,.one (some ⟨110,true,1,1,fun _=>[usV net]⟩)),(3,.one (some ⟨40,true,1,1,fun _=>[.i .u32 s]⟩)),(4,.one (some ⟨4,true,1,1,fun _=>[.b false]⟩))]⟩)
  (fun i _=>i<=(ybh s).length) () (Nat.zero_le _) ⟨fun _ h=>absurd h List.not_mem_nil,fun β h=>by rw[List.mem_singleton.1 h];exact List.mem_cons_self⟩ ?_ (fun _=>rfl) ?_ ?_ ?_
 ·refine weak_all [] [] [] ?_;simp only[setO,usV,ych,allQ,live,sim_self,go_sem,Nat.reduceEqDiff,↓reduceIte,reduceCtorEq]
 ·intro i _ hi _;refine⟨rfl,?_⟩;simp only[go_sem,allQ,go_sem,Nat.reduceEqDiff]
 ·intro i _ hi hlt;have hlt:i<(ybh s).length:=hlt;obtain⟨h24,hbit⟩:=ywf hs (getD_mem hlt);obtain⟨v,hv⟩:∃ v,(ybh s).getD i 0=v:=⟨_,rfl⟩;rw[hv]at h24 hbit;have hvn:=hn v hbit;have an:=u32_and (a:=net.getD v 0) (b:=s) (hb v) (by omega)
  rw[hind v hbit]at an;simp only[IntKind.bits]at an;refine⟨_,rfl,?_⟩;simp only[yyq];simp only[ycpj,ycex,usV,setO,hv,an,Int.natCast_zero,Int.reduceBNe,clash,go_sem,Nat.reduceEqDiff,Nat.reduceAdd,↓reduceIte,reduceCtorEq]
  repeat (first | refine⟨by omega,?_⟩ | refine⟨by decide,?_⟩)
  refine yby [] [] [] ?_;simp only[allQ,live,sim_self,go_sem,Nat.reduceEqDiff,↓reduceIte,reduceCtorEq]
 ·intro _ _;simp only[yccw,yyq,splice,go_sem,Nat.reduceEqDiff,↓reduceIte];exact Sim.refl _
end Sh
end Go.Proofs.YtiejahgklcjhkaaGreatDoor

namespace Go.Proofs.YtiejahgklcjhkaaGreatDoor
namespace Sh
open Go Ev
end Sh
end Go.Proofs.YtiejahgklcjhkaaGreatDoor

namespace Go.Proofs.YtiejahgklcjhkaaGreatDoor
structure LdC(g:Gr)(c:Conf):Prop where
 len:c.length=g.ids.length
 row:∀ v,v<g.ids.length->(c.getD v []).length=3/\(0<=(c.getD v []).getD 0 0/\(c.getD v []).getD 0 0<=ybeg g)/\(0<=(c.getD v []).getD 1 0/\(c.getD v []).getD 1 0<g.ids.length)/\(-1<=(c.getD v []).getD 2 0/\(c.getD v []).getD 2 0<(g.ports.getD v []).length)
section
variable {nm nl nd np no nj:ByteArray} {g:Gr} {c:Conf} {v:Nat}
theorem LdC.link(h:LdC g c)(hg:GoodG g)(hv:v<g.ids.length){l:Int × Int}(hl:l ∈ g.ports.getD v []):0<=l.1/\l.1.toNat<g.ids.length/\adj g v l.1.toNat/\(0<=endP c 0 l/\endP c 0 l<=ybeg g)/\(0<=endP c 1 l/\endP c 1 l<g.ids.length):=by
 have hpl:=hg.2.2.1;obtain⟨h1,h2,h3,_⟩:=ykp hg (by omega) hl
 have h4:=h.row l.1.toNat (by omega)
 exact⟨h1,by omega,h3,h4.2.1,h4.2.2.1⟩
end
end Go.Proofs.YtiejahgklcjhkaaGreatDoor

namespace Go.Proofs.YtiejahgklcjhkaaGreatDoor
section
variable {nm nl nd np no nj:ByteArray} {g:Gr} {c:Conf} {v:Nat}
end
end Go.Proofs.YtiejahgklcjhkaaGreatDoor

namespace Go.Proofs.YtiejahgklcjhkaaGreatDoor
section
variable {nm nl nd np no nj:ByteArray} {g:Gr} {c:Conf} {v:Nat}
end
end Go.Proofs.YtiejahgklcjhkaaGreatDoor

namespace Go.Proofs.YtiejahgklcjhkaaGreatDoor
open Go
namespace Sh
open Ev Go.RowKit
set_option maxRecDepth 8000
theorem ybwx{v:Nat}(h:v<2 ^ 32):IntKind.wrap .u64 (v:Int)=v:=by
 unfold IntKind.wrap;simp[IntKind.bits,IntKind.signed];omega
end Sh
end Go.Proofs.YtiejahgklcjhkaaGreatDoor

namespace Go.Proofs.YtiejahgklcjhkaaGreatDoor
open Go
theorem ybzn(ls:List (Int × Int))(u:Nat):(netP ls).testBit u=true ↔ ∃ l ∈ ls,l.1.toNat=u:=by
 have key:∀ (ls:List (Int × Int)) (a:Nat),(ls.foldl (fun a l=>a ||| 2 ^ l.1.toNat) a).testBit u=true ↔ a.testBit u=true \/ ∃ l ∈ ls,l.1.toNat=u:=by
  intro ls
  induction ls with
  | nil=>exact fun a=>⟨.inl,fun h=>h.resolve_right fun⟨_,h,_⟩=>nomatch h⟩
  | cons x ls ih =>
   intro a;rw[List.foldl_cons,ih,yos];constructor
   ·rintro((h | h) | ⟨l,hl,e⟩)
    ·exact .inl h
    ·exact .inr ⟨x,List.mem_cons_self,h.symm⟩
    ·exact .inr ⟨l,List.mem_cons_of_mem _ hl,e⟩
   ·rintro(h | ⟨l,hl,e⟩)
    ·exact .inl (.inl h)
    ·rcases List.mem_cons.1 hl with r | r
     ·exact .inl (.inr (by rw[<- e,r]))
     ·exact .inr ⟨l,r,e⟩
 unfold netP;rw[key];simp
def netG(g:Gr)(v:Nat):Nat:=netP (g.ports.getD v [])
theorem ybhe{g:Gr}(hg:GoodG g){u v:Nat}(h:(netG g v).testBit u=true):adj g v u:=by
 obtain⟨l,hl,e⟩:=(ybzn _ _).1 h
 by_cases hv:v<g.ports.length
 ·rw[<- e];exact(ykp hg hv hl).2.2.1
 ·rw[List.getD_eq_getElem?_getD,List.getElem?_eq_none (by omega)]at hl
  cases hl
theorem ycvi{g:Gr}(hg:GoodG g)(v:Nat):netG g v<2 ^ 24:=by
 have:=hg.2.1;refine Nat.lt_pow_two_of_testBit _ fun i hi=>?_;cases h:(netG g v).testBit i with
 | false=>rfl
 | true=>have:=(hg.adj_lt (ybhe hg h)).2;omega
theorem ybbt(g:Gr)(v:Nat):(g.ports.map netP).getD v 0=netG g v:=by
 unfold netG
 by_cases hv:v<g.ports.length
 ·rw[Sh.getD_at (by rw[List.length_map];exact hv),List.getElem_map,Sh.getD_at hv]
 ·rw[List.getD_eq_getElem?_getD,List.getElem?_eq_none (by rw[List.length_map];omega),List.getD_eq_getElem?_getD,List.getElem?_eq_none (by omega)]
  rfl
def resG(g:Gr):Nat->Nat->Nat:=resL (netG g)
theorem ykn{g:Gr}(hg:GoodG g):ResD (yll g) (resG g):=ycrg hg (ybws hg)
theorem ybpn{g:Gr}(hg:GoodG g){s:Nat}(h:yll g s){v:Nat}(hv:s.testBit v=true):netG g v &&& s=0:=by
 rw[ybg];intro i;rw[Nat.testBit_and];cases q:(netG g v).testBit i with
 | false=>rfl
 | true=>rw[h v i (ybhe hg q) hv];rfl
def ykw(f:Nat->Nat)(x i:Nat):Nat:=((ybh x).take i).foldl (takeB f) 0
theorem yqz{f:Nat->Nat}{x i:Nat}(hi:i<(ybh x).length):ykw f x (i+1)=takeB f (ykw f x i) ((ybh x).getD i 0):=by
 unfold ykw;rw[List.take_succ_eq_append_getElem hi,List.foldl_append,Sh.getD_at hi];rfl
theorem ybke(f:Nat->Nat)(x:Nat):ykw f x (ybh x).length=(ybh x).foldl (takeB f) 0:=by unfold ykw;rw[List.take_length]
theorem yzx{f:Nat->Nat}{x:Nat}(hx:x<2 ^ 24):∀ i,i<=(ybh x).length->ykw f x i<2 ^ 24
 | 0,_=>Nat.two_pow_pos 24
 | i+1,hi=>by
  rw[yqz (by omega)]
  have h:=yzx (f:=f) hx i (by omega)
  have h2:=(Sh.ywf hx (Sh.getD_mem (show i<(ybh x).length by omega))).1
  unfold takeB;split
  ·exact Nat.or_lt_two_pow h (Nat.pow_lt_pow_right (by omega) h2)
  ·exact h
theorem ybyj:lowB 0=0:=Nat.zero_and _
theorem ybyt(e w:Nat):subB (resD e w) e:=by
 unfold resD;split
 ·exact ybgt e
 ·intro i hi;rw[Nat.testBit_and,Bool.and_eq_true]at hi;exact hi.2
namespace Sh
open Ev Go.RowKit
set_option maxRecDepth 8000
set_option maxHeartbeats 2000000 in
theorem yoo{net:List Nat}{e w:Nat}(he:e<2 ^ 24)(hn:∀ v,e.testBit v=true->v<net.length)(hb:∀ v,net.getD v 0<2 ^ 24)(hw:w<2 ^ 32) :
  Returns Tryz.prog 111 [usV net,.i .i64 2,.i .u32 e,.i .u32 w] (.i .u32 ((ybh (resD e w)).foldl (takeB fun v=>net.getD v 0) 0:Nat)):=by
 refine Returns.of (ybxm [154] _ _ ?_);have a0:=u32_and (a:=w) (b:=e) (by omega) (by omega)
 obtain⟨N,a1,a2⟩:∃ N:Nat,IntKind.wrap .u32 (0 - (e:Int))=(N:Int)/\IntKind.wrap .u32 (((BitVec.ofInt (IntKind.bits .u32) (e:Int)) &&& BitVec.ofInt (IntKind.bits .u32) (N:Int)).toNat:Int)=((lowB e:Nat):Int):=by
  by_cases h0:e=0
  ·subst h0;refine⟨0,by decide,?_⟩
   have:=u32_and (a:=0) (b:=0) (by omega) (by omega)
   rw[Nat.and_zero]at this;rw[ybyj];exact this
  ·exact⟨2 ^ 32 - e,u32_neg (by omega) (by omega),u32_and (a:=e) (b:=2 ^ 32 - e) (by omega) (by omega)⟩
 have hsub:=ybyt e w;obtain⟨W,hW⟩:∃ W,w &&& e=W:=⟨_,rfl⟩;rw[hW]at a0;simp only[IntKind.bits]at a0 a2
 obtain⟨x,hx,hcase⟩:∃ x,resD e w=x/\((((W:Int) == 0)=true/\lowB e=x)\/(((W:Int) == 0)=false/\W=x)):=by
  unfold resD;rw[hW]
  by_cases q:W=0
  ·exact⟨lowB e,if_pos q,.inl ⟨by rw[q];rfl,rfl⟩⟩
  ·exact⟨W,if_neg q,.inr ⟨by rw[beq_eq_false_iff_ne];omega,rfl⟩⟩
 rw[hx]at hsub ⊢;have hx24:x<2 ^ 24:=yvk hsub he;obtain⟨f,hf⟩:∃ f:Nat->Nat,(fun v=>net.getD v 0)=f:=⟨_,rfl⟩;have hf':∀ v,net.getD v 0=f v:=fun v=>by rw[<- hf]
 simp only[hf']at hb;rw[hf,<- ybke f x];have hlt24:=yzx (f:=f) hx24;have hsu:=fun i=>yqz (f:=f) (x:=x) (i:=i);have ht0:ykw f x 0=0:=rfl;obtain⟨T,hT⟩:∃ T:Nat->Nat,(fun i=>ykw f x i)=T:=⟨_,rfl⟩;have hT':∀ i,ykw f x i=T i:=fun i=>by rw[<- hT]
 simp only[hT']at hlt24 hsu ht0 ⊢;rcases hcase with⟨z0,hz⟩ | ⟨z0,hz⟩
 all_goals
  first
   | rw[hz]at a2
   | rw[hz]at a0 z0
  simp only[c111,ycfg,ycks,ycar,yccl,ycis,ycni,ycku,ycqc,ycia,usV,a0,a1,a2,z0,IntKind.signed,Int.reduceBEq,clash,go_sem,Nat.reduceEqDiff,Nat.reduceAdd,Nat.reduceLT,↓reduceIte,reduceCtorEq];refine callM_of (ybgk (s:=x)) [(1,60)] 0 [4,9] [4,9] ?_ ?_
  ·simp only[okN,famCln,obCln,keepF,keepO,allQ,live,sim_self,go_sem,Nat.reduceEqDiff,Nat.reduceBEq,↓reduceIte,reduceCtorEq]
  rintro r o' ⟨rfl,rfl⟩;simp only[setO,thenM,ygw,nuF,nu,difN,keepF,keepO,Fam.ren,OB.ren,dim,yex,ybfm,ybhj,go_sem,Nat.reduceEqDiff,Nat.reduceBEq,↓reduceIte]
  refine yvp (yxy (b:=60) (s:=x) (by omega)) [(60,0),(4,0),(9,0)] (fun i (_:Unit)=>⟨[(30,.fn 189 [] [.pt (60,0) 0 0]),(4,.pt (4,0) 0 0),(9,.pt (9,0) 0 0)],
   [(60,.one (some (setO (ych x i)))),(4,.one (some ⟨110,true,1,1,fun _=>[usV net]⟩)),(9,.one (some ⟨40,true,1,1,fun _=>[.i .u32 (T i)]⟩))]⟩)
   (fun i _=>i<=(ybh x).length) () (Nat.zero_le _) ⟨fun _ h=>absurd h List.not_mem_nil,fun β h=>by rw[List.mem_singleton.1 h];exact List.mem_cons_self⟩ ?_ (fun _=>rfl) ?_ ?_ ?_
  ·refine weak_all [] [] [] ?_;simp only[setO,usV,ych,ht0,allQ,live,sim_self,Int.natCast_zero,go_sem,Nat.reduceEqDiff,↓reduceIte,reduceCtorEq]
  ·intro i _ hi _;refine⟨rfl,?_⟩;simp only[go_sem,allQ,go_sem,Nat.reduceEqDiff]
  ·intro i _ hi hlt;have hlt:i<(ybh x).length:=hlt;obtain⟨h24,hbit⟩:=ywf hx24 (getD_mem hlt);have hs:=hsu i hlt;have hti:=hlt24 i (by omega)
   obtain⟨v,hv⟩:∃ v,(ybh x).getD i 0=v:=⟨_,rfl⟩;rw[hv]at h24 hbit hs;have hvn:=hn v (hsub v hbit);have hbv:=hb v;have hfv:=hf' v;obtain⟨b,hbe⟩:∃ b,f v=b:=⟨_,rfl⟩;obtain⟨t,hte⟩:∃ t,T i=t:=⟨_,rfl⟩;unfold takeB at hs;rw[hbe]at hbv hfv hs;rw[hte]at hti hs;have an:=u32_and (a:=b) (b:=t) (by omega) (by omega)
   obtain⟨a,ha⟩:∃ a,b &&& t=a:=⟨_,rfl⟩;rw[ha]at an hs;have sh:=ylb (v:=v) (by omega)
   have ov:=u32_or (a:=t) (b:=2 ^ v) (by omega) (Nat.pow_lt_pow_right (by omega) (by omega))
   simp only[IntKind.bits,Int.toNat_natCast]at an sh ov;refine⟨_,rfl,?_⟩;simp only[yyq]
   by_cases q:a=0
   ·have z1:((a:Int) == 0)=true:=by rw[q];rfl
    rw[if_pos q]at hs;simp only[ybbe,ybcq,ybek,usV,setO,hv,hfv,hte,an,sh,ov,z1,splice,clash,go_sem,Nat.reduceEqDiff,Nat.reduceAdd,↓reduceIte,reduceCtorEq]
    repeat (first | refine⟨by omega,?_⟩ | refine⟨by decide,?_⟩)
    refine yby [] [] [] ?_;simp only[hs,allQ,live,sim_self,go_sem,Nat.reduceEqDiff,↓reduceIte,reduceCtorEq]
   ·have z1:((a:Int) == 0)=false:=by rw[beq_eq_false_iff_ne];omega
    rw[if_neg q]at hs;simp only[ybbe,ybcq,ybek,usV,setO,hv,hfv,hte,an,z1,clash,go_sem,Nat.reduceEqDiff,Nat.reduceAdd,↓reduceIte,reduceCtorEq]
    repeat (first | refine⟨by omega,?_⟩ | refine⟨by decide,?_⟩)
    refine yby [] [] [] ?_;simp only[hs,allQ,live,sim_self,go_sem,Nat.reduceEqDiff,↓reduceIte,reduceCtorEq]
  ·intro _ _;simp only[ybrd,yyq,clash,go_sem,Nat.reduceEqDiff,Nat.reduceAdd,↓reduceIte,reduceCtorEq];exact Sim.refl _
theorem ybat{net:List Nat}{e s:Nat}(he:e<2 ^ 24)(h0:s ≠ 0)(hs:s<2 ^ 24)(hsub:difB s e=0)(hn:∀ v,s.testBit v=true->v<net.length)(hb:∀ v,net.getD v 0<2 ^ 32)(hi:∀ v,s.testBit v=true->net.getD v 0 &&& s=0) :
  Returns Tryz.prog 196 [usV net,.i .i64 2,.i .u32 e,.i .u32 s] (.b true):=by
 refine Returns.of (ycuw _ _ ?_);have z0:((s:Int) == 0)=false:=by simp;omega
 have a0:=u32_andNot (a:=s) (b:=e) (by omega) (by omega)
 have hI:=ybls hs hn hb hi;rw[hsub]at a0;simp only[usV]at hI;simp only[Int.natCast_zero,IntKind.bits]at a0;simp only[c196,ycnv,ycgr,usV,z0,a0,Int.reduceBNe,go_sem,Nat.reduceEqDiff,Nat.reduceAdd,↓reduceIte,reduceCtorEq];simp only[ycgj,ycgq,ycma,yclk,Int.reduceBEq,go_sem,Nat.reduceEqDiff,Nat.reduceAdd,↓reduceIte,reduceCtorEq];refine hI.use ?_;simp only[thenO,sim_b,go_sem,Nat.reduceEqDiff,Nat.reduceAdd,↓reduceIte,reduceCtorEq]
theorem ybdz{g:Gr}(hg:GoodG g):DaemonOk 2 (g.ports.map netP) (resG g):=by
 have hN:(fun v=>(g.ports.map netP).getD v 0)=netG g:=funext fun v=>ybbt g v;have hb:∀ v,(g.ports.map netP).getD v 0<2 ^ 24:=fun v=>by rw[ybbt];exact ycvi hg v
 have hl:∀ (e:Nat),e<2 ^ (g.ports.map netP).length -> ∀ v,e.testBit v=true->v<(g.ports.map netP).length:=fun e he v hv=>by
  refine Classical.byContradiction fun q=>?_;rw[Nat.testBit_lt_two_pow (Nat.lt_of_lt_of_le he (Nat.pow_le_pow_right (by omega) (by omega)))]at hv
  cases hv
 have hrs:∀ (e w:Nat),e<2 ^ 24->resG g e w=(ybh (resD e w)).foldl (takeB (netG g)) 0:=fun e w he=>if_pos he
 exact
  { resolve:=fun e w he hn h0 hw=>by rw[hrs e w he,<- hN];exact yoo he (hl e hn) hb hw
    permits:=fun e w he hn h0 hw=>by obtain⟨h1,h2,h3⟩:=ykn hg e w h0;exact ybat he h1 (yvk h2 he) (yvy h2) (fun v hv=>hl e hn v (h2 v hv)) (fun v=>Nat.lt_of_lt_of_le (hb v) (by omega)) fun v hv=>by rw[ybbt];exact ybpn hg h3 hv
    zero:=fun w hw=>⟨_,yoo (Nat.two_pow_pos 24) (fun v hv=>by simp at hv) hb hw⟩
    sub:=fun e w h0 _=>⟨(ykn hg e w h0).1,(ykn hg e w h0).2.1⟩ }
theorem ycqq{s v:Nat}(hs:s<2 ^ 32)(hv:v<32):Returns Tryz.prog 55 [.i .u32 s,.i .i64 v] (.b (s.testBit v)):=by
 refine Returns.of (yczo _ _ ?_);have t1:decide ((v:Int) >= 0)=true:=decide_eq_true (by omega)
 have t2:decide ((v:Int)<32)=true:=decide_eq_true (by omega)
 have ht:=ybev (s:=s) (v:=v) hs;simp only[IntKind.bits]at ht;have e:((((s >>> v &&& 1:Nat):Int)) == 1)=s.testBit v:=by rw[Bool.eq_iff_iff,beq_iff_eq];exact yqr
 simp only[c55,ydcq,ycxu,t1,t2,clash,ybwx (show v<2 ^ 32 by omega),ht,e,go_sem,Nat.reduceEqDiff,Nat.reduceAdd,↓reduceIte,reduceCtorEq]
 exact⟨⟨by omega,by show(v:Int)<((32:Nat):Int);omega⟩,Sim.refl _⟩
theorem yzk{g:Gr}(hg:GoodG g){e w:Nat}(he:e<2 ^ g.ids.length)(h0:e ≠ 0)(hw:w<2 ^ 32) :
  Returns Tryz.prog 52 [grV g,.i .i64 2,.i .u32 e,.i .u32 w] (.i .u32 (resG g e w:Nat)):=by
 refine Returns.of (yddg _ _ ?_);have h24:=hg.2.1;have hpl:=hg.2.2.1;have hV:=yni (ybjw hg);rw[(ycu g).2 hg]at hV;have hD:=yuq 2;have hA:=ybrb hg;have hN:=ytz hg;have h2n:2 ^ g.ids.length<=2 ^ 24:=Nat.pow_le_pow_right (by omega) (by omega)
 have hR:=(ybdz hg).resolve e w (by omega) (by rw[List.length_map,<- hpl];exact he) h0 hw
 have a0:=u32_andNot (a:=e) (b:=2 ^ g.ids.length - 1) (by omega) (by omega)
 have hd:difB e (2 ^ g.ids.length - 1)=0:=by
  rw[ybg];intro i;rw[yhh,Nat.testBit_two_pow_sub_one]
  by_cases q:i<g.ids.length
  ·rw[decide_eq_true q];simp
  ·rw[Nat.testBit_lt_two_pow (Nat.lt_of_lt_of_le he (Nat.pow_le_pow_right (by omega) (by omega)))];rfl
 rw[hd]at a0;simp only[Int.natCast_zero,IntKind.bits]at a0;simp only[grV]at hV hA hN;simp only[c52,ydft,ydcs,grV,clash,go_sem,Nat.reduceEqDiff,Nat.reduceAdd,Nat.reduceLT,↓reduceIte];refine hV.use ?_;simp only[thenO,clash,go_sem,Nat.reduceEqDiff,Nat.reduceAdd,↓reduceIte,reduceCtorEq];refine hD.use ?_;simp only[thenO,Int.reduceLE,clash,go_sem,Nat.reduceEqDiff,Nat.reduceAdd,↓reduceIte,reduceCtorEq]
 refine hA.use ?_;simp only[thenO,a0,Int.reduceBNe,yddj,clash,go_sem,Nat.reduceEqDiff,Nat.reduceAdd,↓reduceIte,reduceCtorEq];refine hN.use ?_;refine hR.use ?_;simp only[go_sem];exact Sim.refl _
theorem ybss{Q1 Q2:(Nat->Option ABlk)->Value->Prop}{p:ProgT}{g:Gr}(h:Checked Q1 Q2 p g){c:Conf}(hc:ydn p g c=true){s:Nat}(h0:s ≠ 0)(hs:s<2 ^ 32)(hen:subB s (yw p g c)) :
  Returns Tryz.prog 53 [.ag (ycc Q1 Q2 p.raw),grV g,yba c,.i .u32 s] (.tp [yba (ydb p g c s),.i .i64 0]):=by
 refine Returns.of (ydby _ _ ?_);have hp':=h.hp;unfold ProgT.ok at hp';simp only[Bool.and_eq_true,decide_eq_true_eq]at hp';have hC:=yra h c;rw[hc]at hC;have hcin:=yec h.hg h.hp hc;have hN:=yhu p.raw h.hg hp'.1.1.2 hp'.1.1.1.2;have hE:=yft p h.hg h.hp hcin;have hS:=ybhh p h.hg h.hp hcin hs hen;have hlt:=Nat.lt_of_lt_of_le (ywg p g c) (Nat.pow_le_pow_right (show 0<2 by omega) (show g.ids.length<=24 by have:=h.hg.2.1;have:=h.hg.2.2.1;omega))
 have z0:((s:Int) == 0)=false:=by simp;omega
 have a0:=u32_andNot (a:=s) (b:=yw p g c) hs (by omega)
 rw[yvy hen]at a0;simp only[Int.natCast_zero,IntKind.bits]at a0;simp only[ycc,grV]at hC hN;simp only[c53,ycyv,ydee,ycc,grV,clash,go_sem,Nat.reduceEqDiff,Nat.reduceAdd,Nat.reduceLT,↓reduceIte,reduceCtorEq];refine hC.use ?_;simp only[thenO,ydbo,ydag,Int.reduceBNe,clash,go_sem,Nat.reduceEqDiff,Nat.reduceAdd,↓reduceIte,reduceCtorEq];refine hN.useS ?_ ?_
 ·exact⟨ylk ⟨Sim.refl _,yii _ _,yii _ _,trivial⟩,Sim.refl _,trivial⟩
 simp only[thenO,ycze,z0,clash,go_sem,Nat.reduceEqDiff,Nat.reduceAdd,↓reduceIte,reduceCtorEq];refine hE.use ?_;simp only[thenO,a0,Int.reduceBNe,yddu,clash,go_sem,Nat.reduceEqDiff,Nat.reduceAdd,↓reduceIte,reduceCtorEq];refine hS.use ?_;simp only[go_sem];exact Sim.refl _
end Sh
end Go.Proofs.YtiejahgklcjhkaaGreatDoor

namespace Go.Proofs.YtiejahgklcjhkaaGreatDoor
open Go
namespace Sh
open Ev Go.RowKit
set_option maxRecDepth 8000
theorem yrw:Returns Tryz.prog 54 [] (.a (.string Kqt)):=by
 refine Returns.of (ydbr _ _ ?_);simp only[c54,ydbi,ydax,go_sem,↓reduceIte];exact Sim.refl _
theorem yql{g:Gr}(hI:GrI g)(hg:GoodG g):Returns Tryz.prog 56 [grV g] (.ag (yer 2 false true 1 (g.ids.length:Nat))):=by
 have h:=ybht hI;unfold ynl at h;rw[if_pos ((ycu g).2 hg)]at h;exact h
theorem ywj{g:Gr}(hI:GrI g)(hg:GoodG g):Returns Tryz.prog 57 [grV g] (.ag (yer 2 false true 1 (g.ids.length:Nat))):=by
 have h:=yzw hI;unfold ynl at h;rw[if_pos ((ycu g).2 hg)]at h;exact h
theorem yml:Returns Tryz.prog 49 [] (ycn KqP.vars):=by
 have e:KqP.vars = [⟨⟨#[99]⟩,1,0,0,1,0⟩]:=by kernel_rfl
 rw[e];exact ybnb
end Sh
end Go.Proofs.YtiejahgklcjhkaaGreatDoor

namespace Go.Proofs.YtiejahgklcjhkaaGreatDoor
open Go.ChangeShapes Go.WideShapes Go.ChangeAt Go.RowKit

theorem ybtw{α:Type}{p:Nat->α->Prop}:∀ (n:Nat),(∀ i,i<n -> ∃ x,p i x) -> ∃ xs:List α,xs.length=n /\ ∀ (j:Nat) (x:α),xs[j]? = some x->p j x
 | 0,_=>⟨[],rfl,by simp⟩
 | n+1,h=>by
  obtain⟨xs,h1,h2⟩:=ybtw n fun i hi=>h i (by omega)
  obtain⟨x,hx⟩:=h n (by omega)
  refine⟨xs ++ [x],by simp[h1],fun j y hy=>?_⟩
  by_cases hj:j<xs.length
  ·rw[List.getElem?_append_left hj]at hy;exact h2 j y hy
  ·rw[List.getElem?_append_right (by omega)]at hy
   have:j - xs.length=0:=by
    rcases Nat.eq_zero_or_pos (j - xs.length)with q | q
    ·exact q
    ·rw[List.getElem?_eq_none (by simp;omega)]at hy;cases hy
   rw[this]at hy;simp at hy;subst hy;obtain rfl:j=n:=by omega
   exact hx

section
variable {H:Type} {enc:TypeId × Value->H} {P:Program} {w:World} {base:Nat} {held:Bool}
theorem wf_i64{n:Int}(h:(Lit.int .i64 n).wf=true):I64 n:=by
 simp only[Lit.wf,Bool.and_eq_true,decide_eq_true_eq]at h;have e1:IntKind.i64.min = -9223372036854775808:=rfl;have e2:IntKind.i64.max=9223372036854775807:=rfl;rw[e1,e2]at h;exact h
end

theorem own:ownKnob Tryz.prog.godebug=Option.none:=by kernel_rfl
theorem laidOut:laidOutB Tryz.prog=true:=by kernel_rfl

section
variable {H:Type} {enc:TypeId × Value->H} {w:World} {base:Nat} {held:Bool} {n:Nat} {v:Value} {x:DataW H × List MemPlace}
end
end Go.Proofs.YtiejahgklcjhkaaGreatDoor

