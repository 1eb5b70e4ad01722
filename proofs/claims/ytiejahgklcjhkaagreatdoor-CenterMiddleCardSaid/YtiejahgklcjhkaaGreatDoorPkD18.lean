/- Lemmas, joined: Li Cp Cwo RowA ShW RowB RowC Io. -/
import Derived.Test.YtiejahgklcjhkaaGreatDoorPkD14
import Derived.Test.YtiejahgklcjhkaaGreatDoorPkD17
import Derived.Test.YtiejahgklcjhkaaGreatDoorPkD10
import Derived.Test.YtiejahgklcjhkaaGreatDoorPkD16
import Derived.Test.YtiejahgklcjhkaaGreatDoorPkD8
import Derived.ProofKit
import Derived.OpenShut
import Derived.ShutString
import Derived.ChangeOld
import Derived.Deep.Matrix
import Derived.Lib.SmallJoins
import Derived.Test.YtiejahgklcjhkaaGreatDoorPkD7
import Derived.Test.YtiejahgklcjhkaaGreatDoorPkD12
import Derived.Test.YtiejahgklcjhkaaGreatDoorProg
import GoSem.ClaimJoined
import GoSem.ClaimSevenParts
import Derived.KernelRfl
set_option linter.unusedSimpArgs false
set_option linter.unusedVariables false
namespace Go.Proofs.YtiejahgklcjhkaaGreatDoor
namespace Sh
open Go Ev

def Lies(B:List BlkL)(v:Value)(F:AM)(u:Value):Prop :=
 ∃ ρ:Nat->Nat,(∀ b ∈ B,∀ c ∈ B,ρ b.i=ρ c.i->b.i=c.i)/\(∀ b ∈ B,F (ρ b.i)=some (b.ren ρ).blk)/\u=ren1 ρ v
theorem Lies.mono{B:List BlkL}{v:Value}(F G:AM)(u:Value)(h:Le F G)(k:Lies B v F u):Lies B v G u:=by
 obtain⟨ρ,h1,h2,h3⟩:=k;exact⟨ρ,h1,fun b hb=>h _ _ (h2 b hb),h3⟩

def ydgo(B:List BlkL)(j:Nat):Option BlkL:=B.find? fun b=>Nat.beq b.i j
def ybym(p:Nat->Bool):Nat->Bool
 | 0=>true
 | n+1=>p n && ybym p n
theorem ybgn{p:Nat->Bool}:∀ {n:Nat},ybym p n=true -> ∀ k,k<n->p k=true
 | 0,_,k,h=>absurd h (Nat.not_lt_zero k)
 | n+1,h,k,hk=>by
  have h:(p n && ybym p n)=true:=h;rw[Bool.and_eq_true]at h
  by_cases q:k=n
  ·rw[q];exact h.1
  ·exact ybgn h.2 k (by omega)
def ybea(B:List BlkL)(z n:Nat)(row:Nat->List Value->Bool):Value->Bool
 | .slice (some a) m _=>a.spot.isNone && Nat.beq m n && (match ydgo B a.block with
  | some b=>Nat.beq b.z z && Nat.ble (a.off+n * z) b.l.length && ybym (fun k=>row k ((b.l.drop (a.off+k * z)).take z)) n
  | none=>false)
 | .slice none 0 0=>Nat.beq n 0
 | _=>false
theorem yox {B:List BlkL} {F:AM} {ρ:Nat->Nat} {z n:Nat} {row:Nat->List Value->Bool} {v:Value} {g:Nat->List SV} (hF:∀ b ∈ B,F (ρ b.i)=some (b.ren ρ).blk) (h:ybea B z n row v=true)
  (hr:∀ k L,k<n->row k L=true->L.length=z/\RVL F om0 (g k) (L.map (ren2 ρ))/\(g k).all one1=true):RV F om0 (.sl z n g) (ren1 ρ v):=by
 unfold ybea at h;split at h
 ·rename_i a m c
  simp only[Bool.and_eq_true]at h;obtain⟨⟨h1,h2⟩,h3⟩:=h;split at h3
  ·rename_i b hb
   simp only[Bool.and_eq_true]at h3;obtain⟨⟨h3,h4⟩,h5⟩:=h3;have hm:m=n:=Nat.eq_of_beq_eq_true h2;have hz:=Nat.eq_of_beq_eq_true h3;have h4:=Nat.le_of_ble_eq_true h4;have hmem:=List.mem_of_find?_eq_some hb;have hi:b.i=a.block:=Nat.eq_of_beq_eq_true (List.find?_some (p:=fun b:BlkL=>Nat.beq b.i a.block) hb);have h6:=hF b hmem;rw[hi]at h6;show RV F om0 _ (.slice (some (renA ρ a)) m c);rw[yie];subst hm
   obtain⟨A,o,sp⟩:=a;have hsp:sp=none:=by simpa using h1
   subst hsp;have h6:F (ρ A)=some (.cells (tOf (b.l.map (ren2 ρ))) (b.l.map (ren2 ρ)).length b.e b.z):=h6;have hrow:∀ k,k<m->_:=fun k hk=>hr k _ hk (ybgn h5 k hk);refine .sl (L:=fun k=>((b.l.drop (o+k * z)).take z).map (ren2 ρ)) h6 (.inl hz) (by rw[List.length_map];exact h4) ?_ ?_ (fun k hk=>(hrow k hk).2.1) (fun k hk=>(hrow k hk).2.2)
   ·intro k hk;rw[List.length_map];exact(hrow k hk).1
   ·intro k hk j hj;rw[yby];simp only[List.getElem?_map,List.getElem?_take,List.getElem?_drop,hj,if_true]
  ·cases h3
 ·have h:Nat.beq n 0=true:=h;have h0:=Nat.eq_of_beq_eq_true h;subst h0;exact .sl0 (.inl rfl)
 ·cases h
def isI(v:Value)(n:Int):Bool:=match v with
 | .int .i64 m=>eqInt m n
 | _=>false
def isS(v:Value)(s:ByteArray):Bool:=match v with
 | .string t=>eqBytes t.data.toList s.data.toList
 | _=>false
theorem ynk{F:AM}{ρ:Nat->Nat}{v:Value}{n:Int}(h:isI v n=true):RV F om0 (.i .i64 n) (ren2 ρ v):=by
 unfold isI at h;split at h
 ·rw[ypf h];exact .i
 ·cases h
theorem ycqd{F:AM}{ρ:Nat->Nat}{v:Value}{s:ByteArray}(h:isS v s=true):RV F om0 (.a (.string s)) (ren2 ρ v):=by
 unfold isS at h;split at h
 ·rename_i t
  have e:=ymj h
  have:t=s:=by
   cases t;cases s
   congr 1;exact Array.toList_inj.1 e
  rw[this];exact .a rfl
 ·cases h
def ydbv(ls:List (Int × Int))(k:Nat):List Value->Bool
 | [x,y]=>isI x (ls.getD k (0,0)).1 && isI y (ls.getD k (0,0)).2
 | _=>false
def yccw(l:List VarR)(k:Nat):List Value->Bool
 | [s,a,b,c,d,e]=>isS s (l.getD k default).name && isI a (l.getD k default).kind && isI b (l.getD k default).lo && isI c (l.getD k default).hi && isI d (l.getD k default).perNode && isI e (l.getD k default).perID
 | _=>false
def yvf(B:List BlkL)(ls:List (Int × Int))(v:Value):Bool:=ybea B 2 ls.length (ydbv ls) v
def isSl:Value->Bool
 | .slice _ _ _=>true
 | _=>false
def ybmm(B:List BlkL)(l:List SetR)(k:Nat):List Value->Bool
 | [a,v]=>isI a (l.getD k default).var && isSl v && yvf B (l.getD k default).val v
 | _=>false
def ybpg(B:List BlkL)(l:List RuleR)(k:Nat):List Value->Bool
 | [s,v,w]=>isS s (l.getD k default).name && isSl v && yvf B (l.getD k default).guard v && isSl w && ybea B 2 (l.getD k default).sets.length (ybmm B (l.getD k default).sets) w
 | _=>false
def ybod(B:List BlkL)(v:Value)(l:List VarR):Bool:=ybea B 6 l.length (yccw l) v
def ybgt(B:List BlkL)(v:Value)(l:List RuleR):Bool:=ybea B 3 l.length (ybpg B l) v
section
variable {B:List BlkL} {F:AM} {ρ:Nat->Nat}
theorem ybcg{v:Value}(h:isSl v=true):ren2 ρ v=ren1 ρ v:=by
 unfold isSl at h;split at h
 ·rfl
 ·cases h
theorem yrr(hF:∀ b ∈ B,F (ρ b.i)=some (b.ren ρ).blk){ls:List (Int × Int)}{v:Value}(h:yvf B ls v=true):RV F om0 (yba ls) (ren1 ρ v):=by
 refine yox hF h fun k L hk hq=>?_;unfold ydbv at hq;split at hq
 ·simp only[Bool.and_eq_true]at hq;exact⟨rfl,.cons (ynk hq.1) (.cons (ynk hq.2) .nil),rfl⟩
 ·cases hq
theorem ybiy(hF:∀ b ∈ B,F (ρ b.i)=some (b.ren ρ).blk){l:List VarR}{v:Value}(h:ybod B v l=true):RV F om0 (ycp l) (ren1 ρ v):=by
 refine yox hF h fun k L hk hq=>?_;unfold yccw at hq;split at hq
 ·simp only[Bool.and_eq_true]at hq;obtain⟨⟨⟨⟨⟨h1,h2⟩,h3⟩,h4⟩,h5⟩,h6⟩:=hq;exact⟨rfl,.cons (ycqd h1) (.cons (ynk h2) (.cons (ynk h3) (.cons (ynk h4) (.cons (ynk h5) (.cons (ynk h6) .nil))))),rfl⟩
 ·cases hq
theorem ybiv(hF:∀ b ∈ B,F (ρ b.i)=some (b.ren ρ).blk){l:List SetR}{v:Value}(h:ybea B 2 l.length (ybmm B l) v=true):RV F om0 (ygy l) (ren1 ρ v):=by
 refine yox hF h fun k L hk hq=>?_;unfold ybmm at hq;split at hq
 ·simp only[Bool.and_eq_true]at hq;obtain⟨⟨h1,h2⟩,h3⟩:=hq;refine⟨rfl,.cons (ynk h1) (.cons ?_ .nil),rfl⟩;rw[ybcg h2];exact yrr hF h3
 ·cases hq
theorem ybez(hF:∀ b ∈ B,F (ρ b.i)=some (b.ren ρ).blk){l:List RuleR}{v:Value}(h:ybgt B v l=true):RV F om0 (ycf l) (ren1 ρ v):=by
 refine yox hF h fun k L hk hq=>?_;unfold ybpg at hq;split at hq
 ·simp only[Bool.and_eq_true]at hq;obtain⟨⟨⟨⟨h1,h2⟩,h3⟩,h4⟩,h5⟩:=hq;refine⟨rfl,.cons (ycqd h1) (.cons ?_ (.cons ?_ .nil)),rfl⟩
  ·rw[ybcg h2];exact yrr hF h3
  ·rw[ybcg h4];exact ybiv hF h5
 ·cases hq
end
structure LaidP(fp:Fact)(t:ByteArray)(p:ProgR)(vv vr:Value)(Bv Br:List BlkL):Prop where
 args:fp.args = [.string t]
 pre:fp.pre = []
 v:fp.v = .agg #[.string p.name,vv,vr]
 still:fp.still=true
 bv:∀ b ∈ Bv,b ∈ fp.post
 br:∀ b ∈ Br,b ∈ fp.post
 vars:ybod Bv vv p.vars=true
 rules:ybgt Br vr p.rules=true
theorem ybxu{P:Program}{fp:Fact}{t:ByteArray}{p:ProgR}{vv vr:Value}{Bv Br:List BlkL}(hok:yez P fp)(h:LaidP fp t p vv vr Bv Br):Returns P fp.g [.a (.string t)] (.ag (yfi (Lies Bv vv) (Lies Br vr) p)):=by
 intro G m us hwf hle hus
 have hu:us = [.string t]:=by
  cases hus with
  | cons a b=>cases a with | a _=>cases b with | nil=>rfl
 subst hu;obtain⟨s1,⟨s2,s3⟩,s4,s5,s6,s7,s8⟩:=yjk h.still;have hmv:=ytg (tgt:=[]) (n0:=m.next) hok h.still (by rw[h.pre];rfl) List.nodup_nil (fun t ht=>by cases ht)
 obtain⟨ρ,hρ⟩:∃ ρ,fp.rho [] m.next=ρ:=⟨_,rfl⟩
 have hpost:(fp.move [] m.next).post=fp.post.map (BlkL.ren ρ):=by rw[<- hρ];rfl
 have hv:(fp.move [] m.next).v = .agg #[.string p.name,ren1 ρ vv,ren1 ρ vr]:=by
  show renV (fp.rho [] m.next) fp.v=_
  rw[hρ,h.v];rfl
 have hpre:(fp.move [] m.next).pre = []:=by
  show fp.pre.map _ = [];rw[h.pre];rfl
 have hfit:(fp.move [] m.next).fits fp.g [.string t] m=true:=by
  unfold Fact.fits;rw[hpre];show(Nat.beq fp.g fp.g && Nat.beq m.next m.next && eqL2 (fp.args.map (ren2 _)) [.string t] && true)=true
  rw[Nat.beq_refl,Nat.beq_refl,h.args];show(true && true && (eqBytes t.data.toList t.data.toList && true) && true)=true;rw[ynu];rfl
 have hri:∀ b ∈ fp.post,ρ b.i=b.i - fp.next0+m.next:=fun b hb=>by rw[<- hρ];exact ybib (s6 b hb).1 (s6 b hb).2.1
 have hnd:yfs ((fp.post.map (BlkL.ren ρ)).map (·.i))=true:=by
  refine ykw ?_
  have e:(fp.post.map (BlkL.ren ρ)).map (·.i)=(fp.post.map (·.i)).map (fun i=>i - fp.next0+m.next):=by
   rw[List.map_map,List.map_map];refine List.map_congr_left fun b hb=>?_;show(b.ren ρ).i=_;rw[b.yhd,hri b hb];rfl
  rw[e];unfold List.Nodup at s7 ⊢;rw[List.pairwise_map];refine List.Pairwise.imp_of_mem (fun {x y} hx hy h=>?_) s7;obtain⟨bx,hbx,rfl⟩:=List.mem_map.1 hx;obtain⟨by_,hby,rfl⟩:=List.mem_map.1 hy;have:=(s6 bx hbx).1;have:=(s6 by_ hby).1;omega
 have hs:=ywa hmv hfit;unfold Fact.out at hs;rw[hv,hpre,hpost]at hs;refine⟨_,_,_,hs,Nat.le_refl _,?_,rfl,?_⟩
 ·intro i b hb;show(blksT m.b (fp.post.map (BlkL.ren ρ))).get i=some b;rw[yre fun c hc=>?_]
  ·exact hb
  ·obtain⟨c,hc',rfl⟩:=List.mem_map.1 hc;have:=hwf i b hb;rw[c.yhd,hri c hc'];omega
 ·have hF:∀ b ∈ fp.post,frsh m.next ⟨(fp.move [] m.next).next1,blksT m.b (fp.post.map (BlkL.ren ρ)),(fp.move [] m.next).low⟩ G (ρ b.i)=some (b.ren ρ).blk:=fun b hb=>by
   unfold frsh;rw[if_pos (by rw[hri b hb];omega)]
   have:=yoz (t:=m.b) hnd _ (List.mem_map.2 ⟨b,hb,rfl⟩);rw[b.yhd]at this;exact this
  have hinj:∀ b ∈ fp.post,∀ c ∈ fp.post,ρ b.i=ρ c.i->b.i=c.i:=fun b hb c hc e=>by
   rw[hri b hb,hri c hc]at e;have:=(s6 b hb).1;have:=(s6 c hc).1;omega
  refine .ag (.cons (.a rfl) (.cons (.ex ?_ (fun A B w=>Lies.mono A B w) ?_) (.cons (.ex ?_ (fun A B w=>Lies.mono A B w) ?_) .nil)))
  ·exact⟨ρ,fun b hb c hc=>hinj b (h.bv b hb) c (h.bv c hc),fun b hb=>hF b (h.bv b hb),rfl⟩
  ·exact ybiy (fun b hb=>hF b (h.bv b hb)) h.vars
  ·exact⟨ρ,fun b hb c hc=>hinj b (h.br b hb) c (h.br c hc),fun b hb=>hF b (h.br b hb),rfl⟩
  ·exact ybez (fun b hb=>hF b (h.br b hb)) h.rules

def inB(B:List BlkL):Value->Bool
 | .slice (some a) _ _=>(B.map (·.i)).elem a.block
 | .pointer (some a)=>(B.map (·.i)).elem a.block
 | .agg _=>false
 | .func _ _ _=>false
 | _=>true
theorem yhb{B:List BlkL}{ρ σ:Nat->Nat}(h:∀ b ∈ B,ρ b.i=σ b.i){v:Value}(hv:inB B v=true):ren1 ρ v=ren1 σ v:=by
 have hk:∀ j,(B.map (·.i)).elem j=true->ρ j=σ j:=fun j hj=>by
  have:j ∈ B.map (·.i):=by simpa using hj
  obtain⟨b,hb,rfl⟩:=List.mem_map.1 this;exact h b hb
 cases v with
 | slice p n c=>cases p with
  | none=>rfl
  | some a =>
   show Value.slice (some (renA ρ a)) n c = .slice (some (renA σ a)) n c;rw[yie,yie,hk _ hv]
 | pointer p=>cases p with
  | none=>rfl
  | some a =>
   show Value.pointer (some (renA ρ a)) = .pointer (some (renA σ a));rw[yie,yie,hk _ hv]
 | agg a=>cases hv
 | func f a c=>cases hv
 | _=>rfl
theorem ybhu{B:List BlkL}{τ:Nat->Nat}{v:Value}(hv:inB B v=true):ren2 τ v=ren1 τ v:=by
 cases v with
 | agg a=>cases hv
 | func f a c=>cases hv
 | _=>rfl
theorem ybjt{B:List BlkL}{ρ σ:Nat->Nat}(h:∀ b ∈ B,ρ b.i=σ b.i){v:Value}(hv:inB B v=true):ren2 ρ v=ren2 σ v:=by
 rw[ybhu hv,ybhu hv];exact yhb h hv
def ybdi(B:List BlkL):Bool:=B.all fun b=>b.l.all (inB B)
theorem yxl{B:List BlkL}{ρ σ:Nat->Nat}(hc:ybdi B=true)(h:∀ b ∈ B,ρ b.i=σ b.i){b:BlkL}(hb:b ∈ B):b.ren ρ=b.ren σ:=by
 have h1:=List.all_eq_true.1 (List.all_eq_true.1 hc b hb)
 have e:∀ τ:Nat->Nat,b.ren τ=⟨τ b.i,b.e,b.z,b.l.map (ren2 τ)⟩:=fun τ=>by
  unfold BlkL.ren;rw[forceN_eq]
 rw[e,e,h b hb];congr 1;exact List.map_congr_left fun v hv=>ybjt h (h1 v hv)
theorem yuj{low:Nat}:∀ {l:List BlkL} {t:T ABlk},(∀ b ∈ l,b.i<low)->dropT t low l=t
 | [],_,_=>rfl
 | b :: l,t,h=>by
  have hb:=h b List.mem_cons_self;unfold dropT
  have e:Nat.ble low b.i=false:=by
   cases q:Nat.ble low b.i with
   | false=>rfl
   | true=>have:=Nat.le_of_ble_eq_true q;omega
  rw[e,iteB_eq,if_neg (by simp)]
  exact yuj fun c hc=>h c (List.mem_cons_of_mem _ hc)
structure GoodV(fv:Fact)(p:ProgR)(vv vr:Value)(Bv Br:List BlkL):Prop where
 args:fv.args = [.agg #[.string p.name,vv,vr]]
 pre:∀ b ∈ fv.pre,b ∈ Bv\/b ∈ Br
 bv:∀ b ∈ Bv,b ∈ fv.pre
 br:∀ b ∈ Br,b ∈ fv.pre
 v:fv.v = .bool true
 post:fv.post = []
 still:fv.still=true
 apart:(Bv.all fun b=>Br.all fun c=>!(Nat.beq b.e c.e) && !(Nat.beq b.i c.i))=true
 cv:ybdi Bv=true
 cr:ybdi Br=true
 iv:inB Bv vv=true
 ir:inB Br vr=true
 refl:eq2 (.agg #[.string p.name,vv,vr]) (.agg #[.string p.name,vv,vr])=true
theorem ycaj{P:Program}{fv:Fact}{p:ProgR}{vv vr:Value}{Bv Br:List BlkL}(hok:yez P fv)(h:GoodV fv p vv vr Bv Br):Returns P fv.g [.ag (yfi (Lies Bv vv) (Lies Br vr) p)] (.b true):=by
 intro G m us hwf hle hus
 obtain⟨ρ1,ρ2,hu,a1,a2,a3,a4⟩:∃ ρ1 ρ2:Nat->Nat,us = [.agg #[.string p.name,ren1 ρ1 vv,ren1 ρ2 vr]]/\(∀ b ∈ Bv,∀ c ∈ Bv,ρ1 b.i=ρ1 c.i->b.i=c.i)/\(∀ b ∈ Bv,G (ρ1 b.i)=some (b.ren ρ1).blk) /\
   (∀ b ∈ Br,∀ c ∈ Br,ρ2 b.i=ρ2 c.i->b.i=c.i) /\ ∀ b ∈ Br,G (ρ2 b.i)=some (b.ren ρ2).blk:=by
  cases hus with
  | cons a b =>
   cases b
   cases a with
   | ag hl =>
    cases hl with
    | cons x1 hl =>
     cases x1
     cases hl with
     | cons x2 hl =>
      cases x2 with
      | ex q2 _ _ =>
       cases hl with
       | cons x3 hl =>
        cases x3 with
        | ex q3 _ _ =>
         cases hl
         obtain⟨ρ1,b1,b2,rfl⟩:=q2;obtain⟨ρ2,b3,b4,rfl⟩:=q3;exact⟨ρ1,ρ2,rfl,b1,b2,b3,b4⟩
 subst hu;obtain⟨s1,⟨s2,s3⟩,s4,s5,s6,s7,s8⟩:=yjk h.still
 have hap:∀ b ∈ Bv,∀ c ∈ Br,b.e ≠ c.e/\b.i ≠ c.i:=fun b hb c hc=>by
  have:=List.all_eq_true.1 (List.all_eq_true.1 h.apart b hb) c hc;simp only[Bool.and_eq_true,Bool.not_eq_true']at this;exact⟨fun e=>(by rw[e,Nat.beq_refl]at this;exact absurd this.1 (by decide)),fun e=>(by rw[e,Nat.beq_refl]at this;exact absurd this.2 (by decide))⟩
 let σ:Nat->Nat:=fun i=>if (Bv.map (·.i)).elem i then ρ1 i else ρ2 i
 have hcross:∀ b ∈ Bv,∀ c ∈ Br,ρ1 b.i ≠ ρ2 c.i:=fun b hb c hc e=>by
  have e1:=a2 b hb;have e2:=a4 c hc;rw[e,e2]at e1
  injection e1 with e1
  unfold BlkL.blk at e1
  injection e1 with _ _ e3 _
  exact(hap b hb c hc).1 e3.symm
 have hG:∀ i b,G i=some b->i<m.next:=fun i b hb=>hwf i b (hle i b hb)
 have sv:∀ b ∈ Bv,σ b.i=ρ1 b.i:=fun b hb=>if_pos (by simpa using⟨b,hb,rfl⟩)
 have sr:∀ b ∈ Br,σ b.i=ρ2 b.i:=fun b hb=>by
  refine if_neg fun q=>?_;have:b.i ∈ Bv.map (·.i):=by simpa using q
  obtain⟨d,hd,hdi⟩:=List.mem_map.1 this;exact(hap d hd b hb).2 hdi
 have tgtLt:∀ b ∈ fv.pre,σ b.i<m.next:=fun b hb=>by
  rcases h.pre b hb with q | q
  ·rw[sv b q];exact hG _ _ (a2 b q)
  ·rw[sr b q];exact hG _ _ (a4 b q)
 have sinj:∀ b ∈ fv.pre,∀ c ∈ fv.pre,σ b.i=σ c.i->b.i=c.i:=fun b hb c hc e=>by
  rcases h.pre b hb with q | q<;>rcases h.pre c hc with q' | q'
  ·rw[sv b q,sv c q']at e;exact a1 b q c q' e
  ·rw[sv b q,sr c q']at e;exact absurd e (hcross b q c q')
  ·rw[sr b q,sv c q']at e;exact absurd e.symm (hcross c q' b q)
  ·rw[sr b q,sr c q']at e;exact a3 b q c q' e
 obtain⟨tgt,htgt⟩:∃ t,fv.pre.map (fun b=>σ b.i)=t:=⟨_,rfl⟩
 have tlt:∀ t ∈ tgt,t<m.next:=fun t ht=>by
  rw[<- htgt]at ht;obtain⟨b,hb,rfl⟩:=List.mem_map.1 ht;exact tgtLt b hb
 have tnd:tgt.Nodup:=by
  rw[<- htgt];have s5:=s5;unfold List.Nodup at s5 ⊢;rw[List.pairwise_map]at s5 ⊢;exact List.Pairwise.imp_of_mem (fun {x y} hx hy h e=>h (sinj x hx y hy e)) s5
 have tlen:fv.pre.length=tgt.length:=by rw[<- htgt,List.length_map]
 have hmv:=ytg (n0:=m.next) hok h.still tlen tnd tlt
 have hrho:=ybpi (n0:=m.next) s4 s5 tlen
 obtain⟨ρ,hρ⟩:∃ ρ,fv.rho tgt m.next=ρ:=⟨_,rfl⟩
 rw[hρ,<- htgt]at hrho;have hri:∀ b ∈ fv.pre,ρ b.i=σ b.i:=List.map_inj_left.1 hrho;have hv1:∀ b ∈ Bv,ρ b.i=ρ1 b.i:=fun b hb=>by rw[hri b (h.bv b hb),sv b hb]
 have hr1:∀ b ∈ Br,ρ b.i=ρ2 b.i:=fun b hb=>by rw[hri b (h.br b hb),sr b hb]
 have hargs:(fv.move tgt m.next).args = [.agg #[.string p.name,ren1 ρ1 vv,ren1 ρ2 vr]]:=by
  show fv.args.map (ren2 (fv.rho tgt m.next))=_
  rw[hρ,h.args,<- yhb hv1 h.iv,<- yhb hr1 h.ir];rfl
 have hself:eqL2 [.agg #[.string p.name,ren1 ρ1 vv,ren1 ρ2 vr]] [.agg #[.string p.name,ren1 ρ1 vv,ren1 ρ2 vr]]=true:=by
  have hf:yja (.agg #[.string p.name,vv,vr])=true:=by
   have:=s2;rw[h.args]at this
   simpa using this
  have e:=yboa (ρ:=ρ) hf h.refl;rw[show ren2 ρ (.agg #[.string p.name,vv,vr]) = .agg #[.string p.name,ren1 ρ vv,ren1 ρ vr]from rfl,yhb hv1 h.iv,yhb hr1 h.ir]at e
  show(eq2 _ _ && true)=true;rw[e];rfl
 have hpre:∀ b ∈ fv.pre,m.b.get (ρ b.i)=some (b.ren ρ).blk:=fun b hb=>by
  rcases h.pre b hb with q | q
  ·rw[yxl h.cv hv1 q,hv1 b q];exact hle _ _ (a2 b q)
  ·rw[yxl h.cr hr1 q,hr1 b q];exact hle _ _ (a4 b q)
 have hp:(fv.move tgt m.next).pre=fv.pre.map (BlkL.ren ρ):=by rw[<- hρ];rfl
 have hfit:(fv.move tgt m.next).fits fv.g [.agg #[.string p.name,ren1 ρ1 vv,ren1 ρ2 vr]] m=true:=by
  unfold Fact.fits;rw[hargs,hself];show(Nat.beq fv.g fv.g && Nat.beq m.next m.next && true && (fv.move tgt m.next).pre.all (blkIs m))=true
  rw[Nat.beq_refl,Nat.beq_refl,hp];show List.all _ _=true;refine List.all_eq_true.2 fun b' hb'=>?_;obtain⟨b,hb,rfl⟩:=List.mem_map.1 hb';have h2:=(s4 b hb).2;refine yls ?_ (yri h2) ?_
  ·rw[b.yhd];exact hpre b hb
  ·show Nat.blt (b.l.map _).length 1000000=true;rw[List.length_map];unfold reflB at h2;rw[Bool.and_eq_true]at h2;exact h2.2
 have hs:=ywa hmv hfit;unfold Fact.out at hs
 have hv:(fv.move tgt m.next).v = .bool true:=by
  show renV (fv.rho tgt m.next) fv.v=_
  rw[h.v];rfl
 have hpost:(fv.move tgt m.next).post = []:=by
  show fv.post.map _ = [];rw[h.post];rfl
 rw[hv,hpost]at hs;refine⟨_,_,_,hs,Nat.le_refl _,?_,rfl,.b⟩;intro i b hb;show(dropT m.b m.next (fv.move tgt m.next).pre).get i=some b
 rw[yuj fun c hc=>?_]
 ·exact hb
 ·rw[hp]at hc;obtain⟨c,hc',rfl⟩:=List.mem_map.1 hc;rw[c.yhd,hri c hc'];exact tgtLt c hc'
end Sh
end Go.Proofs.YtiejahgklcjhkaaGreatDoor

namespace Go.Proofs.YtiejahgklcjhkaaGreatDoor
namespace Sh
open Go Ev
set_option maxRecDepth 1000000
def CqP:ProgT:=yec (by8 [99,101,110,116,101,114]) (by8 [104]) (by8 [102,105,120])
def Cqt:ByteArray:=ybn
def Cqv:Value:=.slice (some ⟨532,0,none⟩) 1 CU
def Cqr:Value:=.slice (some ⟨875,0,none⟩) 1 CU
def CqB:List BlkL:=yun.post.take 1
def CqC:List BlkL:=yun.post.drop 1
theorem yuv:Returns Tryz.prog 37 [.a (.string Cqt)] (.ag (yfi (Lies CqB Cqv) (Lies CqC Cqr) CqP.raw)) :=
 ybxu (fp:=yun) (ybj.at_ ybyb 0 rfl) ⟨rfl,rfl,rfl,by kernel_rfl,fun _ h=>List.mem_of_mem_take h,fun _ h=>List.mem_of_mem_drop h,by kernel_rfl,by kernel_rfl⟩
theorem ydcv:ybpl.pre=yun.post:=rfl
theorem ybgy:Returns Tryz.prog 191 [.ag (yfi (Lies CqB Cqv) (Lies CqC Cqr) CqP.raw)] (.b true) :=
 ycaj (fv:=ybpl) (ybj.at_ ycbn 0 rfl) ⟨rfl,fun b h=>by
  rw[ydcv,<- List.take_append_drop 1 yun.post]at h;exact List.mem_append.1 h,fun _ h=>List.mem_of_mem_take h,fun _ h=>List.mem_of_mem_drop h,rfl,rfl,by kernel_rfl,by kernel_rfl,by kernel_rfl,by kernel_rfl,by kernel_rfl,by kernel_rfl,by kernel_rfl⟩
theorem ybrb:CqP.ok=true:=by kernel_rfl
end Sh
end Go.Proofs.YtiejahgklcjhkaaGreatDoor

namespace Go.Proofs.YtiejahgklcjhkaaGreatDoor
open Go
namespace Sh
open Ev Go.RowKit
set_option maxRecDepth 8000
theorem ybab:Returns Tryz.prog 23 [] (.a (.string Cqt)):=by
 refine Returns.of (ydaw _ _ ?_);simp only[c23,ydcl,ycyi,go_sem,↓reduceIte];exact Sim.refl _
theorem yui:Returns Tryz.prog 25 [] (ycp CqP.vars):=by
 have e:CqP.vars = [⟨⟨#[104]⟩,1,0,0,1,0⟩]:=by kernel_rfl
 rw[e];exact ybtr
end Sh
end Go.Proofs.YtiejahgklcjhkaaGreatDoor

namespace Go.Proofs.YtiejahgklcjhkaaGreatDoor
open Go.ChangeShapes Go.WideShapes Go.ChangeAt Go.RowKit

theorem ybom{α:Type}{p:Nat->α->Prop}:∀ (n:Nat),(∀ i,i<n -> ∃ x,p i x) -> ∃ xs:List α,xs.length=n /\ ∀ (j:Nat) (x:α),xs[j]? = some x->p j x
 | 0,_=>⟨[],rfl,by simp⟩
 | n+1,h=>by
  obtain⟨xs,h1,h2⟩:=ybom n fun i hi=>h i (by omega)
  obtain⟨x,hx⟩:=h n (by omega)
  refine⟨xs ++ [x],by simp[h1],fun j y hy=>?_⟩
  by_cases hj:j<xs.length
  ·rw[List.getElem?_append_left hj]at hy;exact h2 j y hy
  ·rw[List.getElem?_append_right (by omega)]at hy
   have:j - xs.length=0:=by
    rcases Nat.eq_zero_or_pos (j - xs.length)with q | q
    ·exact q
    ·rw[List.getElem?_eq_none (by simp;omega)]at hy;cases hy
   rw[this]at hy;simp at hy;subst hy;obtain rfl:j=n:=by omega
   exact hx

section
variable {H:Type} {enc:TypeId × Value->H} {P:Program} {w:World} {base:Nat} {held:Bool}
theorem wf_i64{n:Int}(h:(Lit.int .i64 n).wf=true):I64 n:=by
 simp only[Lit.wf,Bool.and_eq_true,decide_eq_true_eq]at h;have e1:IntKind.i64.min = -9223372036854775808:=rfl;have e2:IntKind.i64.max=9223372036854775807:=rfl;rw[e1,e2]at h;exact h
end

theorem own:ownKnob Tryz.prog.godebug=Option.none:=by kernel_rfl
theorem laidOut:laidOutB Tryz.prog=true:=by kernel_rfl

section
variable {H:Type} {enc:TypeId × Value->H} {w:World} {base:Nat} {held:Bool} {n:Nat} {v:Value} {x:DataW H × List MemPlace}
end
end Go.Proofs.YtiejahgklcjhkaaGreatDoor

namespace Go.Proofs.YtiejahgklcjhkaaGreatDoor
namespace Sh
open Go Ev Go.RowKit

noncomputable def yzx{α:Type}(t:T α):Nat->List (Option α)->T α
 | _,[]=>t
 | i,x :: l=>yzx (T.set (Nat.succ i) t i x) (i+1) l
theorem ylg{α:Type}:∀ (l:List (Option α)) (t:T α) (i j:Nat),(yzx t i l).get j=if i<=j/\j<i+l.length then(l[j - i]?).join else t.get j
 | [],t,i,j=>by rw[if_neg (by simp)];rfl
 | x :: l,t,i,j=>by
  unfold yzx;rw[ylg l _ _ j]
  by_cases c:i+1<=j/\j<i+1+l.length
  ·rw[if_pos c,if_pos (by simp;omega),show j - i=(j - (i+1))+1 by omega]
   rfl
  ·rw[if_neg c,T.set_at]
   by_cases q:j=i
   ·subst q;rw[if_pos rfl,if_pos (by simp)]
    simp
   ·rw[if_neg q,if_neg (by simp;omega)]

def absV(Z:Nat)(v:Value):Option Value:=if simple v then some v else match v with
 | .slice (some ⟨b,o,none⟩) n c=>if n<=c/\c<=9223372036854775807 then(if c=0 then some (.slice (some ⟨Z,0,none⟩) n CU)else if b<=Z then some (.slice (some ⟨b,o,none⟩) n CU)else none)else none
 | .slice (some ⟨_,_,some _⟩) n c=>if n<=c/\c=0 then some (.slice (some ⟨Z,0,none⟩) n CU)else none
 | _=>none
def isU8:Value->Bool
 | .int .u8 _=>true
 | _=>false
noncomputable def absB(Z:Nat)(w:World)(i:Nat):Option ABlk:=match w.heap[i]? with
 | some (.cells c _ _)=>if c.toList.all isU8=true then none else some (.cells (yzx .leaf 0 (c.toList.map (absV Z))) c.size CU 0)
 | _=>none
def phiW(w:World):Phi:=fun i=>match w.heap[i]? with
 | some (.cells c _ _)=>some ⟨i,0,c.size,0,w.heap[i]?⟩
 | _=>if i<=w.heap.size then some ⟨i,0,0,0,none⟩else none
noncomputable def memW(w:World):Mem:=⟨w.heap.size+1,yzx .leaf 0 ((List.range w.heap.size).map (absB w.heap.size w)),w.heap.size+1⟩

theorem yiq{w:World}{i:Nat}{b:ABlk}:(memW w).b.get i=some b ↔ absB w.heap.size w i=some b:=by
 show(yzx .leaf 0 _).get i=some b ↔ _;rw[ylg]
 by_cases h:i<w.heap.size
 ·rw[if_pos (by simpa using h)]
  simp[h]
 ·rw[if_neg (by simpa using h),T.get_leaf]
  have:absB w.heap.size w i=none:=by unfold absB;rw[Array.getElem?_eq_none (by omega)]
  rw[this]
theorem ybbs(w:World):Wf (memW w):=fun i b h=>by
 rw[yiq]at h;show i<w.heap.size+1;unfold absB at h;split at h
 ·rename_i hc;have:=(Array.getElem?_eq_some_iff.1 hc).1;omega
 ·cases h
theorem ygn{w:World}{v u:Value}(h:absV w.heap.size v=some u):VR (phiW w) u v:=by
 have hZ:∃ l,phiW w w.heap.size=some l:=by
  unfold phiW;rw[Array.getElem?_eq_none (Nat.le_refl _)];simp
 have hφ:∀ b,b<=w.heap.size -> ∃ sz ob,phiW w b=some ⟨b,0,sz,0,ob⟩:=by
  intro b hb;unfold phiW;split
  ·exact⟨_,_,rfl⟩
  ·rw[if_pos hb];exact⟨_,_,rfl⟩
 unfold absV at h;split at h
 ·rename_i hs;cases h;exact .simple hs
 ·split at h
  ·rename_i b o n c _
   split at h
   ·rename_i hc
    split at h
    ·rename_i h0
     cases h
     obtain⟨l,hl⟩:=hZ;exact .slice hl hc.1 (fun q=>absurd rfl q) hc.2 (.inr h0)
    ·split at h
     ·rename_i hbl
      cases h
      obtain⟨sz,ob',hl⟩:=hφ b hbl;exact .slice hl hc.1 (fun q=>absurd rfl q) hc.2 (.inl ⟨by simp,.inl rfl⟩)
     ·cases h
   ·cases h
  ·rename_i b o sp n c _
   split at h
   ·rename_i hc
    cases h
    obtain⟨l,hl⟩:=hZ;exact .slice hl hc.1 (fun q=>absurd rfl q) (by omega) (.inr hc.2)
   ·cases h
  ·cases h
theorem ybzl:∀ x,ybyc=some x->x.2.all isU8=true:=by
 intro x hx;unfold ybyc at hx
 first | (cases hx;done) | (cases hx;rfl)
theorem relW{w:World}(hG:GlW w):Rel (phiW w) (memW w).b.get w:=by
 have hblk:∀ i b,(memW w).b.get i=some b -> ∃ l,phiW w i=some l/\l.blk=i/\l.ob=w.heap[i]? /\ BR (phiW w) l w b:=by
  intro i b hb;rw[yiq]at hb;unfold absB at hb;split at hb
  ·rename_i c e fz hc
   split at hb
   ·cases hb
   cases hb
   refine⟨⟨i,0,c.size,0,w.heap[i]?⟩,by unfold phiW;rw[hc],rfl,rfl,rfl,by simp,c.toList,e,fz,⟨fun q=>absurd rfl q,fun o ho=>ho⟩,by simpa using hc,by simp,fun j v hj hg=>?_⟩
   rw[ylg]at hg;split at hg
   ·simp only[Nat.sub_zero,List.getElem?_map]at hg;cases hcj:c.toList[j]? with
    | none=>rw[hcj]at hg;cases hg
    | some x =>
     rw[hcj]at hg;have hg:absV w.heap.size x=some v:=by simpa using hg
     exact⟨x,by rw[Nat.zero_add];exact hcj,ygn hg⟩
   ·rw[T.get_leaf]at hg;cases hg
  ·cases hb
 refine⟨⟨fun i b hb=>by obtain⟨l,h1,_,_,h2⟩:=hblk i b hb;exact⟨l,h1,h2⟩,fun i j x y li lj hne hx hy hi hj=>?_⟩,fun x hx=>⟨hG x hx,fun⟨i,b,l,h1,h2,h3⟩=>?_⟩⟩
 rotate_left
 ·obtain⟨l',k1,k2,_⟩:=hblk i b h1;rw[h2]at k1;cases k1
  rw[h3]at k2;obtain⟨e,fz,q⟩:=hG x hx;rw[yiq]at h1;unfold absB at h1;rw[<- k2,q]at h1;simp only at h1;rw[if_pos (by simpa using ybzl x hx)]at h1
  cases h1
 obtain⟨l,h1,h2,_⟩:=hblk i x hx;obtain⟨l',h3,h4,_⟩:=hblk j y hy;rw[hi]at h1;cases h1
 rw[hj]at h3;cases h3
 rw[h2,h4];exact hne
theorem ycvm{w:World}{i:Nat}{b:ABlk}{l:Ev.Loc}(hb:(memW w).b.get i=some b)(hl:phiW w i=some l):l.blk=i /\ ∃ o,l.ob=some o/\w.heap[i]? = some o:=by
 rw[yiq]at hb;unfold absB at hb;split at hb
 ·rename_i c e fz hc
  unfold phiW at hl;rw[hc]at hl;cases hl
  exact⟨rfl,_,rfl,hc⟩
 ·cases hb
theorem ycxm(w:World)(n:Nat):Fresh (phiW w) (memW w).next n:=by
 intro i h1 _;have h1:w.heap.size+1<=i:=h1;unfold phiW;rw[Array.getElem?_eq_none (by omega)]
 simp only;rw[if_neg (by omega)]
theorem ybzd {P:Program} {g:FuncId} {args:List SV} {r:SV} {v:Value} {us us':List Value} {w:World} (h:Returns P g args r) (hg:∃ fn c,P.funcs[g]? = some fn/\fn.body=some c) (hn:ymw P) (hG:GlW w)
  (ha:RVL (memW w).b.get om0 args us) (hv:VRL (phiW w) us us') (hr:∀ F u,RV F om0 r u->u=v) (hat:∀ φ v',VR φ v v'->v'=v):Calls P g us'.toArray w fun e w'=>e = .returned v/\Below w.heap.size w w':=by
 obtain⟨u,m',x,h1,h2,h3,rfl,h5⟩:=h (memW w).b.get (memW w) us (ybbs w) (Le.refl _) ha;have hu:=hr _ _ h5;subst hu;have hs:=(h1 (ybbs w)).2 (phiW w) (memW w).b.get w us' (relW hG) (fun i b hb=>hb) hv (ycxm w _);obtain⟨fn,c,k1,k2⟩:=hg;rcases hs with⟨_,hc⟩ | ⟨v',w',hrun,_⟩
 ·refine hc.mono ?_;rintro e w' ⟨v',rfl,φ',M',hgd,hvr⟩;rw[hat _ _ hvr];refine⟨rfl,hgd.wg.os,hgd.wg.tape,hgd.wg.output,hgd.wg.size,fun k hk=>?_⟩
  by_cases hi:Img (phiW w) (memW w).b.get k
  ·obtain⟨i,b,l,e1,e2,e3⟩:=hi;obtain⟨k4,o,k5,k6⟩:=ycvm e1 e2;have hik:i=k:=k4.symm.trans e3;subst hik;have hlt:i<(memW w).next:=ybbs w i b e1
   have hM:M' i=some b:=by
    rw[hgd.frame i (fun q=>by omega) (.inr (Nat.lt_of_lt_of_le hlt h2))]
    exact e1
   obtain⟨l',q1,q2⟩:=hgd.rel.blk i b hM;rw[hgd.le i l e2]at q1;cases q1
   have hcells:∃ c n,b = .cells c n CU 0:=by
    rw[yiq]at e1;unfold absB at e1;split at e1
    ·split at e1
     ·cases e1
     ·cases e1;exact⟨_,_,rfl⟩
    ·cases e1
   obtain⟨c',n',rfl⟩:=hcells;obtain⟨_,_,cs,e',fz,h0,_⟩:=q2;rw[k4]at h0;rw[h0.2 o k5,k6]
  ·exact hgd.wg.keep k hk hi
 ·rw[ybs hn k1 k2]at hrun;cases hrun
end Sh
end Go.Proofs.YtiejahgklcjhkaaGreatDoor

namespace Go.Proofs.YtiejahgklcjhkaaGreatDoor
namespace Sh
open Go Ev Go.RowKit Go.ChangeShapes Go.WideShapes Go.ChangeAt
def ypw(w:World)(g:SV)(v:Value):Prop:=∃ u,absV w.heap.size v=some u/\RV (memW w).b.get om0 g u
def ybdx(w:World)(g:List SV)(cs:List Value):Prop:=∃ L,cs.map (absV w.heap.size)=L.map some/\RVL (memW w).b.get om0 g L
theorem ybdx.nil(w:World):ybdx w [] []:=⟨[],rfl,.nil⟩
theorem ypw.cons{w:World}{g:SV}{v:Value}{gs:List SV}{cs:List Value}(h:ypw w g v)(t:ybdx w gs cs):ybdx w (g :: gs) (v :: cs):=by
 obtain⟨u,h1,h2⟩:=h;obtain⟨L,h3,h4⟩:=t;exact⟨u :: L,by rw[List.map_cons,List.map_cons,h1,h3],.cons h2 h4⟩
theorem ywb(w:World)(k:IntKind)(n:Int):ypw w (.i k n) (.int k n):=⟨.int k n,rfl,.i⟩
theorem ybgw{w:World}{a:Addr}{v:Value}(h:w.cell? a=some v):a.spot=none/\a.block<w.heap.size /\ ∃ c e fz,w.heap[a.block]? = some (.cells c e fz)/\c[a.off]? = some v:=by
 unfold World.cell? at h;split at h
 ·rename_i c e fz hc
  split at h
  ·cases h
  ·rename_i hs
   refine⟨?_,(Array.getElem?_eq_some_iff.1 hc).1,c,e,fz,hc,h⟩;cases hq:a.spot with
   | none=>rfl
   | some x=>rw[hq]at hs;simp at hs
 ·cases h
section
variable {H:Type} {enc:TypeId × Value->H} {P:Program} {w:World} {base:Nat} {held:Bool}
theorem ytd {α:Type} {z:Nat} {f:α->List SV} {p:α->Prop} (d:α) {t e:TypeId} {fuel:Nat} {v:Value} {x:DataW H × List MemPlace} (ht:P.underlying t=some (.slice e)) (hC:P.cellsOf e=z) (h0:0<z)
  (hE:∀ (n:Nat) (cs':List Value) (y:DataW H × List MemPlace),DataW.trod enc P w base (fun _=>true) held n e cs'=some y->cs'.length=z -> ∃ x,p x/\ybdx w (f x) cs'/\(f x).all one1=true/\(cs'.head?.any isU8)=false)
  (h:DataW.trod enc P w base (fun _=>true) held fuel t [v]=some x):∃ xs:List α,(∀ x ∈ xs,p x)/\ypw w (.sl z xs.length (fun k=>f (xs.getD k d))) v/\isU8 v=false:=by
 rcases Go.Deep.open_slice ht h with⟨h1,_⟩ | ⟨a,len,cap,m,n,D,Pl,hcs,hb,hl,hm,hmm,hx,hi⟩
 ·simp at h1;subst h1;exact⟨[],fun x hx=>(by cases hx),⟨.slice none 0 0,rfl,.sl0 (.inl rfl)⟩,rfl⟩
 ·simp at hcs;subst hcs;simp only[if_true]at hmm;subst hmm;unfold maxLen at hm;rw[hC]at hi;obtain⟨b,off,spot⟩:=a;rcases Nat.eq_zero_or_pos m with rfl | hcap
  ·obtain rfl:len=0:=by omega
   refine⟨[],fun x hx=>(by cases hx),⟨.slice (some ⟨w.heap.size,0,none⟩) 0 CU,?_,.sl0 (.inr ⟨_,_,_,rfl⟩)⟩,rfl⟩
   cases spot<;>rfl
  ·have h00:∃ v0,w.cell? ⟨b,off,spot⟩=some v0/\isU8 v0=false:=by
    obtain⟨cs',h2,h2'⟩:=hi 0 hcap;obtain⟨_,h3,h4⟩:=World.cells?_some h2;have h5:=h4 0 h0;have h6:cs'[0]? = some (cs'[0]'(by omega)):=List.getElem?_eq_getElem (by omega)
    rw[h6]at h5
    have e:(((⟨b,off,spot⟩:Addr).add (0 * z)).add 0)=⟨b,off,spot⟩:=by
     unfold Addr.add;simp
    rw[e]at h5;obtain⟨_,_,_,_,h7⟩:=hE n cs' _ h2' h3;refine⟨_,h5,?_⟩
    match cs',h7,h3 with
    | c :: _,h7,_=>simpa using h7
    | [],_,h3=>exact absurd h3 (by simp;omega)
   obtain⟨v0,hv0,hv8⟩:=h00;obtain⟨hsp,hblk,c,e',fz,hc,hc0⟩:=ybgw hv0
   have hnu:¬ c.toList.all isU8=true:=fun q=>by
    have:=List.all_eq_true.1 q v0 (by rw[Array.mem_toList_iff];exact Array.mem_of_getElem? hc0)
    rw[hv8]at this;cases this
   have hsp:spot=none:=hsp;subst hsp;have hblk:b<w.heap.size:=hblk;have hc:w.heap[b]? = some (.cells c e' fz):=hc
   have habs:absV w.heap.size (.slice (some ⟨b,off,none⟩) len m)=some (.slice (some ⟨b,off,none⟩) len CU):=by
    unfold absV;rw[if_neg (by simp[simple])]
    simp only;rw[if_pos ⟨hl,hm⟩,if_neg (by omega),if_pos (by omega)]
   obtain⟨xs,x1,x2⟩:=ybom (p:=fun i x=>p x/\(f x).all one1=true /\ ∃ L:List Value,L.length=z/\RVL (memW w).b.get om0 (f x) L /\ ∀ j,j<z -> ∃ cv,w.cell? ⟨b,off+i * z+j,none⟩=some cv/\absV w.heap.size cv=L[j]?) len fun i hil=>by
    obtain⟨cs',h2,h3⟩:=hi i (by omega)
    obtain⟨_,h4,h5⟩:=World.cells?_some h2;obtain⟨x,q1,⟨L,q2,q3⟩,q4,_⟩:=hE n cs' _ h3 h4
    have hLz:L.length=z:=by
     have:=congrArg List.length q2
     simpa [h4]using this.symm
    refine⟨x,q1,q4,L,hLz,q3,fun j hj=>?_⟩;have hj':j<cs'.length:=by omega
    refine⟨cs'[j],?_,?_⟩
    ·have:=h5 j hj;rw[List.getElem?_eq_getElem hj']at this;rw[<- this];congr 1;unfold Addr.add;split<;>split<;>simp_all<;>omega
    ·have:=congrArg (fun l=>l[j]?) q2;simp only[List.getElem?_map,List.getElem?_eq_getElem hj']at this;rw[List.getElem?_eq_getElem (show j<L.length by omega)]at this ⊢
     simpa using this
   refine⟨xs,fun x hx=>?_,⟨_,habs,?_⟩,rfl⟩
   ·obtain⟨i,hi',rfl⟩:=List.getElem_of_mem hx;exact(x2 i _ (List.getElem?_eq_getElem hi')).1
   ·rw[x1];rcases Nat.eq_zero_or_pos len with rfl | hlen
    ·exact .sl0 (.inr ⟨_,_,_,rfl⟩)
    ·have hat:∀ k,k<len -> ∃ L:List Value,L.length=z/\RVL (memW w).b.get om0 (f (xs.getD k d)) L/\(f (xs.getD k d)).all one1=true /\ ∀ j,j<z -> ∃ cv,w.cell? ⟨b,off+k * z+j,none⟩=some cv/\absV w.heap.size cv=L[j]?:=fun k hk=>by
      have hk':k<xs.length:=by omega
      obtain⟨_,q2,L,q3,q4,q5⟩:=x2 k _ (List.getElem?_eq_getElem hk');rw[List.getD_eq_getElem?_getD,List.getElem?_eq_getElem hk'];exact⟨L,q3,q4,q2,q5⟩
     classical
     let L:Nat->List Value:=fun k=>if hk:k<len then Classical.choose (hat k hk)else[]
     have hL:∀ k (hk:k<len),(L k).length=z/\RVL (memW w).b.get om0 (f (xs.getD k d)) (L k)/\(f (xs.getD k d)).all one1=true /\ ∀ j,j<z -> ∃ cv,w.cell? ⟨b,off+k * z+j,none⟩=some cv/\absV w.heap.size cv=(L k)[j]?:=fun k hk=>by
      have e:L k=Classical.choose (hat k hk):=by show(if hk:k<len then _ else _)=_;rw[dif_pos hk]
      rw[e];exact Classical.choose_spec (hat k hk)
     have hmem:(memW w).b.get b=some (.cells (yzx .leaf 0 (c.toList.map (absV w.heap.size))) c.size CU 0):=by
      rw[yiq];unfold absB;rw[hc];exact if_neg hnu
     have hget:∀ j cv,w.cell? ⟨b,j,none⟩=some cv->j<c.size/\(yzx .leaf 0 (c.toList.map (absV w.heap.size))).get j=absV w.heap.size cv:=fun j cv hcv=>by
      obtain⟨_,_,c2,e2,fz2,h1,h2⟩:=ybgw hcv;have h1:w.heap[b]? = some (.cells c2 e2 fz2):=h1;rw[hc]at h1;cases h1
      have h2:c[j]? = some cv:=h2;have hj:j<c.size:=(Array.getElem?_eq_some_iff.1 h2).1;refine⟨hj,?_⟩;rw[ylg,if_pos ⟨Nat.zero_le _,by simpa using hj⟩,Nat.sub_zero,List.getElem?_map]
      have:c.toList[j]? = some cv:=by simpa using h2
      rw[this];simp
     refine .sl (L:=L) hmem (.inr rfl) ?_ (fun k hk=>(hL k hk).1) (fun k hk j hj=>?_) (fun k hk=>(hL k hk).2.1) (fun k hk=>(hL k hk).2.2.1)
     ·obtain⟨_,_,_,q⟩:=hL (len - 1) (by omega)
      obtain⟨cv,h1,_⟩:=q (z - 1) (by omega)
      have:=(hget _ _ h1).1
      have e:len * z=(len - 1) * z+z:=by
       obtain⟨y,rfl⟩:∃ y,len=y+1:=⟨len - 1,by omega⟩
       rw[Nat.succ_mul];simp
      omega
     ·obtain⟨_,_,_,q⟩:=hL k hk;obtain⟨cv,h1,h2⟩:=q j hj;rw[(hget _ _ h1).2,h2]
theorem ybmi {t e:TypeId} {fuel:Nat} {v:Value} {x:DataW H × List MemPlace} (ht:P.underlying t=some (.slice e)) (he:P.underlying e=some (.int .i64)) (hC:P.cellsOf e=1)
  (h:DataW.trod enc P w base (fun _=>true) held fuel t [v]=some x):∃ xs,(∀ x ∈ xs,I64 x)/\ypw w (yj xs) v/\isU8 v=false:=by
 refine ytd (f:=fun x=>[.i .i64 x]) (p:=I64) 0 ht hC (by decide) (fun n cs' y h1 h2=>?_) h
 obtain⟨k,rfl,_,hw⟩:=DataW.trod_int he h1;exact⟨k,wf_i64 hw,(ywb w .i64 k).cons (ybdx.nil w),rfl,rfl⟩
end
section
variable {H:Type} {enc:TypeId × Value->H} {w:World} {base:Nat} {held:Bool} {n:Nat} {v:Value} {x:DataW H × List MemPlace}
theorem ybql(h:DataW.trod enc Tryz.prog w base (fun _=>true) held n 22 [v]=some x):∃ xs,(∀ x ∈ xs,I64 x)/\ypw w (yj xs) v/\isU8 v=false :=
 ybmi Tryz.underlying22 Tryz.underlying3 (by kernel_rfl) h
theorem yik(h:DataW.trod enc Tryz.prog w base (fun _=>true) held n 22 [v]=some x):∃ xs,(∀ x ∈ xs,I64 x)/\ypw w (yj xs) v:=by
 obtain⟨xs,h1,h2,_⟩:=ybql h;exact⟨xs,h1,h2⟩
end
theorem yuk {P:Program} {g:FuncId} {args:List SV} {x:Bool} {us':List Value} {w:World} (h:Returns P g args (.b x)) (hg:∃ fn c,P.funcs[g]? = some fn/\fn.body=some c) (hn:ymw P) (hG:GlW w)
  {us:List Value} (ha:RVL (memW w).b.get om0 args us) (hv:VRL (phiW w) us us'):Calls P g us'.toArray w fun e w'=>e = .returned (.bool x)/\Below w.heap.size w w' :=
 ybzd h hg hn hG ha hv (fun F u hu=>by cases hu;rfl) (fun φ v' hv'=>hv'.eq_simple rfl)
end Sh
end Go.Proofs.YtiejahgklcjhkaaGreatDoor

namespace Go.Proofs.YtiejahgklcjhkaaGreatDoor
namespace Sh
open Go Ev Go.RowKit Go.ChangeShapes Go.WideShapes Go.ChangeAt Go.Joins
theorem ydai{α:Type}{cs:Array α}(h:cs.size=6):∃ c0 c1 c2 c3 c4 c5,cs = #[c0,c1,c2,c3,c4,c5]:=by
 obtain⟨l⟩:=cs
 match l,h with
 | [c0,c1,c2,c3,c4,c5],_=>exact⟨c0,c1,c2,c3,c4,c5,rfl⟩
section
variable {H:Type} {enc:TypeId × Value->H} {P:Program} {w:World} {base:Nat} {held:Bool} {spare:Nat->Bool}
theorem six{α:Type}{xs:List α}(h:xs.length=6):∃ y0 y1 y2 y3 y4 y5,xs = [y0,y1,y2,y3,y4,y5]:=by
 match xs,h with
 | [y0,y1,y2,y3,y4,y5],_=>exact⟨y0,y1,y2,y3,y4,y5,rfl⟩
theorem ybrt {r:Reach} {b0:Nat} {t:TypeId} {f0 f1 f2 f3 f4 f5:Field} {v:Value} {d:DataW H} {p:List MemPlace} (hs:P.underlying t=some (.struct #[f0,f1,f2,f3,f4,f5])) (hone:Go.Deep.oneCellFields P #[f0,f1,f2,f3,f4,f5]=true) (hC:P.cellsOf t=6)
  (hv:Value.okWide P w r b0 t v) (h:DataW.Trod enc P w base spare held t v d p) :
  ∃ (v0 v1 v2 v3 v4 v5:Value) (y0 y1 y2 y3 y4 y5:DataW H × List MemPlace) (n:Nat),v = .agg #[v0,v1,v2,v3,v4,v5] /\
   DataW.trod enc P w base spare held n f0.type [v0]=some y0/\DataW.trod enc P w base spare held n f1.type [v1]=some y1/\DataW.trod enc P w base spare held n f2.type [v2]=some y2 /\
   DataW.trod enc P w base spare held n f3.type [v3]=some y3/\DataW.trod enc P w base spare held n f4.type [v4]=some y4/\DataW.trod enc P w base spare held n f5.type [v5]=some y5:=by
 obtain⟨cs,rfl,hsz⟩:=okWide_struct hs hv;obtain⟨c0,c1,c2,c3,c4,c5,rfl⟩:=ydai (hsz.trans hC);obtain⟨fuel,hf⟩:=h;obtain⟨xs,n,_,_,_,hlen,hf⟩:=DataW.trod_struct hs hf;obtain⟨y0,y1,y2,y3,y4,y5,rfl⟩:=six hlen;obtain⟨o0,k0⟩:=Go.Deep.hone_of hone 0 f0 rfl;obtain⟨o1,k1⟩:=Go.Deep.hone_of hone 1 f1 rfl;obtain⟨o2,k2⟩:=Go.Deep.hone_of hone 2 f2 rfl;obtain⟨o3,k3⟩:=Go.Deep.hone_of hone 3 f3 rfl;obtain⟨o4,k4⟩:=Go.Deep.hone_of hone 4 f4 rfl
 obtain⟨o5,k5⟩:=Go.Deep.hone_of hone 5 f5 rfl;have h0:=hf 0 f0 rfl;have h1:=hf 1 f1 rfl;have h2:=hf 2 f2 rfl;have h3:=hf 3 f3 rfl;have h4:=hf 4 f4 rfl;have h5:=hf 5 f5 rfl;rw[o0,k0]at h0;rw[o1,k1]at h1;rw[o2,k2]at h2;rw[o3,k3]at h3;rw[o4,k4]at h4;rw[o5,k5]at h5;exact⟨c0,c1,c2,c3,c4,c5,y0,y1,y2,y3,y4,y5,n,rfl,h0,h1,h2,h3,h4,h5⟩
end
set_option maxRecDepth 8000
section
variable {H:Type} {enc:TypeId × Value->H} {w:World} {base:Nat} {held:Bool} {n:Nat} {v:Value} {x:DataW H × List MemPlace}
theorem ybvp(w:World)(b:Bool):ypw w (.b b) (.bool b):=⟨.bool b,rfl,.b⟩
theorem ybzv(h:DataW.trod enc Tryz.prog w base (fun _=>true) held n 38 [v]=some x):∃ xs:List Nat,(∀ k,xs.getD k 0<2 ^ 32)/\ypw w (usV xs) v:=by
 obtain⟨xs,h1,h2,_⟩:=ytd (f:=fun x:Nat=>[SV.i .u32 (x:Int)]) (p:=fun x=>x<2 ^ 32) 0 (z:=1) Tryz.underlying38 (by kernel_rfl) (by decide) (fun n cs' y h1 h2=>by
  obtain⟨k,rfl,_,hw⟩:=DataW.trod_int Tryz.underlying40 h1;have hb:=bounds_u32 hw;obtain⟨m,rfl⟩:∃ m:Nat,k=m:=⟨k.toNat,by omega⟩
  exact⟨m,by omega,(ywb w .u32 m).cons (ybdx.nil w),rfl,rfl⟩) h
 refine⟨xs,fun k=>?_,h2⟩;rcases Nat.lt_or_ge k xs.length with q | q
 ·rw[List.getD_eq_getElem?_getD,List.getElem?_eq_getElem q];exact h1 _ (List.getElem_mem q)
 ·rw[List.getD_eq_getElem?_getD,List.getElem?_eq_none q];decide
theorem yzr{l:List Int}(h:∀ x ∈ l,I64 x)(k:Nat):inK .i64 (l.getD k 0):=by
 have:I64 (l.getD k 0):=by
  rcases Nat.lt_or_ge k l.length with q | q
  ·rw[List.getD_eq_getElem?_getD,List.getElem?_eq_getElem q];exact h _ (List.getElem_mem q)
  ·rw[List.getD_eq_getElem?_getD,List.getElem?_eq_none q];exact ydx (by decide)
 exact this
theorem yblq{v:Value}{x:DataW H × List MemPlace}(h:DataW.trod enc Tryz.prog w base (fun _=>true) held n 3 [v]=some x):∃ k,inK .i64 k/\ypw w (.i .i64 k) v:=by
 obtain⟨k,e,_,hw⟩:=DataW.trod_int Tryz.underlying3 h;simp at e;subst e;exact⟨k,wf_i64 hw,ywb w .i64 k⟩
theorem ytq{v:Value}{x:DataW H × List MemPlace}(h:DataW.trod enc Tryz.prog w base (fun _=>true) held n 4 [v]=some x):∃ b,ypw w (.b b) v:=by
 obtain⟨b,e,_⟩:=DataW.trod_bool Tryz.underlying4 h;simp at e;subst e;exact⟨b,ybvp w b⟩
theorem ybba{b0:Nat}{d:DataW H}{p:List MemPlace}(hv:Value.okWide Tryz.prog w .any b0 24 v)(h:DataW.Trod enc Tryz.prog w base (fun _=>true) held 24 v d p) :
  ∃ (x:NetR) (u:Value),x.ok/\RV (memW w).b.get om0 (.ag (netC x)) u/\VR (phiW w) u v:=by
 obtain⟨v0,v1,v2,v3,v4,v5,y0,y1,y2,y3,y4,y5,n,rfl,h0,h1,h2,h3,h4,h5⟩:=ybrt Tryz.underlying24 (by kernel_rfl) (by kernel_rfl) hv h
 obtain⟨k,kI,u0,a0,r0⟩:=yblq h0;obtain⟨ls,lI,u1,a1,r1⟩:=yik h1;obtain⟨ws,wI,u2,a2,r2⟩:=yik h2;obtain⟨is,iI,u3,a3,r3⟩:=yik h3;obtain⟨ap,u4,a4,r4⟩:=ytq h4;obtain⟨bk,u5,a5,r5⟩:=ytq h5;refine⟨⟨k,ls,ws,is,ap,bk⟩,.agg [u0,u1,u2,u3,u4,u5].toArray,⟨kI,yzr lI,yzr wI,yzr iI⟩,.ag (.cons r0 (.cons r1 (.cons r2 (.cons r3 (.cons r4 (.cons r5 .nil)))))),?_⟩;exact .agg (a:=[u0,u1,u2,u3,u4,u5]) (a':=[v0,v1,v2,v3,v4,v5]) (.cons (ygn a0) (.cons (ygn a1) (.cons (ygn a2) (.cons (ygn a3) (.cons (ygn a4) (.cons (ygn a5) .nil))))))
end
end Sh
end Go.Proofs.YtiejahgklcjhkaaGreatDoor

namespace Go.Proofs.YtiejahgklcjhkaaGreatDoor
open Go
def ioN:List Nat:=[104,97,114,110,101,115,115,32,101,52,49,99,97,57,54,99,54,54,56,50,102,54,55,101,57,51,102,51,48,51,101,48,51,98,57,97,56,54,102,55,97,50,53,102,55,52,99,102,98,55,57,53,57,48,57,52,55,52,55,48,48,102,100,56,48,52,56,55,54,48,53,97,32,99,117,116,32,97,116,32,115,101,108,102,115,116,97,98,47,115,101,108,102,115,116,97,98,108,97,119,50,55,46,67,101,110,116,101,114,77,105,100,100,108,101,32,115,101,108,102,115,116,97,98,47,115,101,108,102,115,116,97,98,108,97,119,50,55,46,67,101,110,116,101,114,82,111,117,110,100,115,32,115,101,108,102,115,116,97,98,47,115,101,108,102,115,116,97,98,108,97,119,50,55,46,67,101,110,116,101,114,82,101,97,99,104,101,115,32,115,101,108,102,115,116,97,98,47,115,101,108,102,115,116,97,98,108,97,119,50,55,46,67,101,110,116,101,114,82,101,115,116,115,32,115,101,108,102,115,116,97,98,47,115,101,108,102,115,116,97,98,108,97,119,50,55,46,67,101,110,116,101,114,65,110,111,110,121,109,111,117,115,32,115,101,108,102,115,116,97,98,47,115,101,108,102,115,116,97,98,108,97,119,50,56,46,69,108,101,99,116,105,111,110,82,101,97,99,104,101,115,32,115,101,108,102,115,116,97,98,47,115,101,108,102,115,116,97,98,108,97,119,50,56,46,69,108,101,99,116,105,111,110,82,101,115,116,115,32,115,101,108,102,115,116,97,98,47,115,101,108,102,115,116,97,98,108,97,119,50,56,46,69,108,101,99,116,105,111,110,67,101,110,116,114,101,32,115,101,108,102,115,116,97,98,47,115,101,108,102,115,116,97,98,108,97,119,50,56,46,69,108,101,99,116,105,111,110,84,111,103,101,116,104,101,114,32,115,101,108,102,115,116,97,98,47,115,101,108,102,115,116,97,98,108,97,119,51,50,46,67,111,108,111,117,114,105,110,103,83,104,114,105,110,107,115,32,115,101,108,102,115,116,97,98,47,115,101,108,102,115,116,97,98,108,97,119,51,50,46,67,111,108,111,117,114,105,110,103,82,101,97,99,104,101,115,32,115,101,108,102,115,116,97,98,47,115,101,108,102,115,116,97,98,108,97,119,51,50,46,67,111,108,111,117,114,105,110,103,82,101,115,116,115,32,115,101,108,102,115,116,97,98,47,115,101,108,102,115,116,97,98,108,97,119,51,48,46,77,97,116,99,104,105,110,103,77,97,120,105,109,97,108,32,115,101,108,102,115,116,97,98,47,115,101,108,102,115,116,97,98,108,97,119,51,48,46,77,97,116,99,104,105,110,103,83,116,97,121,115,32,115,101,108,102,115,116,97,98,47,115,101,108,102,115,116,97,98,108,97,119,51,48,46,77,97,116,99,104,105,110,103,84,111,103,101,116,104,101,114,32,115,101,108,102,115,116,97,98,47,115,101,108,102,115,116,97,98,108,97,119,51,48,46,77,97,116,99,104,105,110,103,82,101,97,99,104,101,115,32,115,101,108,102,115,116,97,98,47,115,101,108,102,115,116,97,98,108,97,119,51,48,46,77,97,116,99,104,105,110,103,82,101,115,116,115,32,115,101,108,102,115,116,97,98,47,115,101,108,102,115,116,97,98,108,97,119,50,54,46,76,101,97,100,101,114,65,110,121,119,104,101,114,101]
theorem ydgm:Tryz.prog.initOrder=String.ofList (ioN.map Char.ofNat):=by kernel_rfl
theorem yws:Tryz.prog.initOrder.toList=ioN.map Char.ofNat:=by rw[ydgm];exact String.toList_ofList
theorem ycwj (P : Program) {l c : List Char} {rest : List (List Char)} (h : P.initOrder.toList = l) (hb : behindMainWord (wordsSigns l) = c :: rest) (h1 : (c == "gc".toList || c == "spec".toList) = false) (h2 : (c == "cut".toList) = true) : P.make = some Make.cut := by
 unfold Program.make;rw[h,hb];simp only[h1,h2];simp
theorem ybyo (P : Program) {l c : List Char} {rest : List (List Char)} (h : P.initOrder.toList = l) (hb : behindMainWord (wordsSigns l) = c :: rest) (e : (stripLifts liftWords (c :: rest)).1 = []) (e2 : ((stripLifts liftWords (c :: rest)).2.head? == some "cut".toList) = true)
  (h1:P.bearsReflect=false) (h2:P.laysLater=false) (h3:P.doorFits []=true):P.mayEnter=true:=by
 unfold Program.mayEnter;rw[h,hb];simp only[e,e2,h1,h2,h3];simp
theorem yddv : behindMainWord (wordsSigns (ioN.map Char.ofNat)) = "cut".toList :: (behindMainWord (wordsSigns (ioN.map Char.ofNat))).tail := by kernel_rfl
theorem ybrd:Tryz.prog.make=some Make.cut:=ycwj _ yws yddv (by kernel_rfl) (by kernel_rfl)
theorem ybhy:Tryz.prog.mayEnter=true:=ybyo _ yws yddv (by kernel_rfl) (by kernel_rfl) (by kernel_rfl) (by kernel_rfl) (by kernel_rfl)
def ioH:List Nat:=[101,52,49,99,97,57,54,99,54,54,56,50,102,54,55,101,57,51,102,51,48,51,101,48,51,98,57,97,56,54,102,55,97,50,53,102,55,52,99,102,98,55,57,53,57,48,57,52,55,52,55,48,48,102,100,56,48,52,56,55,54,48,53,97]
theorem yctd : "e41ca96c6682f67e93f303e03b9a86f7a25f74cfb795909474700fd80487605a".toList = ioH.map Char.ofNat := by
 have h : "e41ca96c6682f67e93f303e03b9a86f7a25f74cfb795909474700fd80487605a" = String.ofList (ioH.map Char.ofNat) := by kernel_rfl
 rw[h];exact String.toList_ofList
theorem yctl (P : Program) {l h s : List Char} {rest : List (List Char)} (hl : P.initOrder.toList = l) (hb : wordsSigns l = h :: s :: rest) (hs : isSumSigns s = true) (hh : (h == "harness".toList) = true) : P.mainIs = some (true, s) := by
 unfold Program.mainIs;rw[hl,hb];simp only[hs,hh];simp
theorem ydgj:wordsSigns (ioN.map Char.ofNat)=([104,97,114,110,101,115,115]:List Nat).map Char.ofNat :: ioH.map Char.ofNat :: (wordsSigns (ioN.map Char.ofNat)).tail.tail:=by kernel_rfl
theorem io_main : Tryz.prog.mainIs = some (true, "e41ca96c6682f67e93f303e03b9a86f7a25f74cfb795909474700fd80487605a".toList) := by
 rw[yctd];exact yctl _ yws ydgj (by kernel_rfl) (by kernel_rfl)
theorem io_looks:true=Tryz.prog.looks []:=by kernel_rfl
theorem ybhz:Tryz.prog.liftsFinal=false:=by
 unfold Program.liftsFinal Program.headLifts;rw[yws]
 kernel_rfl
end Go.Proofs.YtiejahgklcjhkaaGreatDoor

