/- Lemmas, joined: ShZ ScPq Fl Lks WkB ScKc KcA WcA WeA WeB Ht Dia ScCe CeA MtP ScMt MtA CmC ScDl NtT MzC Mz0 Mz1. -/
import Derived.Test.YtiejahgklcjhkaaGreatDoorPkF13
import Derived.Test.YtiejahgklcjhkaaGreatDoorPkF9
import Derived.Test.YtiejahgklcjhkaaGreatDoorPkF11
import Derived.Test.YtiejahgklcjhkaaGreatDoorPkF14
import Derived.Test.YtiejahgklcjhkaaGreatDoorPkF15
import Derived.Test.YtiejahgklcjhkaaGreatDoorPkF16
import Derived.Test.YtiejahgklcjhkaaGreatDoorPkF5
import Derived.Test.YtiejahgklcjhkaaGreatDoorPkF6
import Derived.Test.YtiejahgklcjhkaaGreatDoorPkF10
set_option linter.unusedSimpArgs false
set_option linter.unusedVariables false
namespace Go.Proofs.YtiejahgklcjhkaaGreatDoor
namespace Sh
open Go Ev Go.RowKit
section
variable {m:Mem} {F:AM}
theorem row_of{z bk p n cp N e zz:Nat}{Tb:Ev.T Value}{L:Nat->List Value}(h1:m.b.get bk=some (.cells Tb N e zz))(h2:0<n)(h3:p+n * z<=N)(h4:∀ a,a<n->(L a).length=z)(h5:∀ a,a<n -> ∀ j,j<z->Tb.get (p+a * z+j)=(L a)[j]?) :
  rowOf m z (.slice (some ⟨bk,p,none⟩) n cp)=some (ybm L n,[bk]):=by
 have hl:=ybz h4;show(bif Nat.beq n 0 then _ else _)=_;rw[show Nat.beq n 0=false by cases n with | zero=>omega | succ n=>rfl]
 simp only[cond_false];rw[h1];simp only;rw[Nat.ble_eq_true_of_le h3];simp only[cond_true]
 have hg:=yfh (T:=Tb) (L:=ybm L n) (o:=p) (fun j hj=>by
  rw[hl]at hj;rcases Nat.eq_zero_or_pos z with hz | hz
  ·subst hz;omega
  ·have hd:=Nat.div_add_mod j z;have hm:=Nat.mod_lt j hz;have hk:j / z<n:=Nat.div_lt_of_lt_mul (by rwa [Nat.mul_comm]at hj)
   have e1:j=j / z * z+j % z:=by rw[Nat.mul_comm];exact hd.symm
   rw[e1,yei h4 _ _ hk hm,<- Nat.add_assoc];exact h5 _ hk _ hm)
 rw[hl]at hg;rw[hg]
theorem row_zero{u:Value}(h:Z0 u)(z:Nat):rowOf m z u=some ([],[]):=by
 rcases h with rfl | ⟨b,o,c,rfl⟩
 ·rfl
 ·rfl
theorem in64{n:Int}(h:I64 n):inI64 n=true:=by
 unfold I64 at h;unfold inI64;split
 ·rename_i k;exact Nat.ble_eq_true_of_le (by simp only[Int.ofNat_eq_natCast]at h;omega)
 ·rename_i k;exact Nat.ble_eq_true_of_le (by omega)
theorem ynp{a b:Int}(ha:I64 a)(hb:I64 b):∀ {l:List Value} {r:List (Int × Int)},pairsOf l=some r->pairsOf (l ++ [.int .i64 a,.int .i64 b])=some (r ++ [(a,b)])
 | [],r,h=>by
  cases h
  show(bif inI64 a && inI64 b then _ else _)=_;rw[in64 ha,in64 hb];rfl
 | .int .i64 x :: .int .i64 y :: l,r,h=>by
  unfold pairsOf at h;split at h
  ·rename_i r' hr
   rw[Bool.cond_eq_ite]at h;split at h
   ·rename_i hc
    cases h
    show(match pairsOf (l ++ [.int .i64 a,.int .i64 b])with | some r=>bif inI64 x && inI64 y then some ((x,y) :: r)else none | none=>none)=_
    rw[ynp ha hb hr];simp only[hc,cond_true];rfl
   ·cases h
  ·cases h
theorem ybix(hF:Le F m.b.get){ls:List (Int × Int)}{u:Value}(h:RV F om0 (yg ls) u)(hI:∀ l ∈ ls,I64 l.1/\I64 l.2):linksOf m u=some ls:=by
 unfold linksOf;rcases h.sl_inv with⟨h0,hz⟩ | ⟨bk,p,cp,T,N,e,zz,L,rfl,g1,g2,g3,g4,g5,g6,g7⟩
 ·rw[row_zero hz];have:ls = []:=List.eq_nil_of_length_eq_zero h0;subst this;rfl
 ·rcases Nat.eq_zero_or_pos ls.length with h0 | h0
  ·have:ls = []:=List.eq_nil_of_length_eq_zero h0;subst this;rfl
  ·rw[row_of (hF _ _ g1) h0 g3 g4 g5]
   have:∀ n,n<=ls.length->pairsOf (ybm L n)=some (ls.take n):=by
    intro n
    induction n with
    | zero=>intro _;rfl
    | succ n ih =>
     intro hn;have hn':n<ls.length:=by omega
     have hl:=g6 n hn'
     have e1:L n = [.int .i64 ls[n].1,.int .i64 ls[n].2]:=by
      have e0:ls.getD n (0,0)=ls[n]:=by simp[List.getD,hn']
      rw[e0]at hl;obtain⟨x,y,e2,hx,hy⟩:=rvl2 hl;rw[e2,hx.int_inv,hy.int_inv]
     show pairsOf (ybm L n ++ L n)=_;rw[e1,List.take_succ_eq_append_getElem hn'];have:=hI ls[n] (List.getElem_mem hn');exact ynp this.1 this.2 (ih (by omega))
   simp only;rw[this _ (Nat.le_refl _),List.take_length]
theorem ybnw{α β:Type}{f:α->Option β}:∀ {l:List α} {r:List β},l.length=r.length->(∀ (k:Nat) x y,l[k]? = some x->r[k]? = some y->f x=some y)->mapO f l=some r
 | [],[],_,_=>rfl
 | x :: l,y :: r,hl,h=>by
  unfold mapO;rw[h 0 x y rfl rfl];simp only;rw[ybnw (by simpa using hl) fun k a b h1 h2=>h (k+1) a b (by simpa using h1) (by simpa using h2)]
 | [],_ :: _,hl,_=>by simp at hl
 | _ :: _,[],hl,_=>by simp at hl
theorem ybux{L:Nat->List Value}{n:Nat}(h:∀ a,a<n->(L a).length=1){k:Nat}(hk:k<n):(ybm L n)[k]? = (L k)[0]?:=by
 have:=yei h k 0 hk (by omega)
 simpa using this
theorem ybit{ids:SV}{P:List (List (Int × Int))}{u:Value}(h:RV F om0 (.rf [ids,portsV P]) u)(hI:∀ ls ∈ P,∀ l ∈ ls,I64 l.1/\I64 l.2) :
  ∃ A v us,u = .pointer (some A) /\ ∀ m:Mem,Le F m.b.get->graphOf m A=some ⟨v,us,P⟩:=by
 obtain⟨bk,p,T,N,e,zz,L,rfl,h1,h2,h3,h4,_⟩:=h.rf_inv;cases h4 with
 | cons a0 b0 =>
  cases b0 with
  | cons a1 b1 =>
   rename_i u0 _ u1 _
   cases b1
   have hbox:∀ m:Mem,Le F m.b.get->boxPorts m ⟨bk,p,none⟩=some u1:=fun m hF=>by
    unfold boxPorts;simp only;rw[hF _ _ h1];simp only;rw[show Nat.blt (p+1) N=true from Nat.ble_eq_true_of_le (show p+1+1<=N by simp at h2;omega)]
    simp only[cond_true];exact h3 1 (by simp)
   have fin:∀ (us:List Value) (ft:List Nat),(∀ m:Mem,Le F m.b.get->rowOf m 1 u1=some (us,ft))->us.length=P.length->(∀ (k:Nat) x y,us[k]? = some x->P[k]? = some y->RV F om0 (yg y) x) ->
     ∃ A v us,Value.pointer (some ⟨bk,p,none⟩) = .pointer (some A) /\ ∀ m:Mem,Le F m.b.get->graphOf m A=some ⟨v,us,P⟩:=fun us ft hr hl hx=>by
    refine⟨_,u1,us,rfl,fun m hF=>?_⟩;unfold graphOf;rw[hbox m hF];show ob (rowOf m 1 u1) _=_;rw[hr m hF];show ob (mapO (linksOf m) us) _=_;rw[ybnw hl fun k x y q1 q2=>ybix hF (hx k x y q1 q2) (hI y (List.mem_of_getElem? q2))];rfl
   rcases a1.sl_inv with⟨k0,hz⟩ | ⟨bk',p',cp,T',N',e',zz',L',rfl,g1,g2,g3,g4,g5,g6,g7⟩
   ·have:P = []:=List.eq_nil_of_length_eq_zero k0;subst this;exact fin [] [] (fun m _=>row_zero hz 1) rfl (fun k x y q _=>by simp at q)
   ·rcases Nat.eq_zero_or_pos P.length with h0 | h0
    ·have:P = []:=List.eq_nil_of_length_eq_zero h0;subst this;exact fin [] [] (fun m _=>rfl) rfl (fun k x y q _=>by simp at q)
    ·refine fin (ybm L' P.length) [bk'] (fun m hF=>row_of (hF _ _ g1) h0 g3 g4 g5) (by rw[ybz g4,Nat.mul_one]) fun k x y q1 q2=>?_
     have hk:k<P.length:=(List.getElem?_eq_some_iff.1 q2).1;rw[ybux g4 hk]at q1;have hl:=g6 k hk;have e0:P.getD k []=y:=by simp[List.getD,q2]
     rw[e0]at hl;obtain⟨v,e1,hv⟩:=rvl1 hl;rw[e1]at q1;cases q1
     exact hv
end
def linkEl(P:List (List (Int × Int)))(k:Nat):El:=(flatAt 0 P).getD k ⟨0,0,0⟩
def linksS(P:List (List (Int × Int))):ItS:=⟨(flatAt 0 P).length,fun k=>[.i .i64 (linkEl P k).v,.ag [.i .i64 (linkEl P k).a,.i .i64 (linkEl P k).b]],[],fun _ _=>True,fun _ o=>o⟩
theorem links_it{ids:SV}{P:List (List (Int × Int))}(hI:∀ ls ∈ P,∀ l ∈ ls,I64 l.1/\I64 l.2):ItC Tryz.prog 158 [.rf [ids,portsV P]] (linksS P):=by
 intro lo F ω s f m us hc hr _;obtain⟨u,rfl,hu⟩:=rvl1 hr
 have hu0:RV F om0 (.rf [ids,portsV P]) u:=by
  obtain⟨bk,p,T,N,e,zz,L,rfl,h1,h2,h3,h4,h5⟩:=hu.rf_inv;exact .rf h1 h2 h3 h4 h5
 obtain⟨A,v,vs,rfl,hg⟩:=ybit hu0 hI;have el0:∀ k,k<(flatAt 0 P).length->(flatAt 0 P)[k]? = some (linkEl P k):=fun k hk=>by simp[linkEl,List.getD,hk]
 refine⟨⟨(flatAt 0 P).length,fun k=>[(linkEl P k).v0,(linkEl P k).v1],fun _ m=>graphOf m A=some ⟨v,vs,P⟩,fun _ m=>m,fun _ _ M w M' w'=>M'=M/\w'=w⟩,⟨yvj.1,fun k m hk hw _=>Grow.refl hw,?_,?_⟩,rfl,fun F' ω' s' f' m' k hF _ hc' hk _=>⟨hg m' (hF.trans hc'.sub),fun hk=>⟨.cons .i (.cons (.ag (.cons .i (.cons .i .nil))) .nil),hc'⟩⟩⟩
 ·rintro k φ M w m M' w' hk hw hR hs hp ⟨rfl,rfl⟩;exact Good.refl hR hs
 ·intro l St Stop φ M w cap' hread hgrow hyield h0 hcap;obtain⟨box,rfl,hbox⟩:=yen hcap;refine CallsIn.mono (yvj.2 l A ⟨v,vs,P⟩ (fun pre φ' M' w'=>φ.le φ'/\(∃ post,flatAt 0 P=pre ++ post)/\St pre.length φ' M' w') Stop φ M w box ?_ ?_ ?_ ⟨φ.le_refl,⟨_,rfl⟩,h0⟩ hbox) ?_
  ·rintro pre φ' M' w' ⟨_,_,hst⟩;exact(hread _ _ _ _ hst).2
  ·rintro pre φ' M' w' w'' ⟨h1,h2,hst⟩ hb;exact⟨h1,h2,hgrow _ _ _ _ _ hst hb⟩
  ·rintro pre x post φ' M' w' ⟨h1,_,hst⟩ hfl;have hfl:flatAt 0 P=pre ++ x :: post:=hfl;have hk:pre.length<(flatAt 0 P).length:=by rw[hfl];simp
   have ex:linkEl P pre.length=x:=by
    have:=el0 _ hk;rw[hfl,List.getElem?_append_right (Nat.le_refl _)]at this
    simpa using this.symm
   obtain⟨fn,tmps,asg,bd,hy1,hy2⟩:=hyield pre.length φ' M' w' [x.v0,x.v1] hk hst (by
    show VRL φ' [(linkEl P pre.length).v0,(linkEl P pre.length).v1] _;rw[ex];exact .cons (.simple rfl) (.cons (VR.atomA (v:=x.v1) rfl) .nil))
   refine⟨fn,tmps,asg,bd,hy1,hy2.mono ?_⟩
   ·rintro e w'' (⟨he,φ'',M'',h3,_,h4⟩ | h)
    ·refine .inl ⟨he,φ'',M'',h3,Phi.le_trans h1 h3,⟨post,by rw[hfl];simp⟩,?_⟩
     rw[List.length_append];exact h4 M'' w'' ⟨rfl,rfl⟩
    ·exact .inr h
  ·rintro e w' ⟨h1,(⟨φ',M',_,_,hst⟩ | h)⟩
   ·exact⟨h1,.inl ⟨φ',M',hst⟩⟩
   ·exact⟨h1,.inr h⟩
end Sh
end Go.Proofs.YtiejahgklcjhkaaGreatDoor

namespace Go.Proofs.YtiejahgklcjhkaaGreatDoor
namespace Sh
open Go Ev
def yceg:LO:=[o3 (.box 27 (.tmp 0)) 1 0,o3 (.mv (.const (.nilFunc))) 2 0]
def ycfb:LO:=[o3 (.mkfn 158 [] [(.tmp 1)]) 3 0,mv' 3 2 1]
def c120:SC:=(.seq (.reg false yceg) (.seq (.reg false ycfb) .ret))
theorem ycsh:Fn 120 c120 [.t 2]:=fn_0 Tryz.func120 (by kernel_rfl) (by kernel_rfl)
end Sh
end Go.Proofs.YtiejahgklcjhkaaGreatDoor

namespace Go.Proofs.YtiejahgklcjhkaaGreatDoor
open Ev
theorem ybaa:∀ (ps:List (List (Int × Int))) (v:Nat) (x:El),x ∈ flatAt v ps->v<=x.v/\x.v<v+ps.length/\(x.a,x.b) ∈ ps.getD (x.v - v) []
 | [],_,_,h=>absurd h List.not_mem_nil
 | ls :: l,v,x,h=>by
  rcases List.mem_append.1 h with h | h
  ·obtain⟨y,hy,rfl⟩:=List.mem_map.1 h;refine⟨Nat.le_refl _,by simp,?_⟩
   simp only[Nat.sub_self,List.getD_cons_zero];exact hy
  ·obtain⟨h1,h2,h3⟩:=ybaa l (v+1) x h;refine⟨by omega,by simp only[List.length_cons];omega,?_⟩
   have e:x.v - v=(x.v - (v+1))+1:=by omega
   rw[e,List.getD_cons_succ];exact h3
theorem linkEl_at{g:Gr}(hg:GoodG g){k:Nat}(hk:k<(flatAt 0 g.ports).length):(Sh.linkEl g.ports k).v<g.ports.length/\((Sh.linkEl g.ports k).a,(Sh.linkEl g.ports k).b) ∈ g.ports.getD (Sh.linkEl g.ports k).v []:=by
 have hm:Sh.linkEl g.ports k ∈ flatAt 0 g.ports:=by unfold Sh.linkEl;rw[Sh.getD_at hk];exact List.getElem_mem hk
 obtain⟨_,h2,h3⟩:=ybaa _ _ _ hm;exact⟨by omega,by simpa using h3⟩
theorem links_i64{g:Gr}(hg:GoodG g):∀ ls ∈ g.ports,∀ l ∈ ls,I64 l.1/\I64 l.2:=fun ls hls l hl=>by
 obtain⟨v,hv,e⟩:=List.getElem_of_mem hls;have h24:=hg.2.1;have:g.ports.getD v []=ls:=by simp[List.getD,hv,e]
 obtain⟨h1,h2,_,h4,h5⟩:=mem_adj hg hv (by rw[this];exact hl)
 exact⟨Sh.yfc (by omega),Sh.yfc (by omega)⟩
end Go.Proofs.YtiejahgklcjhkaaGreatDoor

namespace Go.Proofs.YtiejahgklcjhkaaGreatDoor
open Go
namespace Sh
open Ev Go.RowKit
set_option maxRecDepth 8000
theorem Links_ret{g:Gr}:Returns Tryz.prog 120 [grV g] (.fn 158 [] [.rf [intsV g.ids,portsV g.ports]]):=by
 refine Returns.of (ycsh _ _ ?_);simp only[c120,yceg,ycfb,grV,clash,go_sem,Nat.reduceEqDiff,Nat.reduceAdd,Nat.reduceLeDiff,Nat.reduceLT,↓reduceIte,reduceCtorEq];exact Sim.refl _
end Sh
end Go.Proofs.YtiejahgklcjhkaaGreatDoor

namespace Go.Proofs.YtiejahgklcjhkaaGreatDoor
section
variable {nm nc nr:ByteArray} {g:Gr} {c:Conf} {u v s:Nat}
theorem ycys{i:Nat}:(1 <<< v).testBit i=true ↔ i=v:=by
 rw[Nat.one_shiftLeft,Nat.testBit_two_pow,decide_eq_true_iff];exact eq_comm
theorem ybrp(hg:GoodG g):yoo g (1 <<< v):=fun a b hab ha=>by
 cases q:(1 <<< v).testBit b with
 | false=>rfl
 | true =>
  rw[ycys]at ha q;subst ha;subst q
  exact absurd hab fun h=>by
   obtain⟨hu,_⟩:=hg.adj_lt h;obtain⟨l,hl,e⟩:=yec.1 h;have e3:g.ports[b]? = some (g.ports.getD b []):=by simp[List.getD,hu]
   exact(hg.link e3 hl).2.2.1 e
end
end Go.Proofs.YtiejahgklcjhkaaGreatDoor

namespace Go.Proofs.YtiejahgklcjhkaaGreatDoor
namespace Sh
open Go Ev
end Sh
end Go.Proofs.YtiejahgklcjhkaaGreatDoor

namespace Go.Proofs.YtiejahgklcjhkaaGreatDoor
open Go
theorem ybyp{ps:List (List (Int × Int))}{v:Nat}{l:Int × Int}(hv:v<ps.length)(hl:l ∈ ps.getD v []):(⟨v,l.1,l.2⟩:Ev.El) ∈ Ev.flatAt 0 ps:=by
 have key:∀ (ps:List (List (Int × Int))) (b v:Nat),v<ps.length->l ∈ ps.getD v []->(⟨b+v,l.1,l.2⟩:Ev.El) ∈ Ev.flatAt b ps:=by
  intro ps
  induction ps with
  | nil=>intro b v h;simp at h
  | cons x ps ih =>
   intro b v h hl;show _ ∈ (x.map fun y=>(⟨b,y.1,y.2⟩:Ev.El)) ++ Ev.flatAt (b+1) ps;rw[List.mem_append];cases v with
   | zero=>exact .inl (List.mem_map.2 ⟨l,hl,rfl⟩)
   | succ v =>
    right
    have:=ih (b+1) v (by simpa using h) hl
    rwa [show b+1+v=b+(v+1)by omega]at this
 have:=key ps 0 v hv hl
 rwa [Nat.zero_add]at this
namespace Sh
open Ev Go.RowKit
set_option maxRecDepth 8000
end Sh
end Go.Proofs.YtiejahgklcjhkaaGreatDoor

namespace Go.Proofs.YtiejahgklcjhkaaGreatDoor
section
variable {nm nh nr:ByteArray} {g:Gr} {c:Conf} {v:Nat}
structure CnC(g:Gr)(c:Conf):Prop where
 len:c.length=g.ids.length
 row:∀ v,v<g.ids.length->(c.getD v []).length=1/\(0<=(c.getD v []).getD 0 0/\(c.getD v []).getD 0 0<=g.ids.length)
end
end Go.Proofs.YtiejahgklcjhkaaGreatDoor

namespace Go.Proofs.YtiejahgklcjhkaaGreatDoor
def hAt(c:Conf)(v:Nat):Int:=(c.getD v []).getD 0 0
def lAt(c:Conf)(v:Nat):Int:=(c.getD v []).getD 1 0
section
variable {nm nh nl nf nd nt ni:ByteArray} {g:Gr} {c:Conf} {u v w:Nat}
structure ElC(g:Gr)(c:Conf):Prop where
 len:c.length=g.ids.length
 row:∀ v,v<g.ids.length->(c.getD v []).length=2/\(0<=hAt c v/\hAt c v<=g.ids.length)/\(lAt c v=0\/lAt c v=1)
open Classical in
end
end Go.Proofs.YtiejahgklcjhkaaGreatDoor

namespace Go.Proofs.YtiejahgklcjhkaaGreatDoor
structure Stab(g:Gr)(c:Conf)(v:Nat):Prop where
 low:¬ Peak g v->lAt c v=0
 one:Peak g v->(∀ u,adj g v u->htP g u<htP g v)->lAt c v=1
 two:Peak g v -> ∀ u,adj g v u->htP g u=htP g v->lAt c u ≠ lAt c v
section
variable {nm nh nl nf nd nt ni:ByteArray} {g:Gr} {c:Conf} {u v w s:Nat}
end
end Go.Proofs.YtiejahgklcjhkaaGreatDoor

namespace Go.Proofs.YtiejahgklcjhkaaGreatDoor
section
variable {g:Gr} {u v:Nat}
end
end Go.Proofs.YtiejahgklcjhkaaGreatDoor

namespace Go.Proofs.YtiejahgklcjhkaaGreatDoor
section
variable {g:Gr} {a b v:Nat}
end
end Go.Proofs.YtiejahgklcjhkaaGreatDoor

namespace Go.Proofs.YtiejahgklcjhkaaGreatDoor
namespace Sh
open Go Ev
def ybmo:LO:=[o3 (.box 27 (.tmp 0)) 1 0,o3 (.mv (ci' 0)) 2 0,o3 (.mv (ci' 0)) 3 2]
def ybmm:LO:=[ld' true 2 1 6 0,cl' 96 [6] 7 1,o3 (.un .not (.tmp 7)) 8 3]
def ycpg:LO:=[o3 (.mv (ci' 0)) 2 0,o3 (.mv (ci' 0)) 3 1]
def yccp:LO:=[fa' 1 1 1 9 0,ld' false 1 9 10 1,ln' 10 11 3,o3 (.mv (ci' 0)) 12 0]
def ybuq:LO:=[bn' .lss 12 11 13 0]
def ycku:LO:=[ix' 1 10 12 14 0,ld' false 1 14 15 1,mv' 15 5 3]
def yclm:LO:=[mv' 3 16 0,mv' 5 17 0,ln' 17 18 2,bn' .add 16 18 19 7,mv' 19 3 15]
def ycfk:LO:=[o3 (.bin .add (.tmp 12) (ci' 1)) 20 0,mv' 20 12 1]
def ycgt:LO:=[fa' 0 1 1 21 0,ld' false 1 21 22 1,ln' 22 23 3,mv' 3 24 0,o3 (.bin .quo (.tmp 24) (ci' 2)) 25 8,mv' 23 2 7,mv' 25 3 63]
def c122:SC:=(.seq (.reg false ybmo) (.seq (.seq (.reg false ybmm) (.cond (.tmp 8) (.seq (.reg false ycpg) .ret) .skip)) (.seq (.seq (.reg false yccp) (.block 0 (.loop (.seq (.reg false ybuq) (.seq (.cond (.tmp 13) .skip (.exit 0)) (.seq (.block 1 (.seq (.reg false ycku) (.reg false yclm))) (.reg false ycfk))))))) (.seq (.reg false ycgt) .ret))))
theorem ycsj:Fn 122 c122 [.t 2,.t 3]:=fn_0 Tryz.func122 (by kernel_rfl) (by kernel_rfl)
def ybrb:LO:=[o3 (.box 27 (.tmp 0)) 1 0,o3 (.mv (ci' 0)) 2 0,o3 (.mv (ci' 0)) 3 2]
def ybte:LO:=[ld' true 2 1 6 0,cl' 85 [6] 7 1,o3 (.un .not (.tmp 7)) 8 3]
def ycog:LO:=[o3 (.mv (ci' 0)) 2 0,o3 (.mv (ci' 0)) 3 1]
def ycim:LO:=[o3 (.mv (ci' 0)) 4 0]
def ycqi:LO:=[o3 (.mv (ci' 0)) 5 0]
def ybvw:LO:=[mv' 5 9 0,fa' 1 1 1 10 0,ld' false 1 10 11 2,ln' 11 12 6,bn' .lss 9 12 13 15]
def ycit:LO:=[mv' 4 16 0,fa' 1 1 1 17 0,ld' false 1 17 18 2,mv' 5 19 0,ix' 1 18 19 20 14,ld' false 1 20 21 30,ln' 21 22 62,bn' .add 16 22 23 127,mv' 23 4 255]
def ycmc:LO:=[mv' 5 14 0,o3 (.bin .add (.tmp 14) (ci' 1)) 15 1,mv' 15 5 3]
def ychm:LO:=[fa' 1 1 1 24 0,ld' false 1 24 25 1,ln' 25 26 3,mv' 4 27 0,o3 (.bin .quo (.tmp 27) (ci' 2)) 28 8,mv' 26 2 7,mv' 28 3 63]
def c124:SC:=(.seq (.reg false ybrb) (.seq (.seq (.reg false ybte) (.cond (.tmp 8) (.seq (.reg false ycog) .ret) .skip)) (.seq (.reg false ycim) (.seq (.seq (.reg false ycqi) (.block 0 (.loop (.seq (.seq (.reg false ybvw) (.cond (.tmp 13) .skip (.exit 0))) (.seq (.block 1 (.reg false ycit)) (.reg false ycmc)))))) (.seq (.reg false ychm) .ret)))))
theorem ycub:Fn 124 c124 [.t 2,.t 3]:=fn_0 Tryz.func124 (by kernel_rfl) (by kernel_rfl)
def c5_0:LO:=[o3 (.box 24 (.tmp 0)) 3 0,o3 (.mv (.const (.bool false))) 6 0]
def c5_1:LO:=[ld' true 6 3 15 0,o3 (.call (.func 21) [(.tmp 15),(ci' 10)]) 16 1,o3 (.alloc 27 1 [.a (.slice none 0 0),.a (.slice none 0 0)]) 7 0,o0 (.store 2 (.tmp 7) (.tmp 16)) 7]
def c5_2:LO:=[ld' true 2 7 17 0,cl' 25 [] 18 0,mv' 1 19 0,cl' 24 [17,18,19] 20 7,mv' 20 8 15]
def c5_3:LO:=[cl' 23 [] 22 0,ld' true 2 7 23 0,ld' true 2 7 24 0,cl' 33 [24] 25 5,o3 (.field false 0 1 (.tmp 25)) 26 13,mv' 8 27 0,mv' 2 28 0,o3 (.call (.func 26) [(.tmp 28),(ci' 120)]) 29 77,cl' 22 [22,23,26,27,29] 30 255,mv' 30 21 511,xt' 21 0 31 1023,xt' 21 1 32 1023,xt' 21 2 33 1023,mv' 31 9 2047,mv' 32 10 12287,mv' 33 11 32767]
def c5_4:LO:=[mv' 11 34 0,o3 (.un .not (.tmp 34)) 35 1,mv' 35 36 3,⟨.load true 2 (.tmp 7),some 37,some (36,false),7⟩,⟨.call (.func 33) [(.tmp 37)],some 38,some (36,false),15⟩,⟨.load true 2 (.tmp 7),some 39,some (36,false),7⟩,⟨.call (.func 34) [(.tmp 39)],some 40,some (36,false),63⟩,⟨.seq true [false,true,true,false,false] (.tmp 38) (.tmp 40),some 41,some (36,false),127⟩,o3 (.pick (.tmp 36) (.const (.bool true)) (.tmp 41)) 42 255]
def c5_5:LO:=[o3 (.mv (.const (.bool false))) 6 0]
def c5_6:LO:=[o3 (.mv (.const (.slice none 0 0))) 12 0]
def c5_7:LO:=[o3 (.mv (ci' 0)) 13 0]
def c5_8:LO:=[mv' 13 43 0,mv' 9 44 0,ln' 44 45 2,bn' .lss 43 45 46 7]
def ydis:LO:=[mv' 12 49 0,ld' true 2 7 50 0,mv' 9 51 0,mv' 13 52 0,ix' 1 51 52 53 12,ld' false 1 53 54 28,cl' 35 [50,54] 55 62,o3 (.bslice 4 1 1 [.b false] [(0,1,(.tmp 55))]) 56 126,o3 (.app 4 1 1 (.tmp 49) (.tmp 56)) 57 255,mv' 57 12 511]
def c5_9:LO:=[mv' 13 47 0,o3 (.bin .add (.tmp 47) (ci' 1)) 48 1,mv' 48 13 3]
def ydks:LO:=[cl' 23 [] 58 0,cl' 37 [58] 59 1,ld' true 2 7 60 0,mv' 9 61 0,mv' 9 62 0,ln' 62 63 16,o3 (.bin .sub (.tmp 63) (ci' 1)) 64 48,ix' 1 61 64 65 120,ld' false 1 65 66 248,cl' 36 [59,60,66] 67 511,o3 (.bin .eql (.tmp 67) (.const (.int .u32 0))) 68 1023,mv' 68 14 2047]
def ydkt:LO:=[cl' 30 [] 69 0,mv' 69 70 1,⟨.mv (.tmp 12),some 71,some (70,true),3⟩,⟨.mv (.tmp 10),some 72,some (70,true),3⟩,⟨.load true 2 (.tmp 7),some 73,some (70,true),3⟩,⟨.call (.func 33) [(.tmp 73)],some 74,some (70,true),19⟩,⟨.mv (.tmp 14),some 75,some (70,true),3⟩,⟨.call (.func 38) [(.tmp 71),(.tmp 72),(.tmp 74),(.tmp 75)],some 76,some (70,true),127⟩,o3 (.pick (.tmp 70) (.tmp 76) (.const (.bool false))) 77 255,mv' 77 6 511]
def c5:SC:=(.seq (.reg false c5_0) (.seq (.reg false c5_1) (.seq (.reg true c5_2) (.seq (.reg true c5_3) (.seq (.seq (.reg true c5_4) (.cond (.tmp 42) (.seq (.reg false c5_5) .ret) .skip)) (.seq (.reg false c5_6) (.seq (.seq (.reg false c5_7) (.block 0 (.loop (.seq (.seq (.reg false c5_8) (.cond (.tmp 46) .skip (.exit 0))) (.seq (.block 1 (.reg true ydis)) (.reg false c5_9)))))) (.seq (.reg true ydks) (.seq (.reg false ydkt) .ret)))))))))
def c6_0:LO:=[o3 (.box 24 (.tmp 0)) 3 0,o3 (.mv (.const (.bool false))) 6 0]
def c6_1:LO:=[ld' true 6 3 13 0,o3 (.call (.func 21) [(.tmp 13),(ci' 10)]) 14 1,o3 (.alloc 27 1 [.a (.slice none 0 0),.a (.slice none 0 0)]) 7 0,o0 (.store 2 (.tmp 7) (.tmp 14)) 7]
def c6_2:LO:=[cl' 23 [] 15 0,cl' 37 [15] 16 1,o3 (.alloc 58 1 [.a (.string (ByteArray.mk #[])),.a (.slice none 0 0),.a (.slice none 0 0)]) 8 0,o0 (.store 3 (.tmp 8) (.tmp 16)) 7]
def c6_3:LO:=[cl' 23 [] 18 0,ld' true 2 7 19 0,ld' true 2 7 20 0,cl' 33 [20] 21 5,o3 (.field false 0 1 (.tmp 21)) 22 13,ld' true 2 7 23 0,cl' 25 [] 24 13,mv' 1 25 0,cl' 24 [23,24,25] 26 237,mv' 2 27 0,o3 (.call (.func 26) [(.tmp 27),(ci' 60)]) 28 1005,cl' 22 [18,19,22,26,28] 29 2047,mv' 29 17 4095,xt' 17 0 30 8191,xt' 17 1 31 8191,xt' 17 2 32 8191,mv' 30 9 16383,mv' 31 10 98303,mv' 32 11 262143]
def c6_4:LO:=[o3 (.mv (ci' 0)) 12 0]
def c6_5:LO:=[mv' 12 33 0,mv' 9 34 0,ln' 34 35 2,bn' .lss 33 35 36 7]
def c6_7:LO:=[ld' true 3 8 39 0,ld' true 2 7 40 0,mv' 9 41 0,mv' 12 42 0,ix' 1 41 42 43 12,ld' false 1 43 44 28,cl' 36 [39,40,44] 45 63,o3 (.bin .eql (.tmp 45) (.const (.int .u32 0))) 46 127,ld' true 2 7 47 0,mv' 9 48 0,mv' 12 49 0,ix' 1 48 49 50 1536,ld' false 1 50 51 3584,cl' 35 [47,51] 52 8063,o3 (.beq true (.tmp 46) (.tmp 52)) 53 16383]
def c6_8:LO:=[o3 (.mv (.const (.bool false))) 6 0]
def c6_6:LO:=[mv' 12 37 0,o3 (.bin .add (.tmp 37) (ci' 1)) 38 1,mv' 38 12 3]
def c6_9:LO:=[cl' 30 [] 54 0,mv' 54 55 1,⟨.mv (.tmp 11),some 56,some (55,true),3⟩,o3 (.pick (.tmp 55) (.tmp 56) (.const (.bool false))) 57 7,mv' 57 6 15]
def c6:SC:=(.seq (.reg false c6_0) (.seq (.reg false c6_1) (.seq (.reg false c6_2) (.seq (.reg true c6_3) (.seq (.seq (.reg false c6_4) (.block 0 (.loop (.seq (.seq (.reg false c6_5) (.cond (.tmp 36) .skip (.exit 0))) (.seq (.block 1 (.seq (.reg true c6_7) (.cond (.tmp 53) (.seq (.reg false c6_8) .ret) .skip))) (.reg false c6_6)))))) (.seq (.reg false c6_9) .ret))))))
def c4_0:LO:=[o3 (.box 24 (.tmp 0)) 3 0,o3 (.mv (.const (.bool false))) 6 0]
def c4_1:LO:=[ld' true 6 3 16 0,o3 (.call (.func 21) [(.tmp 16),(ci' 10)]) 17 1,o3 (.alloc 27 1 [.a (.slice none 0 0),.a (.slice none 0 0)]) 7 0,o0 (.store 2 (.tmp 7) (.tmp 17)) 7]
def c4_2:LO:=[cl' 23 [] 19 0,ld' true 2 7 20 0,ld' true 2 7 21 0,cl' 25 [] 22 1,mv' 1 23 0,cl' 24 [21,22,23] 24 29,mv' 2 25 0,o3 (.call (.func 26) [(.tmp 25),(ci' 80)]) 26 125,o3 (.call (.func 22) [(.tmp 19),(.tmp 20),(ci' 3),(.tmp 24),(.tmp 26)]) 27 255,mv' 27 18 511,xt' 18 0 28 1023,xt' 18 1 29 1023,xt' 18 2 30 1023,mv' 28 8 2047,mv' 29 9 12287,mv' 30 10 32767]
def c4_3:LO:=[o3 (.mv (ci' 0)) 11 0]
def c4_4:LO:=[mv' 11 31 0,mv' 8 32 0,ln' 32 33 2,bn' .lss 31 33 34 7]
def c4_6:LO:=[mv' 9 37 0,mv' 11 38 0,ix' 5 37 38 39 3,fa' 2 1 39 40 7,ld' false 1 40 41 15,o3 (.bin .sub (.tmp 41) (ci' 1)) 42 31,mv' 42 12 63]
def c4_7:LO:=[o3 (.mv (ci' 0)) 13 0]
def c4_8:LO:=[mv' 13 43 0,fa' 1 1 7 44 0,ld' false 1 44 45 2,ln' 45 46 6,bn' .lss 43 46 47 15,mv' 47 48 31,⟨.mv (.tmp 12),some 49,some (48,true),63⟩,⟨.bin .geq (.tmp 49) (ci' 0),some 50,some (48,true),127⟩,o3 (.pick (.tmp 48) (.tmp 50) (.const (.bool false))) 51 255]
def ydjn:LO:=[mv' 8 54 0,mv' 11 55 0,ix' 1 54 55 56 3,ld' false 1 56 57 7,ln' 57 58 15,fa' 1 1 7 59 0,ld' false 1 59 60 32,ln' 60 61 96,bn' .neq 58 61 62 255,mv' 62 63 511,⟨.mv (.tmp 8),some 64,some (63,false),1023⟩,⟨.mv (.tmp 11),some 65,some (63,false),1023⟩,⟨.idx 1 (.tmp 64) (.tmp 65),some 66,some (63,false),4095⟩,⟨.load false 1 (.tmp 66),some 67,some (63,false),8191⟩,⟨.mv (.tmp 13),some 68,some (63,false),1023⟩,⟨.idx 1 (.tmp 67) (.tmp 68),some 69,some (63,false),32767⟩,⟨.load false 1 (.tmp 69),some 70,some (63,false),65535⟩,⟨.len (.tmp 70),some 71,some (63,false),131071⟩,⟨.bin .neq (.tmp 71) (ci' 1),some 72,some (63,false),262143⟩,o3 (.pick (.tmp 63) (.const (.bool true)) (.tmp 72)) 73 524287]
def ydjy:LO:=[o3 (.mv (.const (.bool false))) 6 0]
def ydii:LO:=[mv' 8 74 0,mv' 11 75 0,ix' 1 74 75 76 3,ld' false 1 76 77 7,mv' 13 78 0,ix' 1 77 78 79 31,ld' false 1 79 80 63,o3 (.idx 1 (.tmp 80) (ci' 0)) 81 127,ld' false 1 81 82 255,ld' true 2 7 83 0,mv' 13 84 0,cl' 32 [83,84] 85 1536,mv' 82 14 4095,mv' 85 15 8191]
def ydig:LO:=[mv' 15 86 0,mv' 12 87 0,bn' .leq 86 87 88 3,mv' 88 89 7,⟨.mv (.tmp 14),some 90,some (89,true),15⟩,⟨.mv (.tmp 15),some 91,some (89,true),15⟩,⟨.bin .neq (.tmp 90) (.tmp 91),some 92,some (89,true),63⟩,o3 (.pick (.tmp 89) (.tmp 92) (.const (.bool false))) 93 127,mv' 93 94 255,⟨.mv (.tmp 15),some 95,some (94,false),511⟩,⟨.mv (.tmp 12),some 96,some (94,false),511⟩,⟨.bin .gtr (.tmp 95) (.tmp 96),some 97,some (94,false),2047⟩,⟨.mv (.tmp 97),some 98,some (94,false),4095⟩,⟨.mv (.tmp 14),some 99,some (98,true),8191⟩,⟨.mv (.tmp 12),some 100,some (98,true),8191⟩,⟨.bin .add (.tmp 100) (ci' 1),some 101,some (98,true),24575⟩,⟨.bin .lss (.tmp 99) (.tmp 101),some 102,some (98,true),65535⟩,⟨.pick (.tmp 98) (.tmp 102) (.const (.bool false)),some 103,some (94,false),131071⟩,o3 (.pick (.tmp 94) (.const (.bool true)) (.tmp 103)) 104 262143]
def ydla:LO:=[o3 (.mv (.const (.bool false))) 6 0]
def c4_9:LO:=[mv' 13 52 0,o3 (.bin .add (.tmp 52) (ci' 1)) 53 1,mv' 53 13 3]
def c4_5:LO:=[mv' 11 35 0,o3 (.bin .add (.tmp 35) (ci' 1)) 36 1,mv' 36 11 3]
def ydjd:LO:=[cl' 30 [] 105 0,mv' 105 106 1,⟨.mv (.tmp 10),some 107,some (106,true),3⟩,o3 (.pick (.tmp 106) (.tmp 107) (.const (.bool false))) 108 7,mv' 108 6 15]
def c4:SC:=(.seq (.reg false c4_0) (.seq (.reg false c4_1) (.seq (.reg true c4_2) (.seq (.seq (.reg false c4_3) (.block 0 (.loop (.seq (.seq (.reg false c4_4) (.cond (.tmp 34) .skip (.exit 0))) (.seq (.block 1 (.seq (.reg false c4_6) (.seq (.reg false c4_7) (.block 2 (.loop (.seq (.seq (.reg false c4_8) (.cond (.tmp 51) .skip (.exit 2))) (.seq (.block 3 (.seq (.seq (.reg true ydjn) (.cond (.tmp 73) (.seq (.reg false ydjy) .ret) .skip)) (.seq (.reg true ydii) (.seq (.reg false ydig) (.cond (.tmp 104) (.seq (.reg false ydla) .ret) .skip))))) (.reg false c4_9)))))))) (.reg false c4_5)))))) (.seq (.reg false ydjd) .ret)))))
def c3_0:LO:=[o3 (.box 24 (.tmp 0)) 2 0,o3 (.mv (.const (.bool false))) 4 0]
def c3_1:LO:=[ld' true 6 2 14 0,o3 (.call (.func 21) [(.tmp 14),(ci' 10)]) 15 1,o3 (.alloc 27 1 [.a (.slice none 0 0),.a (.slice none 0 0)]) 5 0,o0 (.store 2 (.tmp 5) (.tmp 15)) 7]
def c3_2:LO:=[cl' 23 [] 17 0,ld' true 2 5 18 0,ld' true 2 5 19 0,cl' 25 [] 20 1,mv' 1 21 0,cl' 24 [19,20,21] 22 29,o3 (.call (.func 26) [(.const (.slice none 0 0)),(ci' 12)]) 23 61,o3 (.call (.func 22) [(.tmp 17),(.tmp 18),(ci' 4),(.tmp 22),(.tmp 23)]) 24 127,mv' 24 16 255,xt' 16 0 25 511,xt' 16 1 26 511,xt' 16 2 27 511,mv' 25 6 1023,mv' 26 7 6143,mv' 27 8 16383]
def c3_3:LO:=[mv' 8 28 0,o3 (.un .not (.tmp 28)) 29 1]
def c3_4:LO:=[o3 (.mv (.const (.bool false))) 4 0]
def c3_5:LO:=[ld' true 2 5 30 0,mv' 6 31 0,mv' 6 32 0,ln' 32 33 4,o3 (.bin .sub (.tmp 33) (ci' 1)) 34 12,ix' 1 31 34 35 30,ld' false 1 35 36 62,cl' 27 [30,36] 37 127,mv' 37 9 255,o3 (.mv (ci' 24)) 10 511]
def c3_6:LO:=[o3 (.mv (ci' 0)) 11 0]
def c3_7:LO:=[mv' 11 38 0,fa' 1 1 5 39 0,ld' false 1 39 40 2,ln' 40 41 6,bn' .lss 38 41 42 15]
def c3_9:LO:=[mv' 10 45 0,ld' true 2 5 46 0,mv' 11 47 0,cl' 28 [46,47] 48 6,o3 (.mm false (.tmp 45) (.tmp 48)) 49 15,mv' 49 10 31]
def c3_8:LO:=[mv' 11 43 0,o3 (.bin .add (.tmp 43) (ci' 1)) 44 1,mv' 44 11 3]
def ydkb:LO:=[o3 (.mv (ci' 0)) 12 0]
def ydit:LO:=[o3 (.mv (ci' 0)) 13 0]
def ydiz:LO:=[mv' 13 50 0,fa' 1 1 5 51 0,ld' false 1 51 52 2,ln' 52 53 6,bn' .lss 50 53 54 15]
def ydkq:LO:=[mv' 9 57 0,mv' 13 58 0,cl' 29 [57,58] 59 3,ld' true 2 5 60 0,mv' 13 61 0,cl' 28 [60,61] 62 31,mv' 10 63 0,bn' .eql 62 63 64 127,o3 (.beq true (.tmp 59) (.tmp 64)) 65 255]
def ydjx:LO:=[o3 (.mv (.const (.bool false))) 4 0]
def ydjg:LO:=[mv' 9 66 0,mv' 13 67 0,cl' 29 [66,67] 68 3]
def ydjw:LO:=[mv' 12 69 0,o3 (.bin .add (.tmp 69) (ci' 1)) 70 1,mv' 70 12 3]
def ydkx:LO:=[mv' 13 55 0,o3 (.bin .add (.tmp 55) (ci' 1)) 56 1,mv' 56 13 3]
def ydjh:LO:=[cl' 30 [] 71 0,mv' 71 72 1,⟨.mv (.tmp 12),some 73,some (72,true),3⟩,⟨.bin .eql (.tmp 73) (ci' 1),some 74,some (72,true),7⟩,⟨.mv (.tmp 74),some 75,some (72,true),15⟩,⟨.mv (.tmp 12),some 76,some (75,false),31⟩,⟨.bin .eql (.tmp 76) (ci' 2),some 77,some (75,false),63⟩,⟨.mv (.tmp 77),some 78,some (75,false),127⟩,⟨.load true 2 (.tmp 5),some 79,some (78,true),255⟩,⟨.mv (.tmp 9),some 80,some (78,true),255⟩,⟨.call (.func 31) [(.tmp 79),(.tmp 80)],some 81,some (78,true),1023⟩,⟨.mv (.tmp 9),some 82,some (78,true),255⟩,⟨.bin .and (.tmp 81) (.tmp 82),some 83,some (78,true),4095⟩,⟨.mv (.tmp 9),some 84,some (78,true),255⟩,⟨.bin .eql (.tmp 83) (.tmp 84),some 85,some (78,true),16383⟩,⟨.pick (.tmp 78) (.tmp 85) (.const (.bool false)),some 86,some (75,false),32767⟩,⟨.pick (.tmp 75) (.const (.bool true)) (.tmp 86),some 87,some (72,true),65535⟩,o3 (.pick (.tmp 72) (.tmp 87) (.const (.bool false))) 88 131071,mv' 88 4 262143]
def c3:SC:=(.seq (.reg false c3_0) (.seq (.reg false c3_1) (.seq (.reg true c3_2) (.seq (.seq (.reg false c3_3) (.cond (.tmp 29) (.seq (.reg false c3_4) .ret) .skip)) (.seq (.reg true c3_5) (.seq (.seq (.reg false c3_6) (.block 0 (.loop (.seq (.seq (.reg false c3_7) (.cond (.tmp 42) .skip (.exit 0))) (.seq (.block 1 (.reg false c3_9)) (.reg false c3_8)))))) (.seq (.reg false ydkb) (.seq (.seq (.reg false ydit) (.block 2 (.loop (.seq (.seq (.reg false ydiz) (.cond (.tmp 54) .skip (.exit 2))) (.seq (.block 3 (.seq (.seq (.reg true ydkq) (.cond (.tmp 65) (.seq (.reg false ydjx) .ret) .skip)) (.seq (.reg false ydjg) (.cond (.tmp 68) (.reg false ydjw) .skip)))) (.reg false ydkx)))))) (.seq (.reg false ydjh) .ret)))))))))
def c7_0:LO:=[o3 (.box 24 (.tmp 0)) 2 0,o3 (.mv (.const (.bool false))) 4 0]
def c7_1:LO:=[ld' true 6 2 20 0,o3 (.call (.func 21) [(.tmp 20),(ci' 10)]) 21 1,o3 (.alloc 27 1 [.a (.slice none 0 0),.a (.slice none 0 0)]) 5 0,o0 (.store 2 (.tmp 5) (.tmp 21)) 7]
def c7_2:LO:=[fa' 1 1 5 22 0,ld' false 1 22 23 1,ln' 23 24 3,mv' 24 6 7]
def c7_3:LO:=[mv' 1 25 0,mv' 6 26 0,cl' 39 [25,26] 27 3,mv' 27 1 7]
def c7_4:LO:=[mv' 6 28 0,o3 (.mk 3 1 8 [.i .i64 0] (.tmp 28) (.tmp 28)) 29 1,mv' 29 7 3]
def c7_5:LO:=[o3 (.mv (ci' 0)) 8 0]
def c7_6:LO:=[mv' 8 30 0,mv' 6 31 0,bn' .lss 30 31 32 3]
def c7_8:LO:=[mv' 7 35 0,mv' 8 36 0,mv' 8 37 0,mv' 1 38 0,bn' .add 37 38 39 12,mv' 6 40 0,bn' .rem 39 40 41 60,ix' 1 35 36 42 127,o0 (.store 1 (.tmp 42) (.tmp 41)) 255]
def c7_7:LO:=[mv' 8 33 0,o3 (.bin .add (.tmp 33) (ci' 1)) 34 1,mv' 34 8 3]
def c7_9:LO:=[ld' true 2 5 44 0,mv' 7 45 0,cl' 40 [44,45] 46 3,mv' 46 43 7,xt' 43 0 47 15,xt' 43 1 48 15,o3 (.alloc 27 1 [.a (.slice none 0 0),.a (.slice none 0 0)]) 9 0,o0 (.store 2 (.tmp 9) (.tmp 47)) 95,mv' 48 10 255]
def ydix:LO:=[cl' 23 [] 50 0,ld' true 2 5 51 0,ld' true 2 5 52 0,cl' 25 [] 53 1,o3 (.call (.func 24) [(.tmp 52),(.tmp 53),(.const (.slice none 0 0))]) 54 13,o3 (.call (.func 26) [(.const (.slice none 0 0)),(ci' 12)]) 55 29,o3 (.call (.func 22) [(.tmp 50),(.tmp 51),(ci' 4),(.tmp 54),(.tmp 55)]) 56 63,mv' 56 49 127,xt' 49 0 57 255,xt' 49 1 58 255,xt' 49 2 59 255,mv' 57 11 511,mv' 58 12 3071,mv' 59 13 8191]
def ydjl:LO:=[cl' 23 [] 61 0,ld' true 2 9 62 0,ld' true 2 9 63 0,cl' 25 [] 64 1,o3 (.call (.func 24) [(.tmp 63),(.tmp 64),(.const (.slice none 0 0))]) 65 13,o3 (.call (.func 26) [(.const (.slice none 0 0)),(ci' 12)]) 66 29,o3 (.call (.func 22) [(.tmp 61),(.tmp 62),(ci' 4),(.tmp 65),(.tmp 66)]) 67 63,mv' 67 60 127,xt' 60 0 68 255,xt' 60 1 69 255,xt' 60 2 70 255,mv' 68 14 511,mv' 69 15 3071,mv' 70 16 8191]
def ydkz:LO:=[mv' 10 71 0,o3 (.bin .neq (.tmp 71) (ci' 0)) 72 1,mv' 72 73 3,⟨.mv (.tmp 13),some 74,some (73,false),7⟩,⟨.un .not (.tmp 74),some 75,some (73,false),15⟩,o3 (.pick (.tmp 73) (.const (.bool true)) (.tmp 75)) 76 31,mv' 76 77 63,⟨.mv (.tmp 16),some 78,some (77,false),127⟩,⟨.un .not (.tmp 78),some 79,some (77,false),255⟩,o3 (.pick (.tmp 77) (.const (.bool true)) (.tmp 79)) 80 511]
def ydkr:LO:=[o3 (.mv (.const (.bool false))) 4 0]
def ydif:LO:=[ld' true 2 5 81 0,mv' 11 82 0,mv' 11 83 0,ln' 83 84 4,o3 (.bin .sub (.tmp 84) (ci' 1)) 85 12,ix' 1 82 85 86 30,ld' false 1 86 87 62,cl' 27 [81,87] 88 127,ld' true 2 9 89 0,mv' 14 90 0,mv' 14 91 0,ln' 91 92 1024,o3 (.bin .sub (.tmp 92) (ci' 1)) 93 3072,ix' 1 90 93 94 7680,ld' false 1 94 95 15872,cl' 27 [89,95] 96 32767,mv' 88 17 65535,mv' 96 18 131071]
def ydkd:LO:=[o3 (.mv (ci' 0)) 19 0]
def ydkn:LO:=[mv' 19 97 0,mv' 6 98 0,bn' .lss 97 98 99 3]
def ydih:LO:=[mv' 17 102 0,mv' 19 103 0,cl' 29 [102,103] 104 3,mv' 18 105 0,mv' 7 106 0,mv' 19 107 0,ix' 1 106 107 108 48,ld' false 1 108 109 112,cl' 29 [105,109] 110 255,o3 (.beq true (.tmp 104) (.tmp 110)) 111 511]
def ydkk:LO:=[o3 (.mv (.const (.bool false))) 4 0]
def ydio:LO:=[mv' 19 100 0,o3 (.bin .add (.tmp 100) (ci' 1)) 101 1,mv' 101 19 3]
def ydjc:LO:=[cl' 30 [] 112 0,mv' 112 113 1,⟨.mv (.tmp 17),some 114,some (113,true),3⟩,⟨.bin .neq (.tmp 114) (.const (.int .u32 0)),some 115,some (113,true),7⟩,o3 (.pick (.tmp 113) (.tmp 115) (.const (.bool false))) 116 15,mv' 116 4 31]
def c7:SC:=(.seq (.reg false c7_0) (.seq (.reg false c7_1) (.seq (.reg false c7_2) (.seq (.reg false c7_3) (.seq (.reg false c7_4) (.seq (.seq (.reg false c7_5) (.block 0 (.loop (.seq (.seq (.reg false c7_6) (.cond (.tmp 32) .skip (.exit 0))) (.seq (.block 1 (.reg false c7_8)) (.reg false c7_7)))))) (.seq (.reg false c7_9) (.seq (.reg true ydix) (.seq (.reg true ydjl) (.seq (.seq (.reg false ydkz) (.cond (.tmp 80) (.seq (.reg false ydkr) .ret) .skip)) (.seq (.reg true ydif) (.seq (.seq (.reg false ydkd) (.block 2 (.loop (.seq (.seq (.reg false ydkn) (.cond (.tmp 99) .skip (.exit 2))) (.seq (.block 3 (.seq (.reg true ydih) (.cond (.tmp 111) (.seq (.reg false ydkk) .ret) .skip))) (.reg false ydio)))))) (.seq (.reg false ydjc) .ret)))))))))))))
end Sh
end Go.Proofs.YtiejahgklcjhkaaGreatDoor

namespace Go.Proofs.YtiejahgklcjhkaaGreatDoor
open Go
def ydr(g:Gr)(k:Nat):Nat:=((g.ports.take k).map List.length).sum
theorem yhq{g:Gr}{k:Nat}(h:k<g.ports.length):ydr g (k+1)=ydr g k+(g.ports.getD k []).length:=by
 unfold ydr;rw[List.take_succ_eq_append_getElem h,List.map_append,List.sum_append,Sh.getD_at h];simp
theorem yed{g:Gr}(hg:GoodG g):∀ k,k<=g.ports.length->ydr g k<=24 * k
 | 0,_=>by simp[ydr]
 | k+1,h=>by
  rw[yhq (by omega)]
  have:=yed hg k (by omega)
  have:=hg.deg_lt (v:=k);omega
theorem ygp(g:Gr):ydr g g.ports.length=yea g:=by unfold ydr yea;rw[List.take_length]
def ydh(g:Gr):Nat:=yea g / 2
namespace Sh
open Ev Go.RowKit
set_option maxRecDepth 8000
def ybiw(g:Gr):List SV:=if ybt g=true then[.i .i64 g.ports.length,.i .i64 (ydh g)]else[.i .i64 0,.i .i64 0]
theorem ybhv(n:Nat):((n:Nat):Int).tdiv 2=((n / 2:Nat):Int):=by
 rw[Int.tdiv_eq_ediv_of_nonneg (by omega)]
 omega
theorem ybpd{g:Gr}(hI:GrI g):Returns Tryz.prog 122 [grV g] (.tp (ybiw g)):=by
 refine Returns.of (ycsj _ _ ?_);have hV:=ymz hI;unfold ybiw;cases hv:ybt g with
 | false =>
  rw[hv]at hV;simp only[grV]at hV;simp only[c122,ybmo,ybmm,ycpg,grV,clash,go_sem,Nat.reduceEqDiff,Nat.reduceAdd,Nat.reduceLT,↓reduceIte];refine hV.use ?_;simp only[thenO,clash,go_sem,Nat.reduceEqDiff,Nat.reduceAdd,↓reduceIte];exact Sim.refl _
 | true =>
  have hg:=(ybx g).1 hv;have h24:=hg.2.1;have hpl:=hg.2.2.1;obtain⟨n,hn⟩:∃ n,g.ports.length=n:=⟨_,rfl⟩;rw[hv]at hV;simp only[grV]at hV;rw[hn]at h24 hpl;simp only[c122,ybmo,ybmm,yccp,grV,clash,go_sem,Nat.reduceEqDiff,Nat.reduceAdd,Nat.reduceLT,↓reduceIte];refine hV.use ?_;simp only[thenO,portsV,hn,clash,go_sem,Nat.reduceEqDiff,Nat.reduceAdd,↓reduceIte,reduceCtorEq];refine loop_on (σ:=Nat) (fun k=>⟨[(12,.i .i64 k),(11,.i .i64 n),(10,portsV g.ports),(3,.i .i64 (ydr g k:Nat)),(1,.pt (1,0) 0 0)],[(1,.one (some ⟨27,true,2,1,fun _=>[intsV g.ids,portsV g.ports]⟩))]⟩) (fun k=>k<=n) (fun k=>n - k) 0 (Nat.zero_le _) ?_ ?_
  ·refine weak_all [] [] [] ?_;simp only[portsV,hn,allQ,live,sim_self,sim_i,Int.natCast_zero,go_sem,Nat.reduceEqDiff,↓reduceIte,reduceCtorEq];rfl
  intro k hk
  by_cases hlt:k<n
  ·have t1:decide ((k:Int)<(n:Int))=true:=decide_eq_true (by omega)
   have hs:=yhq (g:=g) (k:=k) (by omega)
   have hb:=yed hg k (by omega)
   have hd:=hg.deg_lt (v:=k);obtain⟨d,hdd⟩:∃ d,(g.ports.getD k []).length=d:=⟨_,rfl⟩;rw[hdd]at hs hd;have e:(ydr g k:Int)+(d:Int)=((ydr g (k+1):Nat):Int):=by rw[hs];omega
   simp only[ybuq,ycku,yclm,ycfk,portsV,yg,hn,t1,hdd,e,clash,go_sem,Nat.reduceEqDiff,Nat.reduceAdd,↓reduceIte,reduceCtorEq];refine⟨by omega,ikw (by omega) (by omega),ikw (by omega) (by omega),?_⟩
   refine loop_again (k+1) (by omega) (by omega) ?_
   refine weak_all [] [] [] ?_;simp only[allQ,live,sim_self,sim_i,go_sem,Nat.reduceEqDiff,↓reduceIte,reduceCtorEq];omega
  ·obtain rfl:k=n:=by omega
   have t1:decide ((k:Int)<(k:Int))=false:=decide_eq_false (by omega)
   have hb:=yed hg k (by omega)
   have e:=ygp g;rw[hn]at e;have e2:=ybhv (ydr g k);simp only[ybuq,ycgt,portsV,intsV,hn,hpl,t1,e2,clash,go_sem,Nat.reduceEqDiff,Nat.reduceAdd,Nat.reduceLeDiff,↓reduceIte,reduceCtorEq];unfold ydh;rw[<- e];exact⟨⟨by decide,ikw (by omega) (by omega)⟩,Sim.refl _⟩
theorem ybmy{g:Gr}(hI:GrI g):Returns Tryz.prog 124 [grV g] (.tp (ybiw g)):=by
 refine Returns.of (ycub _ _ ?_);have hV:=ytg hI;unfold ybiw;cases hv:ybt g with
 | false =>
  rw[hv]at hV;simp only[grV]at hV;simp only[c124,ybrb,ybte,ycog,grV,clash,go_sem,Nat.reduceEqDiff,Nat.reduceAdd,Nat.reduceLT,↓reduceIte];refine hV.use ?_;simp only[thenO,clash,go_sem,Nat.reduceEqDiff,Nat.reduceAdd,↓reduceIte];exact Sim.refl _
 | true =>
  have hg:=(ybx g).1 hv;have h24:=hg.2.1;obtain⟨n,hn⟩:∃ n,g.ports.length=n:=⟨_,rfl⟩;rw[hv]at hV;simp only[grV]at hV;rw[hn]at h24;simp only[c124,ybrb,ybte,ycim,ycqi,grV,clash,go_sem,Nat.reduceEqDiff,Nat.reduceAdd,Nat.reduceLT,↓reduceIte];refine hV.use ?_;simp only[thenO,clash,go_sem,Nat.reduceAdd,↓reduceIte];refine loop_on (σ:=Nat) (fun k=>⟨[(5,.i .i64 k),(4,.i .i64 (ydr g k:Nat)),(1,.pt (1,0) 0 0)],[(1,.one (some ⟨27,true,2,1,fun _=>[intsV g.ids,portsV g.ports]⟩))]⟩) (fun k=>k<=n) (fun k=>n - k) 0 (Nat.zero_le _) ?_ ?_
  ·refine weak_all [] [] [] ?_;simp only[go_sem,allQ,live,sim_self,sim_i,Int.natCast_zero,go_sem,Nat.reduceEqDiff,↓reduceIte,reduceCtorEq];rfl
  intro k hk
  by_cases hlt:k<n
  ·have t1:decide ((k:Int)<(n:Int))=true:=decide_eq_true (by omega)
   have hs:=yhq (g:=g) (k:=k) (by omega)
   have hb:=yed hg k (by omega)
   have hd:=hg.deg_lt (v:=k);obtain⟨d,hdd⟩:∃ d,(g.ports.getD k []).length=d:=⟨_,rfl⟩;rw[hdd]at hs hd;have e:(ydr g k:Int)+(d:Int)=((ydr g (k+1):Nat):Int):=by rw[hs];omega
   simp only[ybvw,ycmc,ycit,portsV,yg,hn,t1,hdd,e,clash,go_sem,Nat.reduceEqDiff,Nat.reduceAdd,↓reduceIte,reduceCtorEq];refine⟨⟨by omega,by omega⟩,ikw (by omega) (by omega),ikw (by omega) (by omega),?_⟩
   refine loop_again (k+1) (by omega) (by omega) ?_
   refine weak_all [] [] [] ?_;simp only[allQ,live,sim_self,sim_i,go_sem,Nat.reduceEqDiff,↓reduceIte,reduceCtorEq];omega
  ·obtain rfl:k=n:=by omega
   have t1:decide ((k:Int)<(k:Int))=false:=decide_eq_false (by omega)
   have e:=ygp g;rw[hn]at e;have e2:=ybhv (ydr g k);have hb:=yed hg k (by omega)
   simp only[ybvw,ychm,portsV,hn,t1,e2,clash,go_sem,Nat.reduceEqDiff,Nat.reduceAdd,↓reduceIte,reduceCtorEq];unfold ydh;rw[<- e];exact⟨⟨by decide,ikw (by omega) (by omega)⟩,Sim.refl _⟩
end Sh
end Go.Proofs.YtiejahgklcjhkaaGreatDoor

namespace Go.Proofs.YtiejahgklcjhkaaGreatDoor
def mtConfB(g:Gr)(c:Conf):Bool:=ybt g && yos g.ports.length (yco g [-1]) c
def mtW(g:Gr)(c:Conf)(v:Nat):Int:=(Sh.towP g c 0).getD v 0
def mtPtsB(g:Gr)(c:Conf):Bool:=(List.range c.length).all fun v=>!(decide (mtW g c v >= 0) && (mtW g c (mtW g c v).toNat != (v:Int)))
def mtLnkB(g:Gr)(c:Conf):Bool:=(Ev.flatAt 0 g.ports).all fun e=>!(decide (mtW g c e.v<0) && decide (mtW g c e.a.toNat<0))
def mtLegitB(g:Gr)(c:Conf):Bool:=mtConfB g c && (mtPtsB g c && mtLnkB g c)
theorem mtConf_at{g:Gr}{c:Conf}(h:mtConfB g c=true):GoodG g/\c.length=g.ports.length /\ ∀ v,v<c.length->(c.getD v []).length=1 /\ -1<=(c.getD v []).getD 0 0/\(c.getD v []).getD 0 0<((g.ports.getD v []).length:Int):=by
 unfold mtConfB at h;rw[Bool.and_eq_true]at h;have hck:=(ydy _ _ _).1 h.2;refine⟨(ybx g).1 h.1,hck.1,fun v hv=>?_⟩;have h2:=hck.2 v _ (List.getElem?_eq_getElem hv);have e:c[v]=c.getD v []:=by rw[Sh.getD_at hv]
 rw[e]at h2;have hl:(c.getD v []).length=1:=by simpa [yco]using h2.1
 have h3:=h2.2 0 (-1,(yyd g v:Int) - 1) ((c.getD v []).getD 0 0) (by simp[yco]) (by rw[Sh.getD_at (show 0<(c.getD v []).length by omega)];exact List.getElem?_eq_getElem _)
 unfold yyd at h3;simp only at h3;omega
theorem mtC_of{g:Gr}{c:Conf}(h:mtConfB g c=true):MtC g c:=by
 obtain⟨hg,h1,h2⟩:=mtConf_at h;have hpl:=hg.2.2.1;refine⟨by omega,fun v hv=>?_⟩
 obtain⟨a,b,d⟩:=h2 v (by omega)
 exact⟨a,b,d⟩
theorem ydbv{g:Gr}(hg:GoodG g){c:Conf}(h:MtC g c){v:Nat}(hv:v<g.ids.length):mtW g c v=mtT g c v:=by
 have hpl:=hg.2.2.1;obtain⟨h1,h2⟩:=ybmq hg h hv;have hr:=(h.row v hv).2;have hat:mtW g c v=if pAt c v >= 0 then((g.ports.getD v []).getD (pAt c v).toNat (0,0)).1 else -1:=Sh.ybcv (by rw[h.len];exact hv)
 rw[hat]
 by_cases q:0<=pAt c v
 ·have hk:(pAt c v).toNat<(g.ports.getD v []).length:=by omega
  have e:toP g c v=some ((g.ports.getD v []).getD (pAt c v).toNat (0,0)).1.toNat:=by unfold toP;rw[if_pos ⟨by omega,q⟩]
  rw[if_pos q,h1 _ e];have hm:=(mem_adj hg (show v<g.ports.length by omega) (List.getElem_mem hk)).1
  rw[Sh.getD_at hk];omega
 ·rw[if_neg (by omega),h2 ((ypa hg h hv).2 (by omega))]
section
variable {nm np na nb nw:ByteArray} {g:Gr}
theorem ydhh(hg:GoodG g){c:Conf}(hv:ydw (ybd nm np na nb nw) g c=true):mtConfB g c=true:=by
 have hC:=ylv hv;have hpl:=hg.2.2.1;unfold mtConfB;rw[(ybx g).2 hg,Bool.true_and,ydy];refine⟨by rw[hC.len,hpl],fun v s hs=>?_⟩
 obtain⟨hvl,e⟩:=List.getElem?_eq_some_iff.1 hs;have e:c.getD v []=s:=by simp[List.getD,hs]
 obtain⟨h1,h2,h3⟩:=hC.row v (by rw[<- hC.len];exact hvl)
 unfold pAt at h2 h3;rw[e]at h1 h2 h3;have eb:yco g [-1] v = [(-1,(yyd g v:Int) - 1)]:=by simp[yco]
 rw[eb];refine⟨h1,fun i b x hb hx=>?_⟩;have hi:=(List.getElem?_eq_some_iff.1 hb).1;have hi:i<1:=by simpa using hi
 obtain rfl:i=0:=by omega
 have hb:some (-1,(yyd g v:Int) - 1)=some b:=hb;cases hb
 have e2:s.getD 0 0=x:=by simp[List.getD,hx]
 rw[e2]at h2 h3;unfold yyd;exact⟨h2,by omega⟩
theorem ywj{c:Conf}(hq:mtConfB g c=true):mtLegitB g c=true ↔ ywb g c:=by
 obtain⟨hg,hl,_⟩:=mtConf_at hq;have hC:=mtC_of hq;have hpl:=hg.2.2.1;have eW:=fun v hv=>ydbv hg hC (v:=v) hv;unfold mtLegitB mtPtsB mtLnkB;rw[hq,Bool.true_and,Bool.and_eq_true,List.all_eq_true,List.all_eq_true,<- ybyx hg hC]
 have inn:∀ v,v<g.ids.length->0<=mtT g c v->(mtT g c v).toNat<g.ids.length:=fun v hv h0=>by
  have e:mtT g c v=((mtT g c v).toNat:Int):=by omega
  have:=(hg.adj_lt (ywl hg hC ((yqf hg hC hv).1 e))).2;omega
 refine and_congr ?_ ?_
 ·constructor
  ·intro h v hv h0;have:=h v (List.mem_range.2 (by omega))
   rw[eW v hv,eW _ (inn v hv h0),decide_eq_true h0,Bool.true_and,Bool.not_eq_true',bne_eq_false_iff_eq]at this;exact this
  ·intro h v hv;have hv:=List.mem_range.1 hv;rw[eW v (by omega),Bool.not_eq_true',Bool.and_eq_false_iff]
   by_cases h0:0<=mtT g c v
   ·right
    rw[eW _ (inn v (by omega) h0),bne_eq_false_iff_eq]
    exact h v (by omega) h0
   ·exact .inl (decide_eq_false h0)
 ·constructor
  ·intro h v l hv hlm ⟨q1,q2⟩;have hm:=ybyp (ps:=g.ports) (v:=v) (l:=l) (by omega) hlm
   have:=h _ hm;have hu:=(mem_adj hg (show v<g.ports.length by omega) hlm).2.1
   simp only at this;rw[eW v hv,eW l.1.toNat (by omega),decide_eq_true q1,decide_eq_true q2]at this
   cases this
  ·intro h e he;obtain⟨k,hk,rfl⟩:=List.getElem_of_mem he;obtain⟨h1,h2⟩:=linkEl_at hg hk;have e0:Sh.linkEl g.ports k=(Ev.flatAt 0 g.ports)[k]:=by unfold Sh.linkEl;rw[Sh.getD_at hk]
   rw[e0]at h1 h2;have hu:((Ev.flatAt 0 g.ports)[k]).a.toNat<g.ports.length:=(mem_adj hg h1 h2).2.1;have hn:=h _ _ (show _<g.ids.length by omega) h2
   rw[eW _ (by omega),eW _ (by omega),Bool.not_eq_true',Bool.and_eq_false_iff]
   by_cases q:mtT g c ((Ev.flatAt 0 g.ports)[k]).v<0
   ·exact .inr (decide_eq_false fun q2=>hn ⟨q,q2⟩)
   ·exact .inl (decide_eq_false q)
theorem yje(hg:GoodG g){c:Conf}(hv:ydw (ybd nm np na nb nw) g c=true):yw (ybd nm np na nb nw) g c=0 ↔ mtLegitB g c=true:=(ycah hg (ylv hv)).trans (ywj (ydhh hg hv)).symm
theorem yblr(hg:GoodG g):2 * ydh g=yea g:=by
 have:=ybiv hg;unfold ydh;omega
theorem yczj(p:ProgT)(hg:GoodG g){res:Nat->Nat->Nat}(hr:ybug res){ws:List Nat}{c:Conf}:∀ q ∈ (ybc p g).runs res ws c,q.2.ok:=by
 have h24:g.ids.length<=24:=by have:=hg.2.1;have:=hg.2.2.1;omega
 have hen:∀ c,yw p g c<2 ^ 24:=fun c=>Nat.lt_of_lt_of_le (Sh.ybkb p g c) (Nat.pow_le_pow_right (by omega) h24)
 exact Sys.runs_all (S:=ybc p g) hr (J:=fun _ k=>k.ok) (fun c k s hJ h0 hs=>ybvp hJ (ybmh hs (hen c)) h0 (hen _)) (yxs (hen c))
theorem ycxk (hg:GoodG g) {res:Nat->Nat->Nat} (hr:ResD (yoo g) res) {ws:List Nat} {c:Conf} (hv:ydw (ybd nm np na nb nw) g c=true) {ended:Bool}
  (he:ended=true -> ∀ p,((ybc (ybd nm np na nb nw) g).runs res ws c)[((ybc (ybd nm np na nb nw) g).runs res ws c).length - 1]? = some p->yw (ybd nm np na nb nw) g p.1=0) :
  Sh.HeldOk (((ybc (ybd nm np na nb nw) g).runs res ws c).map fun p=>mtLegitB g p.1) (((ybc (ybd nm np na nb nw) g).runs res ws c).map (·.2)) (2 * ydh g+g.ports.length:Nat) (2 * ydh g+g.ports.length:Nat) ended:=by
 have h2:=yblr hg;refine Sh.ycxp (S:=ybc (ybd nm np na nb nw) g) (J:=fun c k=>MtJ nm np na nb nw g c k/\k.ok) (fun p hp=>⟨ybec hg hr hv p hp,yczj _ hg hr.ok p hp⟩) (fun c k q=>yje hg q.1.valid) (fun c k q _=>?_) (fun c k q _ _=>?_) he
 ·have h1:=ybht q.1;obtain⟨_,_,h3,h4,_⟩:=q.2;omega
 ·have h1:=ybht q.1;omega
end
end Go.Proofs.YtiejahgklcjhkaaGreatDoor

namespace Go.Proofs.YtiejahgklcjhkaaGreatDoor
namespace Sh
open Go Ev
def ydgc:LO:=[o3 (.mv (.const (.string (ByteArray.mk #[])))) 0 0]
def ydhz:LO:=[o3 (.mv (.const (.string (ByteArray.mk #[112,114,111,103,114,97,109,32,109,97,116,99,104,105,110,103,59,10,118,97,114,32,112,32,58,32,112,111,114,116,59,10,114,117,108,101,32,97,99,99,101,112,116,58,32,112,32,61,61,32,110,111,110,101,32,38,38,32,115,111,109,101,40,113,46,112,32,61,61,32,113,46,98,97,99,107,41,32,45,62,32,112,32,58,61,32,102,105,114,115,116,40,113,46,112,32,61,61,32,113,46,98,97,99,107,41,59,10,114,117,108,101,32,112,114,111,112,111,115,101,58,32,112,32,61,61,32,110,111,110,101,32,38,38,32,115,111,109,101,40,113,46,112,32,61,61,32,110,111,110,101,41,32,45,62,32,112,32,58,61,32,102,105,114,115,116,40,113,46,112,32,61,61,32,110,111,110,101,41,59,10,114,117,108,101,32,119,105,116,104,100,114,97,119,58,32,115,111,109,101,40,113,32,61,61,32,112,32,38,38,32,113,46,112,32,33,61,32,110,111,110,101,32,38,38,32,113,46,112,32,33,61,32,113,46,98,97,99,107,41,32,45,62,32,112,32,58,61,32,110,111,110,101,59,10])))) 0 0]
def c59:SC:=(.seq (.reg false ydgc) (.seq (.reg false ydhz) .ret))
theorem ydgd:Fn 59 c59 [.t 0]:=fn_0 Tryz.func59 (by kernel_rfl) (by kernel_rfl)
def yckg:LO:=[o3 (.box 27 (.tmp 0)) 1 0,o3 (.mv (.const (.bool false))) 2 0]
def ycji:LO:=[ld' true 2 1 3 0,cl' 96 [3] 4 1,mv' 4 2 3]
def c121:SC:=(.seq (.reg false yckg) (.seq (.reg false ycji) .ret))
theorem ycwc:Fn 121 c121 [.t 2]:=fn_0 Tryz.func121 (by kernel_rfl) (by kernel_rfl)
def ybtk:LO:=[o3 (.box 27 (.tmp 0)) 2 0,o3 (.mv (.const (.bool false))) 4 0]
def ybvq:LO:=[ld' true 2 2 5 0,cl' 121 [5] 6 1,mv' 6 7 3,⟨.load true 2 (.tmp 2),some 8,some (7,true),7⟩,⟨.mv (.tmp 1),some 9,some (7,true),7⟩,⟨.bslice 3 1 1 [.i .i64 0] [(0,1,(.const (.int .i64 (-1))))],some 10,some (7,true),7⟩,⟨.call (.func 102) [(.tmp 8),(.tmp 9),(.tmp 10)],some 11,some (7,true),63⟩,o3 (.pick (.tmp 7) (.tmp 11) (.const (.bool false))) 12 127,mv' 12 4 255]
def c117:SC:=(.seq (.reg false ybtk) (.seq (.reg false ybvq) .ret))
theorem ycwj:Fn 117 c117 [.t 4]:=fn_0 Tryz.func117 (by kernel_rfl) (by kernel_rfl)
def c65_0:LO:=[o3 (.box 27 (.tmp 0)) 2 0,o3 (.alloc 4 1 [.b false]) 4 0]
def c65_1:LO:=[ld' true 2 2 10 0,mv' 1 11 0,cl' 117 [10,11] 12 3,o3 (.un .not (.tmp 12)) 13 7]
def c65_2:LO:=[o0 (.store 1 (.tmp 4) (.const (.bool false))) 0]
def c65_3:LO:=[ld' true 2 2 14 0,mv' 1 15 0,o3 (.call (.func 118) [(.tmp 14),(.tmp 15),(ci' 0)]) 16 3,o3 (.alloc 22 1 [.a (.slice none 0 0)]) 5 0,o0 (.store 1 (.tmp 5) (.tmp 16)) 15]
def c65_4:LO:=[ld' false 1 5 17 0,ln' 17 18 1,o3 (.mv (ci' 0)) 19 0]
def c65_5:LO:=[bn' .lss 19 18 20 0]
def c65_6:LO:=[mv' 19 21 0,ix' 1 17 19 22 0,ld' false 1 22 23 2,mv' 21 6 7,mv' 23 7 15]
def c65_7:LO:=[mv' 7 24 0,o3 (.bin .geq (.tmp 24) (ci' 0)) 25 1,mv' 25 26 3,⟨.load false 1 (.tmp 5),some 27,some (26,true),7⟩,⟨.mv (.tmp 7),some 28,some (26,true),7⟩,⟨.idx 1 (.tmp 27) (.tmp 28),some 29,some (26,true),31⟩,⟨.load false 1 (.tmp 29),some 30,some (26,true),63⟩,⟨.mv (.tmp 6),some 31,some (26,true),7⟩,⟨.bin .neq (.tmp 30) (.tmp 31),some 32,some (26,true),255⟩,o3 (.pick (.tmp 26) (.tmp 32) (.const (.bool false))) 33 511]
def c65_8:LO:=[o0 (.store 1 (.tmp 4) (.const (.bool false))) 0]
def c65_9:LO:=[o3 (.bin .add (.tmp 19) (ci' 1)) 34 0,mv' 34 19 1]
def c65_10:LO:=[ld' true 2 2 35 0,cl' 120 [35] 36 1]
def c65_11:LO:=[mv' 37 8 0]
def c65_12:LO:=[o3 (.alloc 95 1 [.i .i64 0,.i .i64 0]) 9 0,o0 (.store 2 (.tmp 9) (.tmp 38)) 1]
def c65_13:LO:=[ld' false 1 5 39 0,mv' 8 40 0,ix' 1 39 40 41 3,ld' false 1 41 42 7,o3 (.bin .lss (.tmp 42) (ci' 0)) 43 15,mv' 43 44 31,⟨.load false 1 (.tmp 5),some 45,some (44,true),63⟩,⟨.faddr 0 1 (.tmp 9),some 46,some (44,true),63⟩,⟨.load false 1 (.tmp 46),some 47,some (44,true),191⟩,⟨.idx 1 (.tmp 45) (.tmp 47),some 48,some (44,true),511⟩,⟨.load false 1 (.tmp 48),some 49,some (44,true),1023⟩,⟨.bin .lss (.tmp 49) (ci' 0),some 50,some (44,true),2047⟩,o3 (.pick (.tmp 44) (.tmp 50) (.const (.bool false))) 51 4095]
def c65_14:LO:=[o0 (.store 1 (.tmp 4) (.const (.bool false))) 0]
def c65_15:LO:=[o0 (.store 1 (.tmp 4) (.const (.bool true))) 0]
def c65:SC:=(.seq (.reg false c65_0) (.seq (.seq (.reg false c65_1) (.cond (.tmp 13) (.seq (.reg false c65_2) .ret) .skip)) (.seq (.reg false c65_3) (.seq (.seq (.reg false c65_4) (.block 0 (.loop (.seq (.reg false c65_5) (.seq (.cond (.tmp 20) .skip (.exit 0)) (.seq (.block 1 (.seq (.reg false c65_6) (.seq (.reg false c65_7) (.cond (.tmp 33) (.seq (.reg false c65_8) .ret) .skip)))) (.reg false c65_9))))))) (.seq (.seq (.reg false c65_10) (.block 2 (.range (.tmp 36) [37,38] (.seq (.reg false c65_11) (.reg false c65_12)) (.block 3 (.seq (.reg false c65_13) (.cond (.tmp 51) (.seq (.reg false c65_14) .ret) .skip)))))) (.seq (.reg false c65_15) .ret))))))
theorem c65_ok:Fn 65 c65 [.c 4 false 1]:=fn_0 Tryz.func65 (by kernel_rfl) (by kernel_rfl)
def ycxg:LO:=[o3 (.box 27 (.tmp 0)) 1 0,o3 (.alloc 51 1 [.i .i64 0,.b false,.b false,.i .i64 0,.i .i64 0]) 2 0]
def ycsi:LO:=[ld' true 2 1 5 0,cl' 121 [5] 6 1,o3 (.un .not (.tmp 6)) 7 3]
def ydia:LO:=[o3 (.build [.i .i64 0,.b false,.b false,.i .i64 0,.i .i64 0] []) 8 0,o0 (.store 5 (.tmp 2) (.tmp 8)) 1]
def yddx:LO:=[ld' true 2 1 10 0,cl' 122 [10] 11 1,mv' 11 9 3,xt' 9 0 12 7,xt' 9 1 13 7,mv' 12 3 15,mv' 13 4 63]
def ydby:LO:=[mv' 4 14 0,o3 (.bin .mul (ci' 2) (.tmp 14)) 15 1,mv' 3 16 0,bn' .add 15 16 17 7,mv' 4 18 0,o3 (.bin .mul (ci' 2) (.tmp 18)) 19 16,mv' 3 20 0,bn' .add 19 20 21 112,o3 (.build [.i .i64 0,.b false,.b false,.i .i64 0,.i .i64 0] [(0,1,(ci' 2)),(2,1,(.const (.bool true))),(3,1,(.tmp 17)),(4,1,(.tmp 21))]) 22 255,o0 (.store 5 (.tmp 2) (.tmp 22)) 511]
def c68:SC:=(.seq (.reg false ycxg) (.seq (.seq (.reg false ycsi) (.cond (.tmp 7) (.seq (.reg false ydia) .ret) .skip)) (.seq (.reg false yddx) (.seq (.reg false ydby) .ret))))
theorem ydbm:Fn 68 c68 [.c 2 true 5]:=fn_0 Tryz.func68 (by kernel_rfl) (by kernel_rfl)
def ydgq:LO:=[o3 (.mv (.const (.slice none 0 0))) 0 0]
def ydan:LO:=[o3 (.call (.func 116) [(.const (.string (ByteArray.mk #[112])))]) 1 0,o3 (.bslice 87 6 1 [.a (.string (ByteArray.mk #[])),.i .i64 0,.i .i64 0,.i .i64 0,.i .i64 0,.i .i64 0] [(0,6,(.tmp 1))]) 2 1,mv' 2 0 3]
def c60:SC:=(.seq (.reg false ydgq) (.seq (.reg false ydan) .ret))
theorem ydev:Fn 60 c60 [.t 0]:=fn_0 Tryz.func60 (by kernel_rfl) (by kernel_rfl)
def ycoi:LO:=[o3 (.box 27 (.tmp 0)) 1 0,o3 (.mv (.const (.bool false))) 2 0]
def ycee:LO:=[ld' true 2 1 3 0,cl' 85 [3] 4 1,mv' 4 2 3]
def c123:SC:=(.seq (.reg false ycoi) (.seq (.reg false ycee) .ret))
theorem ycye:Fn 123 c123 [.t 2]:=fn_0 Tryz.func123 (by kernel_rfl) (by kernel_rfl)
def ycte:LO:=[o3 (.box 27 (.tmp 0)) 1 0,o3 (.alloc 51 1 [.i .i64 0,.b false,.b false,.i .i64 0,.i .i64 0]) 2 0]
def ycts:LO:=[ld' true 2 1 5 0,cl' 123 [5] 6 1,o3 (.un .not (.tmp 6)) 7 3]
def ydfc:LO:=[o3 (.build [.i .i64 0,.b false,.b false,.i .i64 0,.i .i64 0] []) 8 0,o0 (.store 5 (.tmp 2) (.tmp 8)) 1]
def ydba:LO:=[ld' true 2 1 10 0,cl' 124 [10] 11 1,mv' 11 9 3,xt' 9 0 12 7,xt' 9 1 13 7,mv' 12 3 15,mv' 13 4 63]
def ydey:LO:=[mv' 4 14 0,o3 (.bin .mul (ci' 2) (.tmp 14)) 15 1,mv' 3 16 0,bn' .add 15 16 17 7,mv' 4 18 0,o3 (.bin .mul (ci' 2) (.tmp 18)) 19 16,mv' 3 20 0,bn' .add 19 20 21 112,o3 (.build [.i .i64 0,.b false,.b false,.i .i64 0,.i .i64 0] [(0,1,(ci' 2)),(2,1,(.const (.bool true))),(3,1,(.tmp 17)),(4,1,(.tmp 21))]) 22 255,o0 (.store 5 (.tmp 2) (.tmp 22)) 511]
def c69:SC:=(.seq (.reg false ycte) (.seq (.seq (.reg false ycts) (.cond (.tmp 7) (.seq (.reg false ydfc) .ret) .skip)) (.seq (.reg false ydba) (.seq (.reg false ydey) .ret))))
theorem ydbd:Fn 69 c69 [.c 2 true 5]:=fn_0 Tryz.func69 (by kernel_rfl) (by kernel_rfl)
def ydfd:LO:=[o3 (.box 24 (.tmp 0)) 3 0,o3 (.mv (.const (.bool false))) 6 0]
def ydbl:LO:=[ld' true 6 3 15 0,o3 (.call (.func 48) [(.tmp 15),(ci' 8)]) 16 1,o3 (.alloc 27 1 [.a (.slice none 0 0),.a (.slice none 0 0)]) 7 0,o0 (.store 2 (.tmp 7) (.tmp 16)) 7]
def ydho:LO:=[ld' true 2 7 17 0,cl' 60 [] 18 0,mv' 1 19 0,cl' 24 [17,18,19] 20 7,mv' 20 8 15]
def ydbo:LO:=[cl' 59 [] 22 0,ld' true 2 7 23 0,ld' true 2 7 24 0,cl' 68 [24] 25 5,o3 (.field false 0 1 (.tmp 25)) 26 13,mv' 8 27 0,mv' 2 28 0,o3 (.call (.func 26) [(.tmp 28),(ci' 120)]) 29 77,cl' 22 [22,23,26,27,29] 30 255,mv' 30 21 511,xt' 21 0 31 1023,xt' 21 1 32 1023,xt' 21 2 33 1023,mv' 31 9 2047,mv' 32 10 12287,mv' 33 11 32767]
def ydgi:LO:=[mv' 11 34 0,o3 (.un .not (.tmp 34)) 35 1,mv' 35 36 3,⟨.load true 2 (.tmp 7),some 37,some (36,false),7⟩,⟨.call (.func 68) [(.tmp 37)],some 38,some (36,false),15⟩,⟨.load true 2 (.tmp 7),some 39,some (36,false),7⟩,⟨.call (.func 69) [(.tmp 39)],some 40,some (36,false),63⟩,⟨.seq true [false,true,true,false,false] (.tmp 38) (.tmp 40),some 41,some (36,false),127⟩,o3 (.pick (.tmp 36) (.const (.bool true)) (.tmp 41)) 42 255]
def ydky:LO:=[o3 (.mv (.const (.bool false))) 6 0]
def ydfv:LO:=[o3 (.mv (.const (.slice none 0 0))) 12 0]
def ydgj:LO:=[o3 (.mv (ci' 0)) 13 0]
def ycxt:LO:=[mv' 13 43 0,mv' 9 44 0,ln' 44 45 2,bn' .lss 43 45 46 7]
def yccu:LO:=[mv' 12 49 0,ld' true 2 7 50 0,mv' 9 51 0,mv' 13 52 0,ix' 1 51 52 53 12,ld' false 1 53 54 28,cl' 65 [50,54] 55 62,o3 (.bslice 4 1 1 [.b false] [(0,1,(.tmp 55))]) 56 126,o3 (.app 4 1 1 (.tmp 49) (.tmp 56)) 57 255,mv' 57 12 511]
def ydhq:LO:=[mv' 13 47 0,o3 (.bin .add (.tmp 47) (ci' 1)) 48 1,mv' 48 13 3]
def ycqt:LO:=[cl' 59 [] 58 0,cl' 37 [58] 59 1,ld' true 2 7 60 0,mv' 9 61 0,mv' 9 62 0,ln' 62 63 16,o3 (.bin .sub (.tmp 63) (ci' 1)) 64 48,ix' 1 61 64 65 120,ld' false 1 65 66 248,cl' 36 [59,60,66] 67 511,o3 (.bin .eql (.tmp 67) (.const (.int .u32 0))) 68 1023,mv' 68 14 2047]
def ycil:LO:=[cl' 64 [] 69 0,mv' 69 70 1,⟨.mv (.tmp 12),some 71,some (70,true),3⟩,⟨.mv (.tmp 10),some 72,some (70,true),3⟩,⟨.load true 2 (.tmp 7),some 73,some (70,true),3⟩,⟨.call (.func 68) [(.tmp 73)],some 74,some (70,true),19⟩,⟨.mv (.tmp 14),some 75,some (70,true),3⟩,⟨.call (.func 38) [(.tmp 71),(.tmp 72),(.tmp 74),(.tmp 75)],some 76,some (70,true),127⟩,o3 (.pick (.tmp 70) (.tmp 76) (.const (.bool false))) 77 255,mv' 77 6 511]
def c18:SC:=(.seq (.reg false ydfd) (.seq (.reg false ydbl) (.seq (.reg true ydho) (.seq (.reg true ydbo) (.seq (.seq (.reg true ydgi) (.cond (.tmp 42) (.seq (.reg false ydky) .ret) .skip)) (.seq (.reg false ydfv) (.seq (.seq (.reg false ydgj) (.block 0 (.loop (.seq (.seq (.reg false ycxt) (.cond (.tmp 46) .skip (.exit 0))) (.seq (.block 1 (.reg true yccu)) (.reg false ydhq)))))) (.seq (.reg true ycqt) (.seq (.reg false ycil) .ret)))))))))
theorem ydgm:Fn 18 c18 [.t 6]:=fn_0 Tryz.func18 (by kernel_rfl) (by kernel_rfl)
def ydcj:LO:=[o3 (.box 24 (.tmp 0)) 3 0,o3 (.mv (.const (.bool false))) 6 0]
def ydas:LO:=[ld' true 6 3 13 0,o3 (.call (.func 48) [(.tmp 13),(ci' 8)]) 14 1,o3 (.alloc 27 1 [.a (.slice none 0 0),.a (.slice none 0 0)]) 7 0,o0 (.store 2 (.tmp 7) (.tmp 14)) 7]
def ydci:LO:=[cl' 59 [] 15 0,cl' 37 [15] 16 1,o3 (.alloc 58 1 [.a (.string (ByteArray.mk #[])),.a (.slice none 0 0),.a (.slice none 0 0)]) 8 0,o0 (.store 3 (.tmp 8) (.tmp 16)) 7]
def yddf:LO:=[cl' 59 [] 18 0,ld' true 2 7 19 0,ld' true 2 7 20 0,cl' 68 [20] 21 5,o3 (.field false 0 1 (.tmp 21)) 22 13,ld' true 2 7 23 0,cl' 60 [] 24 13,mv' 1 25 0,cl' 24 [23,24,25] 26 237,mv' 2 27 0,o3 (.call (.func 26) [(.tmp 27),(ci' 60)]) 28 1005,cl' 22 [18,19,22,26,28] 29 2047,mv' 29 17 4095,xt' 17 0 30 8191,xt' 17 1 31 8191,xt' 17 2 32 8191,mv' 30 9 16383,mv' 31 10 98303,mv' 32 11 262143]
def ydfh:LO:=[o3 (.mv (ci' 0)) 12 0]
def ycxz:LO:=[mv' 12 33 0,mv' 9 34 0,ln' 34 35 2,bn' .lss 33 35 36 7]
def ydap:LO:=[ld' true 3 8 39 0,ld' true 2 7 40 0,mv' 9 41 0,mv' 12 42 0,ix' 1 41 42 43 12,ld' false 1 43 44 28,cl' 36 [39,40,44] 45 63,o3 (.bin .eql (.tmp 45) (.const (.int .u32 0))) 46 127,ld' true 2 7 47 0,mv' 9 48 0,mv' 12 49 0,ix' 1 48 49 50 1536,ld' false 1 50 51 3584,cl' 65 [47,51] 52 8063,o3 (.beq true (.tmp 46) (.tmp 52)) 53 16383]
def ydij:LO:=[o3 (.mv (.const (.bool false))) 6 0]
def ydcf:LO:=[mv' 12 37 0,o3 (.bin .add (.tmp 37) (ci' 1)) 38 1,mv' 38 12 3]
def ydfs:LO:=[cl' 64 [] 54 0,mv' 54 55 1,⟨.mv (.tmp 11),some 56,some (55,true),3⟩,o3 (.pick (.tmp 55) (.tmp 56) (.const (.bool false))) 57 7,mv' 57 6 15]
def c19:SC:=(.seq (.reg false ydcj) (.seq (.reg false ydas) (.seq (.reg false ydci) (.seq (.reg true yddf) (.seq (.seq (.reg false ydfh) (.block 0 (.loop (.seq (.seq (.reg false ycxz) (.cond (.tmp 36) .skip (.exit 0))) (.seq (.block 1 (.seq (.reg true ydap) (.cond (.tmp 53) (.seq (.reg false ydij) .ret) .skip))) (.reg false ydcf)))))) (.seq (.reg false ydfs) .ret))))))
theorem ydcb:Fn 19 c19 [.t 6]:=fn_0 Tryz.func19 (by kernel_rfl) (by kernel_rfl)
end Sh
end Go.Proofs.YtiejahgklcjhkaaGreatDoor

namespace Go.Proofs.YtiejahgklcjhkaaGreatDoor
open Go
theorem mtW_in{g:Gr}(hg:GoodG g){c:Conf}(h:MtC g c){v:Nat}(hv:v<g.ids.length):-1<=mtW g c v/\mtW g c v<(g.ports.length:Int):=by
 have hpl:=hg.2.2.1;have hr:=(h.row v hv).2;have hat:mtW g c v=if pAt c v >= 0 then((g.ports.getD v []).getD (pAt c v).toNat (0,0)).1 else -1:=Sh.ybcv (by rw[h.len];exact hv)
 rw[hat];have h1:=hg.1;split
 ·have hk:(pAt c v).toNat<(g.ports.getD v []).length:=by omega
  have hm:=mem_adj hg (show v<g.ports.length by omega) (List.getElem_mem hk)
  rw[Sh.getD_at hk];omega
 ·omega
def ymj(g:Gr):Sh.SV:=if ybt g=true then .ag (Sh.clmV 2 false true (2 * ydh g+g.ports.length:Nat) (2 * ydh g+g.ports.length:Nat))else .ag (Sh.clmV 0 false false 0 0)
namespace Sh
open Ev Go.RowKit
set_option maxRecDepth 8000
theorem ybge{g:Gr}(hI:GrI g):Returns Tryz.prog 121 [grV g] (.b (ybt g)):=by
 refine Returns.of (ycwc _ _ ?_);have hC:=ymz hI;simp only[grV]at hC;simp only[c121,yckg,ycji,grV,go_sem,Nat.reduceEqDiff,Nat.reduceAdd,Nat.reduceLT,↓reduceIte];refine hC.use ?_;simp only[thenO,sim_b,go_sem,Nat.reduceEqDiff,Nat.reduceAdd,↓reduceIte,reduceCtorEq]
theorem yblk{g:Gr}(hI:GrI g):Returns Tryz.prog 123 [grV g] (.b (ybt g)):=by
 refine Returns.of (ycye _ _ ?_);have hC:=ytg hI;simp only[grV]at hC;simp only[c123,ycoi,ycee,grV,go_sem,Nat.reduceEqDiff,Nat.reduceAdd,Nat.reduceLT,↓reduceIte];refine hC.use ?_;simp only[thenO,sim_b,go_sem,Nat.reduceEqDiff,Nat.reduceAdd,↓reduceIte,reduceCtorEq]
theorem MConf_ret{g:Gr}(hI:GrI g){c:Conf}(hR:RowsI c):Returns Tryz.prog 117 [grV g,rowsV c] (.b (mtConfB g c)):=by
 refine Returns.of (ycwj _ _ ?_);have hF:=ybge hI;unfold mtConfB;cases ht:ybt g with
 | false =>
  rw[ht]at hF;simp only[grV]at hF;simp only[c117,ybtk,ybvq,grV,clash,go_sem,Nat.reduceEqDiff,Nat.reduceAdd,Nat.reduceLT,↓reduceIte];refine hF.use ?_;simp only[thenO,clash,go_sem,Nat.reduceEqDiff,Nat.reduceAdd,↓reduceIte,reduceCtorEq];exact Sim.refl _
 | true =>
  have hg:=(ybx g).1 ht
  have hC:=ybxr hg hR (G:=[-1]) (fun x hx=>by
   simp at hx;subst hx;exact ikw (by omega) (by omega))
  rw[ht]at hF;simp only[grV]at hF;simp only[c117,ybtk,ybvq,grV,clash,go_sem,Nat.reduceEqDiff,Nat.reduceAdd,Nat.reduceLT,↓reduceIte];refine hF.use ?_;simp only[thenO,intsV,splice,clash,go_sem,Nat.reduceEqDiff,Nat.reduceAdd,Nat.reduceLT,↓reduceIte,reduceCtorEq];have one:∀ {q:Nat},q<1->q=0:=fun {q} h=>by omega
  refine .inl ⟨fun q hq=>by obtain rfl:=one hq;simp only[go_sem],hC.useS ?_ ?_⟩
  ·refine⟨Sim.refl (grV g),Sim.refl _,?_,trivial⟩;refine yfv fun q hq=>?_;obtain rfl:=one hq;simp only[List.getD_cons_zero,go_sem];exact⟨Sim.refl _,trivial⟩
  simp only[go_sem];exact Sim.refl _
set_option maxHeartbeats 2000000 in
theorem MLegit_ret {g : Gr} (hI : GrI g) {c : Conf} (hR : RowsI c) : Returns Tryz.prog 65 [grV g, rowsV c] (.b (mtLegitB g c)) := by
  refine Returns.of (c65_ok _ _ ?_)
  have hC := MConf_ret hI hR
  cases hcf : mtConfB g c with
  | false =>
    have e : mtLegitB g c = false := by unfold mtLegitB; rw [hcf]; rfl
    rw [hcf] at hC
    rw [e]
    simp only [grV] at hC
    simp only [c65, c65_0, c65_1, c65_2, grV, clash, go_sem, Nat.reduceEqDiff, Nat.reduceAdd, Nat.reduceLT, ↓reduceIte, reduceCtorEq]
    refine hC.use ?_
    simp only [thenO, clash, go_sem, Nat.reduceEqDiff, Nat.reduceAdd, ↓reduceIte]
    exact Sim.refl _
  | true =>
    obtain ⟨hg, hcl, hc1⟩ := mtConf_at hcf
    have hM := mtC_of hcf
    have h24 := hg.2.1
    have hpl := hg.2.2.1
    have hT := Towards_ret (g := g) (c := c) (x := 0) (by omega) (by omega) (by omega) (fun v hv => by obtain ⟨a, b, d⟩ := hc1 v hv; exact ⟨by omega, d⟩)
    have hLk := Links_ret (g := g)
    have hTl := towP_len g c 0
    have hWi := fun v (hv : v < g.ids.length) => mtW_in hg hM hv
    have hLe : mtLegitB g c = (mtPtsB g c && mtLnkB g c) := by unfold mtLegitB; rw [hcf]; rfl
    have hPe : mtPtsB g c = (List.range c.length).all fun v => !(decide (mtW g c v >= 0) && (mtW g c (mtW g c v).toNat != (v : Int))) := rfl
    have hQe : mtLnkB g c = (flatAt 0 g.ports).all fun e => !(decide (mtW g c e.v < 0) && decide (mtW g c e.a.toNat < 0)) := rfl
    obtain ⟨W, hW⟩ : ∃ W : Nat -> Int, (fun v => mtW g c v) = W := ⟨_, rfl⟩
    have hW' : ∀ v, mtW g c v = W v := fun v => by rw [<- hW]
    have hTW : ∀ v, (towP g c 0).getD v 0 = W v := fun v => hW' v
    obtain ⟨T, hTe⟩ : ∃ T, towP g c 0 = T := ⟨_, rfl⟩
    obtain ⟨n, hn⟩ : ∃ n, c.length = n := ⟨_, rfl⟩
    simp only [hW'] at hPe hQe hWi
    rw [hTe] at hT hTl hTW
    rw [hn] at hTl hPe hcl
    rw [hcf] at hC
    rw [hLe]
    simp only [grV] at hC hT hLk
    simp only [intsV, hTl] at hT
    simp only [c65, c65_0, c65_1, c65_3, grV, clash, go_sem, Nat.reduceEqDiff, Nat.reduceAdd, Nat.reduceLT, ↓reduceIte, reduceCtorEq]
    refine hC.use ?_
    simp only [thenO, clash, go_sem, Nat.reduceEqDiff, Nat.reduceAdd, Nat.reduceLT, ↓reduceIte, reduceCtorEq]
    refine hT.use ?_
    simp only [c65_4, clash, go_sem, Nat.reduceAdd, ↓reduceIte]
    refine loop_on (σ := Nat) (fun k => ⟨[(19, .i .i64 k), (18, .i .i64 n), (17, .sl 1 n fun v => [.i .i64 (T.getD v 0)]), (2, .pt (2, 0) 0 0), (4, .pt (4, 0) 0 0), (5, .pt (5, 0) 0 0)],
      [(2, .one (some ⟨27, true, 2, 1, fun _ => [intsV g.ids, portsV g.ports]⟩)), (4, .one (some ⟨4, true, 1, 1, fun _ => [.b false]⟩)), (5, .one (some ⟨22, true, 1, 1, fun _ => [.sl 1 n fun v => [.i .i64 (T.getD v 0)]]⟩))]⟩)
        (fun k => k <= n /\ ∀ j, j < k -> (decide (W j >= 0) && (W (W j).toNat != (j : Int))) = false) (fun k => n - k) 0 ⟨Nat.zero_le _, fun j hj => absurd hj (Nat.not_lt_zero j)⟩ ?_ ?_
    · refine weak_all [] [] [] ?_
      simp only [go_sem, allQ, live, sim_self, Int.natCast_zero, go_sem, Nat.reduceEqDiff, ↓reduceIte, reduceCtorEq]
    rintro k ⟨hk, hall⟩
    by_cases hlt : k < n
    · have t1 : decide ((k : Int) < (n : Int)) = true := decide_eq_true (by omega)
      obtain ⟨w1, w2⟩ := hWi k (by omega)
      have hTk := hTW k
      obtain ⟨x, hx⟩ : ∃ x, W k = x := ⟨_, rfl⟩
      rw [hx] at w1 w2 hTk
      have hTx := hTW x.toNat
      obtain ⟨y, hy⟩ : ∃ y, W x.toNat = y := ⟨_, rfl⟩
      rw [hy] at hTx
      by_cases q : x >= 0
      · have t2 : decide (x >= 0) = true := decide_eq_true q
        by_cases r : y = (k : Int)
        · have t3 : (y != (k : Int)) = false := by rw [r]; simp
          simp only [c65_5, c65_6, c65_7, c65_9, hTk, hTx, t1, t2, t3, clash, go_sem, Nat.reduceEqDiff, Nat.reduceAdd, ↓reduceIte, reduceCtorEq]
          repeat (refine ⟨by omega, ?_⟩)
          refine ⟨ikw (by omega) (by omega), ?_⟩
          refine loop_again (k + 1) ⟨by omega, fun j hj => ?_⟩ (by omega) ?_
          · by_cases q2 : j = k
            · rw [q2, hx, hy, t2, t3]; rfl
            · exact hall j (by omega)
          · refine weak_all [] [] [] ?_
            simp only [go_sem, allQ, live, sim_self, sim_i, go_sem, Nat.reduceEqDiff, ↓reduceIte, reduceCtorEq]
            omega
        · have t3 : (y != (k : Int)) = true := by rw [bne_iff_ne]; exact r
          have e : (List.range n).all (fun v => !(decide (W v >= 0) && (W (W v).toNat != (v : Int)))) = false := by
            rw [List.all_eq_false]
            exact ⟨k, List.mem_range.2 hlt, by rw [hx, hy, t2, t3]; decide⟩
          rw [hPe, e, Bool.false_and]
          simp only [c65_5, c65_6, c65_7, c65_8, hTk, hTx, t1, t2, t3, clash, go_sem, Nat.reduceEqDiff, Nat.reduceAdd, ↓reduceIte, reduceCtorEq]
          repeat (refine ⟨by omega, ?_⟩)
          exact Sim.refl _
      · have t2 : decide (x >= 0) = false := decide_eq_false q
        simp only [c65_5, c65_6, c65_7, c65_9, hTk, t1, t2, clash, go_sem, Nat.reduceEqDiff, Nat.reduceAdd, ↓reduceIte, reduceCtorEq]
        repeat (refine ⟨by omega, ?_⟩)
        refine ⟨ikw (by omega) (by omega), ?_⟩
        refine loop_again (k + 1) ⟨by omega, fun j hj => ?_⟩ (by omega) ?_
        · by_cases q2 : j = k
          · rw [q2, hx, t2]; rfl
          · exact hall j (by omega)
        · refine weak_all [] [] [] ?_
          simp only [go_sem, allQ, live, sim_self, sim_i, go_sem, Nat.reduceEqDiff, ↓reduceIte, reduceCtorEq]
          omega
    · obtain rfl : k = n := by omega
      have t1 : decide ((k : Int) < (k : Int)) = false := decide_eq_false (by omega)
      have e : (List.range k).all (fun v => !(decide (W v >= 0) && (W (W v).toNat != (v : Int)))) = true := by
        rw [List.all_eq_true]
        exact fun v hv => by rw [hall v (List.mem_range.1 hv)]; rfl
      rw [hPe, e, Bool.true_and]
      simp only [c65_5, c65_10, t1, go_sem, Nat.reduceEqDiff, Nat.reduceAdd, ↓reduceIte]
      refine hLk.use ?_
      simp only [thenO, clash, go_sem]
      refine range_on (links_it (links_i64 hg)) [(2, 0), (4, 0), (5, 0)] (fun i (_ : Unit) => ⟨[(36, .fn 158 [] [.rf [intsV g.ids, portsV g.ports]]), (2, .pt (2, 0) 0 0), (4, .pt (4, 0) 0 0), (5, .pt (5, 0) 0 0)],
        [(2, .one (some ⟨27, true, 2, 1, fun _ => [intsV g.ids, portsV g.ports]⟩)), (4, .one (some ⟨4, true, 1, 1, fun _ => [.b false]⟩)), (5, .one (some ⟨22, true, 1, 1, fun _ => [.sl 1 k fun v => [.i .i64 (T.getD v 0)]]⟩))]⟩)
          (fun i _ => i <= (flatAt 0 g.ports).length /\ ∀ j, j < i -> (decide (W (linkEl g.ports j).v < 0) && decide (W (linkEl g.ports j).a.toNat < 0)) = false) () ⟨Nat.zero_le _, fun j hj => absurd hj (Nat.not_lt_zero j)⟩ ⟨fun _ h => absurd h List.not_mem_nil, fun _ h => absurd h List.not_mem_nil⟩ ?_ (fun _ => rfl) ?_ ?_ ?_
      · refine weak_all [] [] [] ?_
        simp only [go_sem, allQ, live, sim_self, go_sem, Nat.reduceEqDiff, ↓reduceIte, reduceCtorEq]
      · intro i _ hi _
        refine ⟨trivial, ?_⟩
        simp only [go_sem, allQ, go_sem, Nat.reduceEqDiff]
      · intro i _ hi hlti
        obtain ⟨hi, hgood⟩ := hi
        have hlti : i < (flatAt 0 g.ports).length := hlti
        obtain ⟨e1, e2⟩ := linkEl_at hg hlti
        have hel : linkEl g.ports i ∈ flatAt 0 g.ports := by unfold linkEl; rw [getD_at hlti]; exact List.getElem_mem hlti
        obtain ⟨E, hE⟩ : ∃ E, linkEl g.ports i = E := ⟨_, rfl⟩
        rw [hE] at e1 e2 hel
        obtain ⟨a1, a2, _⟩ := mem_adj hg e1 e2
        have a1 : 0 <= E.a := a1
        have a2 : E.a.toNat < g.ports.length := a2
        have h1 := hTW E.v
        have h2 := hTW E.a.toNat
        obtain ⟨x, hx⟩ : ∃ x, W E.v = x := ⟨_, rfl⟩
        obtain ⟨y, hy⟩ : ∃ y, W E.a.toNat = y := ⟨_, rfl⟩
        rw [hx] at h1
        rw [hy] at h2
        refine ⟨_, rfl, ?_⟩
        simp only [linksS]
        have next : (decide (x < 0) && decide (y < 0)) = false -> i + 1 <= (flatAt 0 g.ports).length /\ ∀ j, j < i + 1 -> (decide (W (linkEl g.ports j).v < 0) && decide (W (linkEl g.ports j).a.toNat < 0)) = false := fun hb => ⟨hlti, fun j hj => by
          by_cases q : j = i
          · rw [q, hE, hx, hy]; exact hb
          · exact hgood j (by omega)⟩
        by_cases q : x < 0
        · have t2 : decide (x < 0) = true := decide_eq_true q
          by_cases r : y < 0
          · have t3 : decide (y < 0) = true := decide_eq_true r
            have e : (flatAt 0 g.ports).all (fun e => !(decide (W e.v < 0) && decide (W e.a.toNat < 0))) = false := by
              rw [List.all_eq_false]
              exact ⟨E, hel, by rw [hx, hy, t2, t3]; decide⟩
            rw [hQe, e]
            simp only [c65_11, c65_12, c65_13, c65_14, hE, h1, h2, t2, t3, splice, clash, go_sem, Nat.reduceEqDiff, Nat.reduceAdd, Nat.reduceLeDiff, Nat.reduceLT, ↓reduceIte, reduceCtorEq]
            repeat (refine ⟨by omega, ?_⟩)
            exact Sim.refl _
          · have t3 : decide (y < 0) = false := decide_eq_false r
            rw [t2, t3] at next
            simp only [c65_11, c65_12, c65_13, hE, h1, h2, t2, t3, splice, clash, go_sem, Nat.reduceEqDiff, Nat.reduceAdd, Nat.reduceLeDiff, Nat.reduceLT, ↓reduceIte, reduceCtorEq]
            repeat (first | refine ⟨(by omega : (_ : Prop)), ?_⟩ | refine ⟨(by decide : (_ : Prop)), ?_⟩)
            refine ⟨next rfl, ?_⟩
            refine weak_allP [] [] [] ?_
            simp only [go_sem, allQ, live, sim_self, go_sem, Nat.reduceEqDiff, ↓reduceIte, reduceCtorEq]
        · have t2 : decide (x < 0) = false := decide_eq_false q
          rw [t2] at next
          simp only [c65_11, c65_12, c65_13, hE, h1, t2, splice, clash, go_sem, Nat.reduceEqDiff, Nat.reduceAdd, Nat.reduceLT, ↓reduceIte, reduceCtorEq]
          repeat (first | refine ⟨(by omega : (_ : Prop)), ?_⟩ | refine ⟨(by decide : (_ : Prop)), ?_⟩)
          refine ⟨next rfl, ?_⟩
          refine weak_allP [] [] [] ?_
          simp only [go_sem, allQ, live, sim_self, go_sem, Nat.reduceEqDiff, ↓reduceIte, reduceCtorEq]
      · intro _ hgood
        obtain ⟨_, hgood⟩ := hgood
        have e : (flatAt 0 g.ports).all (fun e => !(decide (W e.v < 0) && decide (W e.a.toNat < 0))) = true := by
          rw [List.all_eq_true]
          intro e he
          obtain ⟨j, hj, rfl⟩ := List.getElem_of_mem he
          have := hgood j hj
          unfold linkEl at this
          rw [getD_at hj] at this
          rw [this]
          rfl
        rw [hQe, e]
        simp only [c65_15, splice, go_sem, Nat.reduceEqDiff, ↓reduceIte]
        exact Sim.refl _
theorem ybke{g:Gr}(hI:GrI g):Returns Tryz.prog 68 [grV g] (ymj g):=by
 refine Returns.of (ydbm _ _ ?_);have hF:=ybge hI;have hS:=ybpd hI;unfold ymj;unfold ybiw at hS;cases ht:ybt g with
 | false =>
  rw[ht]at hF;simp only[grV]at hF;simp only[c68,ycxg,ycsi,ydia,grV,clmV,clash,go_sem,Nat.reduceEqDiff,Nat.reduceAdd,Nat.reduceLT,↓reduceIte];refine hF.use ?_;simp only[thenO,splice,clash,go_sem,Nat.reduceEqDiff,Nat.reduceAdd,↓reduceIte];exact Sim.refl _
 | true =>
  have hg:=(ybx g).1 ht;have h24:=hg.2.1;have hb:=yed hg g.ports.length (Nat.le_refl _);rw[ygp]at hb;have hl:ydh g<=288:=by unfold ydh;omega
  have e:2 * ((ydh g:Nat):Int)+((g.ports.length:Nat):Int)=((2 * ydh g+g.ports.length:Nat):Int):=by omega
  rw[ht]at hF;rw[ht,if_pos rfl]at hS;simp only[grV]at hF hS;simp only[c68,ycxg,ycsi,yddx,ydby,grV,clmV,clash,go_sem,Nat.reduceEqDiff,Nat.reduceAdd,Nat.reduceLT,↓reduceIte];refine hF.use ?_;simp only[thenO,splice,clash,go_sem,Nat.reduceEqDiff,Nat.reduceAdd,Nat.reduceLeDiff,↓reduceIte,reduceCtorEq];refine hS.use ?_;simp only[e,go_sem,Nat.reduceEqDiff,Nat.reduceAdd,↓reduceIte];exact⟨ikw (by omega) (by omega),ikw (by omega) (by omega),ikw (by omega) (by omega),ikw (by omega) (by omega),Sim.refl _⟩
theorem yyz{g:Gr}(hI:GrI g):Returns Tryz.prog 69 [grV g] (ymj g):=by
 refine Returns.of (ydbd _ _ ?_);have hF:=yblk hI;have hS:=ybmy hI;unfold ymj;unfold ybiw at hS;cases ht:ybt g with
 | false =>
  rw[ht]at hF;simp only[grV]at hF;simp only[c69,ycte,ycts,ydfc,grV,clmV,clash,go_sem,Nat.reduceEqDiff,Nat.reduceAdd,Nat.reduceLT,↓reduceIte];refine hF.use ?_;simp only[thenO,splice,clash,go_sem,Nat.reduceEqDiff,Nat.reduceAdd,↓reduceIte];exact Sim.refl _
 | true =>
  have hg:=(ybx g).1 ht;have h24:=hg.2.1;have hb:=yed hg g.ports.length (Nat.le_refl _);rw[ygp]at hb;have hl:ydh g<=288:=by unfold ydh;omega
  have e:2 * ((ydh g:Nat):Int)+((g.ports.length:Nat):Int)=((2 * ydh g+g.ports.length:Nat):Int):=by omega
  rw[ht]at hF;rw[ht,if_pos rfl]at hS;simp only[grV]at hF hS;simp only[c69,ycte,ycts,ydba,ydey,grV,clmV,clash,go_sem,Nat.reduceEqDiff,Nat.reduceAdd,Nat.reduceLT,↓reduceIte];refine hF.use ?_;simp only[thenO,splice,clash,go_sem,Nat.reduceEqDiff,Nat.reduceAdd,Nat.reduceLeDiff,↓reduceIte,reduceCtorEq];refine hS.use ?_;simp only[e,go_sem,Nat.reduceEqDiff,Nat.reduceAdd,↓reduceIte];exact⟨ikw (by omega) (by omega),ikw (by omega) (by omega),ikw (by omega) (by omega),ikw (by omega) (by omega),Sim.refl _⟩
theorem ybpr:Returns Tryz.prog 60 [] (ycl [⟨⟨#[112]⟩,3,0,0,0,0⟩]):=by
 refine Returns.of (ydev _ _ ?_);have h1:=ybcs ⟨#[112]⟩;simp only[varC]at h1;simp only[c60,ydgq,ydan,go_sem,↓reduceIte];refine h1.use ?_;simp only[thenO,splice,clash,go_sem,Nat.reduceEqDiff,Nat.reduceAdd,Nat.reduceLT,↓reduceIte,reduceCtorEq];have one:∀ {q:Nat},q<1->q=0:=fun {q} h=>by omega
 refine⟨fun q hq=>by obtain rfl:=one hq;simp only[go_sem],?_⟩
 refine yfv fun q hq=>?_;obtain rfl:=one hq;simp only[varC,List.getD_cons_zero,go_sem];exact⟨Sim.refl _,Sim.refl _,Sim.refl _,Sim.refl _,Sim.refl _,Sim.refl _,trivial⟩
end Sh
end Go.Proofs.YtiejahgklcjhkaaGreatDoor

namespace Go.Proofs.YtiejahgklcjhkaaGreatDoor
namespace Sh
open Go Ev
theorem Cm.ct{P:Program}{g:FuncId}{args:List SV}{Q:SV->Own->Prop}{R:SV->Prop}(h:Cm P g [] [] args Q)(hq:∀ r o',Q r o'->vok o' 5 r/\R (view o' 5 r)):Ct P g args R:=by
 intro G m us hw hle hargs
 have hc0:Conc m.next G om0 ⟨[],[]⟩ ⟨0,.leaf⟩ (enterM m) :=
  ⟨hw,Nat.le_refl _,Nat.le_refl _,hle,fun β b h=>(by cases h),fun β _=>rfl,fun β γ k z k' z' h=>(by cases h),fun β k z h=>(by cases h),fun t v hv=>(by cases hv)⟩
 obtain⟨v,m1,r,o',F',ω',s0,t2,hrv,l1,l2,_,_,hQ⟩:=h m.next G om0 ⟨0,.leaf⟩ (enterM m) us hc0 hargs
 obtain⟨r3,r4⟩:=hq r o' hQ
 have hs0:ybg P (.call g us m) (.call v m1):=by
  obtain⟨n,b,l⟩:=m;exact ybg.relow s0
 have hm1:m.next<=m1.low:=t2.low
 have hold:∀ {i x},m.b.get i=some x->i<m.next:=fun {i x} q=>hw i x q
 have hview:∀ H:AM,Le F' H->(∀ β k z,ω' β=some (some (k,z)) -> ∀ b,m1.b.get k=some b->H k=some b)->RV H om0 (view o' 5 r) v:=fun H h1 h2=>ygo t2 h1 h2 hrv r3
 have hs1:ybg P (.call g us m) (.call v ⟨m1.next,yfa m.b m1.b,m1.low⟩):=by
  intro hwm;obtain⟨ext,hcall⟩:=hs0 hwm
  have hget:∀ {i x},(yfa m.b m1.b).get i=some x->m.b.get i=some x\/m1.b.get i=some x:=fun {i x} q=>by
   rw[yby]at q;split at q
   ·rename_i y hy;cases q;exact .inl hy
   ·exact .inr q
  refine⟨⟨ext.next,fun i b hq=>?_,fun i b h1 h2 hq=>?_,fun i b hq=>?_⟩,fun φ M w args' hR hs ha hf=>?_⟩
  ·rcases hget hq with q | q
   ·exact .inl ⟨b,q⟩
   ·exact ext.dom i b q
  ·rcases hget hq with q | q
   ·exact q
   ·exact ext.old i b h1 h2 q
  ·rcases hget hq with q | q
   ·exact Nat.lt_of_lt_of_le (hold q) ext.next
   ·exact ext.wf i b q
  ·refine(hcall φ M w args' hR hs ha hf).mono ?_;rintro e' w' ⟨v',rfl,φ',M',hgd,hv⟩;refine⟨v',rfl,φ',M',⟨hgd.le,hgd.out,hgd.rel,fun i b hq=>?_,hgd.frame,hgd.wg⟩,hv⟩;rcases hget hq with q | q
   ·have hi:=hold q;rw[hgd.frame i (fun z=>by omega) (.inr (Nat.lt_of_lt_of_le hi hm1))]
    exact hs i b q
   ·exact hgd.sub i b q
 have hnone:∀ {i},m.next<=i->m.b.get i=none:=fun {i} q=>by
  cases hh:m.b.get i with
  | none=>rfl
  | some x=>have:=hold hh;omega
 refine⟨_,_,view o' 5 r,hs1,hm1,fun i b hq=>?_,r4,hview _ (fun i b hq=>?_) (fun β k z hk b hq=>?_)⟩
 ·show(yfa m.b m1.b).get i=some b;rw[yby,hq]
 ·unfold frsh;rcases l2 i b hq with q | q
  ·rw[if_neg (by have:=hold (hle i b q);omega)];exact q
  ·rw[if_pos q];show(yfa m.b m1.b).get i=some b;rw[yby,hnone q];exact t2.sub i b hq
 ·unfold frsh;have:=(t2.apart β k z hk).2.1;rw[if_pos this];show(yfa m.b m1.b).get k=some b;rw[yby,hnone this];exact hq
theorem Cm.weak {P:Program} {g:FuncId} {o:Own} {args:List SV} {Q R:SV->Own->Prop} (h:Cm P g [] o args Q)
  (hq:∀ r o',Q r o' -> ∃ r2 o2,Weak [] ⟨[(0,r)],o'⟩ ⟨[(0,r2)],o2⟩/\(cln (live o2) 5 r2=true/\allQ (fun p=>famCln (live o2) p.2) o2)/\R r2 o2):Cm P g [] o args R:=by
 intro lo G ω f m us hc hargs;obtain⟨v,m1,r,o',F',ω',s0,t2,hrv,l1,l2,_,_,hQ⟩:=h lo G ω f m us hc hargs;obtain⟨r2,o2,hw,hcl,hR⟩:=hq r o' hQ
 have t3:Conc lo F' ω' ⟨[(0,r)],o'⟩ ⟨1,tOf [v]⟩ m1:=⟨t2.wf,t2.low,t2.nxt,t2.sub,t2.own,t2.dom,t2.inj,t2.apart,fun t x hx=>by
  unfold look at hx;split at hx
  ·rename_i e
   cases hx
   exact⟨v,by rw[ybs];simp[<- e],hrv⟩
  ·cases hx⟩
 obtain⟨ω2,F2,k1,k2,k3,_⟩:=hw lo F' ω' _ m1 t3;obtain⟨u,q1,q2⟩:=k3.fr 0 r2 rfl
 have e:u=v:=by
  rw[ybs]at q1
  simpa using q1.symm
 subst e
 exact⟨u,m1,r2,o2,F2,ω2,s0,⟨k3.wf,k3.low,k3.nxt,k3.sub,k3.own,k3.dom,k3.inj,k3.apart,fun t x hx=>(by cases hx)⟩,q2,fun x b hx=>k1 x b (l1 x b hx),fun x b hx=>by
  rcases k2 x b hx with z | z
  ·exact l2 x b z
  ·exact .inr z,fun β hβ=>absurd hβ List.not_mem_nil,⟨hcl.1,hcl.2,trivial⟩,hR⟩
end Sh
end Go.Proofs.YtiejahgklcjhkaaGreatDoor

namespace Go.Proofs.YtiejahgklcjhkaaGreatDoor
namespace Sh
open Go Ev
def ycrk:LO:=[o3 (.box 40 (.tmp 0)) 1 0,o3 (.mv (.const (.nilFunc))) 2 0]
def ycqo:LO:=[o3 (.mkfn 189 [] [(.tmp 1)]) 3 0,mv' 3 2 1]
def c154:SC:=(.seq (.reg false ycrk) (.seq (.reg false ycqo) .ret))
theorem ybys:FnM 154 c154 [.t 2]:=fn_m Tryz.func154 (by kernel_rfl) (by kernel_rfl)
def ycqf:LO:=[o3 (.box 110 (.tmp 0)) 2 0,o3 (.box 40 (.tmp 1)) 3 0,o3 (.alloc 4 1 [.b false]) 4 0]
def ycds:LO:=[ld' false 1 3 6 0,cl' 154 [6] 7 1]
def ycka:LO:=[mv' 8 5 0]
def yckk:LO:=[ld' false 1 2 9 0,mv' 5 10 0,ix' 1 9 10 11 3,ld' false 1 11 12 7,ld' false 1 3 13 0,bn' .and 12 13 14 31,o3 (.bin .neq (.tmp 14) (.const (.int .u32 0))) 15 63]
def ydae:LO:=[o0 (.store 1 (.tmp 4) (.const (.bool false))) 0]
def ycdg:LO:=[o0 (.store 1 (.tmp 4) (.const (.bool true))) 0]
def c221:SC:=(.seq (.reg false ycqf) (.seq (.seq (.reg false ycds) (.block 0 (.range (.tmp 7) [8] (.reg false ycka) (.block 1 (.seq (.reg true yckk) (.cond (.tmp 15) (.seq (.reg false ydae) .ret) .skip)))))) (.seq (.reg false ycdg) .ret)))
theorem ybwu:FnU 221 c221 [.c 4 false 1]:=fn_u Tryz.func221 (by kernel_rfl) (by kernel_rfl)
def ycyz:LO:=[o3 (.box 24 (.tmp 0)) 2 0,o3 (.alloc 27 1 [.a (.slice none 0 0),.a (.slice none 0 0)]) 4 0]
def ycsp:LO:=[fa' 4 1 2 5 0,ld' false 1 5 6 1,o3 (.un .not (.tmp 6)) 7 3]
def ydfq:LO:=[ld' true 6 2 8 0,mv' 1 9 0,cl' 70 [8,9] 10 3,o0 (.store 2 (.tmp 4) (.tmp 10)) 7]
def ydag:LO:=[ld' true 6 2 11 0,ld' true 6 2 12 0,mv' 1 13 0,cl' 75 [12,13] 14 6,cl' 105 [11,14] 15 15,o0 (.store 2 (.tmp 4) (.tmp 15)) 31]
def c48:SC:=(.seq (.reg false ycyz) (.seq (.seq (.reg false ycsp) (.cond (.tmp 7) (.seq (.reg false ydfq) .ret) .skip)) (.seq (.reg true ydag) .ret)))
theorem ycyd:FnU 48 c48 [.c 4 true 2]:=fn_u Tryz.func48 (by kernel_rfl) (by kernel_rfl)
end Sh
end Go.Proofs.YtiejahgklcjhkaaGreatDoor

namespace Go.Proofs.YtiejahgklcjhkaaGreatDoor
open Go
namespace Sh
open Ev Go.RowKit
set_option maxRecDepth 8000
theorem nodesL_ok{x:NetR}(hx:x.ok){most:Nat}(hm:1<=most/\most<=24) :
  Cm Tryz.prog 75 [] [] [.ag (netC x),.i .i64 most] fun r o=>∃ g,GoodG g/\g.ports.length<=most/\r=linkA g/\o=linkO g.ports :=
 (nodes_ok hx hm).weak fun r o' ⟨ids,h1,h2,h3,e1,e2⟩=>by
  subst e1 e2;obtain⟨n,hn⟩:∃ n,ids.length=n:=⟨_,rfl⟩;have b1:(bare ids).ids=ids:=rfl;have b2:(bare ids).ports.length=n:=by simp[bare,hn]
  have b3:∀ v,(bare ids).ports.getD v [] = []:=bare_ports ids;refine⟨linkA (bare ids),linkO (bare ids).ports,?_,?_,bare ids,bare_good (by omega) (by omega) h2 h3,by rw[b2];omega,rfl,rfl⟩
  ·refine weak_all [(211,fun i=>(17,i))] [212] [] ?_;simp only[linkA,linkO,rowO,b1,b2,b3,hn,List.length_nil,allQ,live,sim_self,go_sem,Nat.reduceEqDiff,Nat.reduceBEq,↓reduceIte,reduceCtorEq];refine⟨fun i hi=>⟨(212,i),rfl,rfl,by simp[hi]⟩,fun i b hb=>?_⟩
   obtain⟨_,rfl⟩:=some_row hb;exact⟨rfl,rfl⟩
  ·simp only[linkO,linkA,famCln,obCln,allQ,live,go_sem,Nat.reduceEqDiff,↓reduceIte];refine⟨fun i hi=>by rw[if_pos hi],fun i b hb k hk=>?_⟩
   obtain⟨hi,rfl⟩:=some_row hb;simp only[rowO,go_sem]
theorem ybup{x:NetR}(hx:x.ok){most:Nat}(hm:1<=most/\most<=24) :
  Ct Tryz.prog 48 [.ag (netC x),.i .i64 most] fun r=>∃ g,GoodG g/\g.ports.length<=most/\Sim r (grV g):=by
 refine ycyd [75,105] _ _ ?_;have hC:=yvl hx hm;have hN:=nodesL_ok hx hm;simp only[netC]at hC hN;cases hap:x.apart with
 | false =>
  rw[hap]at hC;simp only[c48,ycyz,ycsp,ydfq,netC,hap,clash,go_sem,Nat.reduceEqDiff,Nat.reduceAdd,Nat.reduceLeDiff,Nat.reduceLT,Nat.reduceBEq,↓reduceIte,reduceCtorEq];refine hC.found (V:=grV) (fun r g h=>h.2.2.2) fun r g h=>?_;simp only[thenO,grV,splice,clash,go_sem,Nat.reduceEqDiff,Nat.reduceAdd,↓reduceIte];exact⟨g,h.1,h.2.2.1,Sim.refl _⟩
 | true =>
  rw[hap]at hN;simp only[c48,ycyz,ycsp,ydag,netC,hap,clash,go_sem,Nat.reduceEqDiff,Nat.reduceAdd,Nat.reduceLeDiff,Nat.reduceLT,↓reduceIte,reduceCtorEq];refine callM_of hN [(211,211),(212,212)] 0 [2,4,11] [2,4] ?_ ?_
  ·simp only[okN,famCln,obCln,keepF,keepO,allQ,live,sim_self,go_sem,Nat.reduceEqDiff,Nat.reduceAdd,Nat.reduceBEq,↓reduceIte,reduceCtorEq]
  rintro r o' ⟨g,hg,hn,rfl,rfl⟩;have hM:=ybnp (Q:=fun _=>True) hx hg trivial (fun G a b w gG gl ga gb gw gQ=>trivial);simp only[netC,hap]at hM;simp only[linkO,linkA,thenM,yhf,nuF,nu,difN,keepF,keepO,Fam.ren,OB.ren,dim,ylb,ygd,go_sem,Nat.reduceEqDiff,Nat.reduceAdd,Nat.reduceBEq,↓reduceIte];refine callM_of hM [(211,211),(212,212)] 0 [4] [4] ?_ ?_
  ·simp only[linkA,linkO,to1,okN,famCln,obCln,keepF,keepO,allQ,live,sim_self,go_sem,Nat.reduceEqDiff,Nat.reduceAdd,Nat.reduceBEq,↓reduceIte,reduceCtorEq];refine⟨⟨fun i _ j _ e=>e,fun i hi=>by rw[if_pos hi],fun i b hb=>?_⟩,by decide⟩
   obtain⟨hi,rfl⟩:=some_row hb;refine⟨_,ypq (f:=ren (nu [(211,211),(212,212)] 0) 5) (fun _ _=>rfl) hi,⟨rfl,rfl,rfl,rfl⟩,fun k hk=>?_⟩;simp only[rowO,live,sim_self,go_sem,reduceCtorEq]
  rintro r o' ⟨G,gg,-,gn,rfl,rfl⟩;simp only[linkO,linkA,clash,splice,thenM,yhf,nuF,nu,difN,keepF,keepO,Fam.ren,OB.ren,dim,ylb,ygd,go_sem,Nat.reduceEqDiff,Nat.reduceAdd,Nat.reduceBEq,↓reduceIte];refine⟨by decide,fun q hq=>?_,G,gg,by omega,?_⟩
  ·simp only[if_pos hq];exact⟨Nat.le_refl _,fun k hk=>by simp only[rowO,go_sem]⟩
  ·refine ynt ⟨Sim.refl _,?_,trivial⟩;refine yfv fun q hq=>?_;simp only[if_pos hq];simp only[rowO,yg,yew,go_sem];exact⟨Sim.refl _,trivial⟩
end Sh
end Go.Proofs.YtiejahgklcjhkaaGreatDoor

namespace Go.Proofs.YtiejahgklcjhkaaGreatDoor
namespace Ev
open Go
set_option maxRecDepth 1000000
def Mzb0:BlkL:=⟨5,71,1,[.slice (some ⟨20,0,none⟩) 1 CU,.slice (some ⟨29,0,none⟩) 2 CU,.slice (some ⟨31,0,none⟩) 1 CU]⟩
def Mzb1:BlkL:=⟨12,3,1,[.int .i64 0,.int .i64 1,.int .i64 2]⟩
def Mzb2:BlkL:=⟨29,95,2,[.int .i64 0,.int .i64 1,.int .i64 2,.int .i64 1]⟩
def Mzb3:BlkL:=⟨746,240,2,[.int .i64 41,.int .i64 0,.int .i64 35,.int .i64 0,.int .i64 5,.int .i64 0,.int .i64 4,.int .i64 0,.int .i64 21,.int .i64 0,.int .i64 35,.int .i64 0,.int .i64 12,.int .i64 0,.int .i64 17,.int .i64 0]⟩
def Mzb4:BlkL:=⟨795,240,2,[.int .i64 23,.int .i64 0,.int .i64 35,.int .i64 0,.int .i64 12,.int .i64 0,.int .i64 17,.int .i64 0]⟩
def Mzb5:BlkL:=⟨802,200,2,[.int .i64 0,.slice (some ⟨795,0,none⟩) 4 CU]⟩
def Mzb6:BlkL:=⟨881,240,2,[.int .i64 41,.int .i64 0,.int .i64 35,.int .i64 0,.int .i64 5,.int .i64 0,.int .i64 4,.int .i64 0,.int .i64 21,.int .i64 0,.int .i64 35,.int .i64 0,.int .i64 12,.int .i64 0,.int .i64 4,.int .i64 0]⟩
def Mzb7:BlkL:=⟨926,240,2,[.int .i64 23,.int .i64 0,.int .i64 35,.int .i64 0,.int .i64 12,.int .i64 0,.int .i64 4,.int .i64 0]⟩
def Mzb8:BlkL:=⟨933,200,2,[.int .i64 0,.slice (some ⟨926,0,none⟩) 4 CU]⟩
def Mzb9:BlkL:=⟨1042,240,2,[.int .i64 21,.int .i64 0,.int .i64 41,.int .i64 0,.int .i64 41,.int .i64 0,.int .i64 35,.int .i64 0,.int .i64 11,.int .i64 0,.int .i64 5,.int .i64 0,.int .i64 36,.int .i64 0,.int .i64 12,.int .i64 0,.int .i64 4,.int .i64 0,.int .i64 36,.int .i64 0,.int .i64 12,.int .i64 0,.int .i64 17,.int .i64 0]⟩
def yctw:BlkL:=⟨1058,240,2,[.int .i64 4,.int .i64 0]⟩
def ycyq:BlkL:=⟨1065,200,2,[.int .i64 0,.slice (some ⟨1058,0,none⟩) 1 1]⟩
def ydgg:BlkL:=⟨2544,22,1,[.slice (some ⟨2545,0,none⟩) 1 CU,.slice (some ⟨2588,0,none⟩) 1 CU,.slice (some ⟨2547,0,none⟩) 1 CU]⟩
end Ev
end Go.Proofs.YtiejahgklcjhkaaGreatDoor

namespace Go.Proofs.YtiejahgklcjhkaaGreatDoor
namespace Ev
open Go
set_option maxRecDepth 1000000
def Mzm1:Fact:=ybhc.move [746,795,802,1960] 1963
theorem ycyn:ych Tryz.prog Mzm1:=ycq (yh.at_ ygv 0 rfl) (by kernel_rfl)
def Mzm2:Fact:=ybhx.move [881,926,933,1960] 2088
theorem ycxm:ych Tryz.prog Mzm2:=ycq (yh.at_ ygv 1 rfl) (by kernel_rfl)
def Mzm3:Fact:=ybfo.move [1042,1058,1065,1960] 2213
theorem ycwa:ych Tryz.prog Mzm3:=ycq (yh.at_ ypu 0 rfl) (by kernel_rfl)
/- selfstab/memory.Check -/
def ybrc:Fact:=⟨112,[.agg #[.string (by8 [109,97,116,99,104,105,110,103]),.slice (some ⟨667,0,none⟩) 1 CU,.slice (some ⟨1069,0,none⟩) 3 CU],.agg #[.slice (some ⟨12,0,none⟩) 3 CU,.slice (some ⟨5,0,none⟩) 3 3],.slice (some ⟨1707,0,none⟩) 3 3],1710,[Mzb0,Mzb1,⟨20,95,2,[.int .i64 1,.int .i64 1]⟩,Mzb2,⟨31,95,2,[.int .i64 1,.int .i64 1]⟩,⟨667,87,6,[.string (by8 [112]),.int .i64 3,.int .i64 0,.int .i64 0,.int .i64 0,.int .i64 0]⟩,Mzb3,Mzb4,Mzb5,Mzb6,Mzb7,Mzb8,Mzb9,yctw,ycyq,⟨1069,191,3,[.string (by8 [97,99,99,101,112,116]),.slice (some ⟨746,0,none⟩) 8 CU,.slice (some ⟨802,0,none⟩) 1 CU,.string (by8 [112,114,111,112,111,115,101]),.slice (some ⟨881,0,none⟩) 8 CU,.slice (some ⟨933,0,none⟩) 1 CU,.string (by8 [119,105,116,104,100,114,97,119]),.slice (some ⟨1042,0,none⟩) 12 CU,.slice (some ⟨1065,0,none⟩) 1 CU]⟩,⟨1704,3,1,[.int .i64 (-1)]⟩,⟨1705,3,1,[.int .i64 (-1)]⟩,⟨1706,3,1,[.int .i64 (-1)]⟩,⟨1707,22,1,[.slice (some ⟨1704,0,none⟩) 1 1,.slice (some ⟨1705,0,none⟩) 1 1,.slice (some ⟨1706,0,none⟩) 1 1]⟩],.int .i64 0,2383,[],1710⟩
def ydjp:List Fact:=[ybrc]
theorem ycbo:yh ydjp:=yh.seq (yh.cons (f:=Mzm1) ycyn (yh.cons (f:=Mzm2) ycxm (yh.cons (f:=Mzm3) ycwa yh.nil))) (by kernel_rfl)
def Mzm4:Fact:=ybhc.move [746,795,802,2856] 2859
theorem ycxc:ych Tryz.prog Mzm4:=ycq (yh.at_ ygv 0 rfl) (by kernel_rfl)
def Mzm5:Fact:=ybhx.move [881,926,933,2856] 2984
theorem ycvq:ych Tryz.prog Mzm5:=ycq (yh.at_ ygv 1 rfl) (by kernel_rfl)
def Mzm6:Fact:=ybfo.move [1042,1058,1065,2856] 3109
theorem ycyb:ych Tryz.prog Mzm6:=ycq (yh.at_ ypu 0 rfl) (by kernel_rfl)
/- selfstab/memory.Check -/
def ycdf:Fact:=⟨112,[.agg #[.string (by8 [109,97,116,99,104,105,110,103]),.slice (some ⟨667,0,none⟩) 1 CU,.slice (some ⟨1069,0,none⟩) 3 CU],.agg #[.slice (some ⟨12,0,none⟩) 3 CU,.slice (some ⟨5,0,none⟩) 3 3],.slice (some ⟨2544,0,none⟩) 3 3],2606,[Mzb0,Mzb1,⟨20,95,2,[.int .i64 1,.int .i64 1]⟩,Mzb2,⟨31,95,2,[.int .i64 1,.int .i64 1]⟩,⟨667,87,6,[.string (by8 [112]),.int .i64 3,.int .i64 0,.int .i64 0,.int .i64 0,.int .i64 0]⟩,Mzb3,Mzb4,Mzb5,Mzb6,Mzb7,Mzb8,Mzb9,yctw,ycyq,⟨1069,191,3,[.string (by8 [97,99,99,101,112,116]),.slice (some ⟨746,0,none⟩) 8 CU,.slice (some ⟨802,0,none⟩) 1 CU,.string (by8 [112,114,111,112,111,115,101]),.slice (some ⟨881,0,none⟩) 8 CU,.slice (some ⟨933,0,none⟩) 1 CU,.string (by8 [119,105,116,104,100,114,97,119]),.slice (some ⟨1042,0,none⟩) 12 CU,.slice (some ⟨1065,0,none⟩) 1 CU]⟩,ydgg,⟨2545,3,1,[.int .i64 (-1)]⟩,⟨2547,3,1,[.int .i64 (-1)]⟩,⟨2588,3,1,[.int .i64 0]⟩],.int .i64 0,3279,[],2606⟩
def ydjk:List Fact:=[ycdf]
theorem ybze:yh ydjk:=yh.seq (yh.cons (f:=Mzm4) ycxc (yh.cons (f:=Mzm5) ycvq (yh.cons (f:=Mzm6) ycyb yh.nil))) (by kernel_rfl)
end Ev
end Go.Proofs.YtiejahgklcjhkaaGreatDoor

namespace Go.Proofs.YtiejahgklcjhkaaGreatDoor
namespace Ev
open Go
set_option maxRecDepth 1000000
/- selfstab/step.Step -/
def ybtc:Fact:=⟨53,[.agg #[.string (by8 [109,97,116,99,104,105,110,103]),.slice (some ⟨667,0,none⟩) 1 CU,.slice (some ⟨1069,0,none⟩) 3 CU],.agg #[.slice (some ⟨12,0,none⟩) 3 CU,.slice (some ⟨5,0,none⟩) 3 3],.slice (some ⟨2544,0,none⟩) 3 3,.int .u32 1],2604,[Mzb0,Mzb1,⟨20,95,2,[.int .i64 1,.int .i64 1]⟩,Mzb2,⟨31,95,2,[.int .i64 1,.int .i64 1]⟩,⟨667,87,6,[.string (by8 [112]),.int .i64 3,.int .i64 0,.int .i64 0,.int .i64 0,.int .i64 0]⟩,Mzb3,Mzb4,Mzb5,Mzb6,Mzb7,Mzb8,Mzb9,yctw,ycyq,⟨1069,191,3,[.string (by8 [97,99,99,101,112,116]),.slice (some ⟨746,0,none⟩) 8 CU,.slice (some ⟨802,0,none⟩) 1 CU,.string (by8 [112,114,111,112,111,115,101]),.slice (some ⟨881,0,none⟩) 8 CU,.slice (some ⟨933,0,none⟩) 1 CU,.string (by8 [119,105,116,104,100,114,97,119]),.slice (some ⟨1042,0,none⟩) 12 CU,.slice (some ⟨1065,0,none⟩) 1 CU]⟩,ydgg,⟨2545,3,1,[.int .i64 (-1)]⟩,⟨2547,3,1,[.int .i64 (-1)]⟩,⟨2588,3,1,[.int .i64 0]⟩],.tuple #[.slice (some ⟨3486,0,none⟩) 3 3,.int .i64 0],3517,[⟨3486,22,1,[.slice (some ⟨3505,0,none⟩) 1 CU,.slice (some ⟨3488,0,none⟩) 1 CU,.slice (some ⟨3489,0,none⟩) 1 CU]⟩,⟨3488,3,1,[.int .i64 0]⟩,⟨3489,3,1,[.int .i64 (-1)]⟩,⟨3505,3,1,[.int .i64 0]⟩],2604⟩
def ydiv:List Fact:=[ybtc]
theorem ybxn:yh ydiv:=yh.seq (yh.cons (f:=ycdf) (yh.at_ ybze 0 rfl) yh.nil) (by kernel_rfl)
end Ev
end Go.Proofs.YtiejahgklcjhkaaGreatDoor

