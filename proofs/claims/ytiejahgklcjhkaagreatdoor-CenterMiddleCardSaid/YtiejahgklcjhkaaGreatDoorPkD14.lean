/- Lemmas, joined: Pr Pt SgL SgM SgJ U32 SgO SgP SgQ SgR SgS. -/
import Derived.Test.YtiejahgklcjhkaaGreatDoorPkD12
import Derived.Test.YtiejahgklcjhkaaGreatDoorPkD11
import Derived.Test.YtiejahgklcjhkaaGreatDoorPkD13
import Derived.Test.YtiejahgklcjhkaaGreatDoorPkD3
set_option linter.unusedSimpArgs false
set_option linter.unusedVariables false
namespace Go.Proofs.YtiejahgklcjhkaaGreatDoor

def yeu(f:Nat->Bool):Nat->Nat
 | 0=>0
 | n+1=>if f n then yeu f n ||| 2 ^ n else yeu f n
theorem yew(f:Nat->Bool):∀ (n i:Nat),(yeu f n).testBit i=(decide (i<n) && f i)
 | 0,i=>by simp[yeu]
 | n+1,i=>by
  unfold yeu;have ih:=yew f n i
  by_cases h:f n=true
  ·rw[if_pos h,Nat.testBit_or,ih,Nat.testBit_two_pow]
   by_cases e:n=i
   ·subst e;simp[h]
   ·have:(i<n+1)=(i<n):=propext (by omega)
    simp[e,this]
  ·rw[if_neg h,ih]
   by_cases e:n=i
   ·subst e;simp[h]
   ·have:(i<n+1)=(i<n):=propext (by omega)
    simp[this]
theorem ypa(f:Nat->Bool)(n:Nat):yeu f n<2 ^ n:=by
 refine Nat.lt_pow_two_of_testBit _ fun i hi=>?_;rw[yew];simp;omega
def difB(a b:Nat):Nat:=a ^^^ (a &&& b)
theorem ygj(a b i:Nat):(difB a b).testBit i=(a.testBit i && !(b.testBit i)):=by
 unfold difB;rw[Nat.testBit_xor,Nat.testBit_and];cases a.testBit i<;>cases b.testBit i<;>rfl
theorem ycl(a:Nat):a=0 ↔ ∀ i,a.testBit i=false:=by
 constructor
 ·rintro rfl i;simp
 ·intro h;exact Nat.eq_of_testBit_eq fun i=>by rw[h i];simp
theorem ychw{a b n:Nat}(h:a<2 ^ n):a &&& b<2 ^ n:=by
 have:=Nat.and_le_left (n:=a) (m:=b);omega
theorem ywz{a b n:Nat}(h:a<2 ^ n):difB a b<2 ^ n:=by
 refine Nat.lt_pow_two_of_testBit _ fun i hi=>?_;rw[ygj,Nat.testBit_lt_two_pow (Nat.lt_of_lt_of_le h (Nat.pow_le_pow_right (by omega) hi))]
 rfl
structure Cnt where
 steps:Nat
 moves:Nat
 rounds:Nat
 begun:Nat
 pend:Nat
def ybu(s:Nat):Nat->Nat
 | 0=>0
 | n+1=>ybu s n+(s.testBit n).toNat
def popP(s:Nat):Nat:=ybu s 32
def yci(e:Nat):Cnt:=⟨0,0,0,0,e⟩
def addP(k:Cnt)(chosen after:Nat):Cnt :=
 let p:=difB k.pend chosen &&& after
 ⟨k.steps+1,k.moves+popP chosen,if p=0 then k.rounds+1 else k.rounds,k.rounds+1,if p=0 then after else p⟩
def Cnt.ok(k:Cnt):Prop:=k.rounds<=k.begun/\k.begun<=k.rounds+1/\k.begun<=k.steps/\k.steps<=k.moves/\k.moves<=24 * k.steps/\k.pend<2 ^ 24
theorem yhr(s:Nat):∀ n,ybu s n<=n
 | 0=>Nat.le_refl _
 | n+1=>by
  have:=yhr s n;unfold ybu;cases s.testBit n<;>simp[Bool.toNat]<;>omega
theorem yuy(s:Nat)(h:s<2 ^ 24):∀ k,ybu s (24+k)=ybu s 24
 | 0=>rfl
 | k+1=>by
  have e:s.testBit (24+k)=false:=Nat.testBit_lt_two_pow (Nat.lt_of_lt_of_le h (Nat.pow_le_pow_right (by omega) (by omega)))
  show ybu s (24+k)+(s.testBit (24+k)).toNat=_;rw[yuy s h k,e];rfl
theorem ybne(s:Nat)(h:s<2 ^ 24):popP s<=24:=by
 have:=yuy s h 8;unfold popP;rw[this];exact yhr s 24
theorem yqc{s i:Nat}(hs:s.testBit i=true):∀ n,i<n->1<=ybu s n
 | 0,h=>by omega
 | n+1,h=>by
  unfold ybu
  by_cases e:i=n
  ·subst e;rw[hs];simp
  ·have:=yqc hs n (by omega);omega
theorem ybwn(s:Nat)(h:s<2 ^ 32)(h0:s ≠ 0):1<=popP s:=by
 refine Classical.byContradiction fun hc=>h0 ?_;rw[ycl];intro i;cases hb:s.testBit i with
 | false=>rfl
 | true =>
  exfalso
  have hi:i<32:=by
   refine Classical.byContradiction fun hi=>?_;rw[Nat.testBit_lt_two_pow (Nat.lt_of_lt_of_le h (Nat.pow_le_pow_right (by omega) (by omega)))]at hb
   cases hb
  exact hc (yqc hb 32 hi)
theorem ybru{e:Nat}(h:e<2 ^ 24):(yci e).ok:=⟨Nat.le_refl _,by simp[yci],Nat.le_refl _,Nat.le_refl _,by simp[yci],h⟩
theorem ycus{k:Cnt}{s e:Nat}(hk:k.ok)(hs:s<2 ^ 24)(h0:s ≠ 0)(he:e<2 ^ 24):(addP k s e).ok:=by
 obtain⟨h1,h2,h3,h4,h5,h6⟩:=hk;have p1:=ybne s hs;have p2:=ybwn s (by omega) h0
 have hp:difB k.pend s &&& e<2 ^ 24:=ychw (ywz h6);unfold addP Cnt.ok;simp only;refine⟨by split<;>omega,by split<;>omega,by omega,by omega,by omega,by split<;>omega⟩

structure Sys where
 n:Nat
 en:Conf->Nat
 mv:Conf->Nat->Conf
def Sys.run(S:Sys)(res:Nat->Nat->Nat):List Nat->Conf->Cnt->List (Conf × Cnt)
 | [],_,_=>[]
 | w :: ws,c,k=>if S.en c=0 then[]else(let s:=res (S.en c) w
  let d:=S.mv c s
  (d,addP k s (S.en d)) :: S.run res ws d (addP k s (S.en d)))
def Sys.runs(S:Sys)(res:Nat->Nat->Nat)(ws:List Nat)(c:Conf):List (Conf × Cnt):=(c,yci (S.en c)) :: S.run res ws c (yci (S.en c))
def subB(a b:Nat):Prop:=∀ i,a.testBit i=true->b.testBit i=true
def ybck(res:Nat->Nat->Nat):Prop:=∀ e w,e ≠ 0->res e w ≠ 0/\subB (res e w) e
theorem Sys.run_all{S:Sys}{res:Nat->Nat->Nat}(hr:ybck res){J:Conf->Cnt->Prop}(hstep:∀ c k s,J c k->s ≠ 0->subB s (S.en c)->J (S.mv c s) (addP k s (S.en (S.mv c s)))) :
  ∀ (ws:List Nat) (c:Conf) (k:Cnt),J c k -> ∀ p ∈ S.run res ws c k,J p.1 p.2
 | [],_,_,_,p,hp=>by cases hp
 | w :: ws,c,k,hJ,p,hp=>by
  unfold Sys.run at hp;split at hp
  ·cases hp
  ·rename_i h0
   obtain⟨r1,r2⟩:=hr _ w h0;have hJ':=hstep c k _ hJ r1 r2;rcases List.mem_cons.1 hp with e | e
   ·rw[e];exact hJ'
   ·exact Sys.run_all hr hstep ws _ _ hJ' p e
theorem Sys.runs_all{S:Sys}{res:Nat->Nat->Nat}(hr:ybck res){J:Conf->Cnt->Prop}(hstep:∀ c k s,J c k->s ≠ 0->subB s (S.en c)->J (S.mv c s) (addP k s (S.en (S.mv c s)))){ws:List Nat}{c:Conf}(h:J c (yci (S.en c))):∀ p ∈ S.runs res ws c,J p.1 p.2:=fun p hp=>by
 rcases List.mem_cons.1 hp with e | e
 ·rw[e];exact h
 ·exact Sys.run_all hr hstep ws _ _ h p e

structure ByRounds(S:Sys)(V:Conf->Prop)(P:Nat->Nat->List Int->Prop):Prop where
 valid:∀ c s,V c->s ≠ 0->subB s (S.en c)->V (S.mv c s)
 stay:∀ c s v,V c->v<S.n->s.testBit v=false->(S.mv c s).getD v []=c.getD v []
 move:∀ c s v r,V c->v<S.n->s.testBit v=true->subB s (S.en c)->(∀ u,u<S.n->P r u (c.getD u []))->P (r+1) v ((S.mv c s).getD v [])
 rest:∀ c v r,V c->v<S.n->(S.en c).testBit v=false->(∀ u,u<S.n->P r u (c.getD u []))->P (r+1) v (c.getD v [])
 less:∀ r v s,P (r+1) v s->P r v s
structure RInv(S:Sys)(V:Conf->Prop)(P:Nat->Nat->List Int->Prop)(c:Conf)(k:Cnt):Prop where
 valid:V c
 all:∀ v,v<S.n->P k.rounds v (c.getD v [])
 done:∀ v,v<S.n->k.pend.testBit v=false->P (k.rounds+1) v (c.getD v [])
 begun:k.begun<=k.rounds+1
theorem ByRounds.start{S:Sys}{V:Conf->Prop}{P:Nat->Nat->List Int->Prop}(h:ByRounds S V P){c:Conf}(hv:V c)(h0:∀ v,v<S.n->P 0 v (c.getD v [])):RInv S V P c (yci (S.en c)) :=
 ⟨hv,h0,fun v hn hb=>h.rest c v 0 hv hn hb h0,by simp[yci]⟩
theorem ByRounds.step{S:Sys}{V:Conf->Prop}{P:Nat->Nat->List Int->Prop}(h:ByRounds S V P)(c:Conf)(k:Cnt)(s:Nat)(hi:RInv S V P c k)(h0:s ≠ 0)(hs:subB s (S.en c)):RInv S V P (S.mv c s) (addP k s (S.en (S.mv c s))):=by
 obtain⟨i1,i2,i3,i4⟩:=hi;have hv:=h.valid c s i1 h0 hs
 have hall:∀ v,v<S.n->P k.rounds v ((S.mv c s).getD v []):=fun v hn=>by
  cases hb:s.testBit v with
  | true=>exact h.less _ _ _ (h.move c s v _ i1 hn hb hs i2)
  | false=>rw[h.stay c s v i1 hn hb];exact i2 v hn
 have hnext:∀ v,v<S.n->(difB k.pend s &&& S.en (S.mv c s)).testBit v=false->P (k.rounds+1) v ((S.mv c s).getD v []):=fun v hn hb=>by
  rw[Nat.testBit_and,ygj]at hb;cases hb1:s.testBit v with
  | true=>exact h.move c s v _ i1 hn hb1 hs i2
  | false =>
   cases hb2:k.pend.testBit v with
   | false=>rw[h.stay c s v i1 hn hb1];exact i3 v hn hb2
   | true =>
    rw[hb1,hb2]at hb;exact h.rest _ v _ hv hn (by simpa using hb) hall
 unfold addP;simp only
 by_cases hp:difB k.pend s &&& S.en (S.mv c s)=0
 ·simp only[if_pos hp];have hall':∀ v,v<S.n->P (k.rounds+1) v ((S.mv c s).getD v []):=fun v hn=>hnext v hn (by rw[hp];simp)
  exact⟨hv,hall',fun v hn hb=>h.rest _ v _ hv hn hb hall',by show k.rounds+1<=_;simp⟩
 ·simp only[if_neg hp];exact⟨hv,hall,hnext,Nat.le_refl _⟩
theorem ByRounds.runs{S:Sys}{V:Conf->Prop}{P:Nat->Nat->List Int->Prop}(h:ByRounds S V P){res:Nat->Nat->Nat}(hr:ybck res){ws:List Nat}{c:Conf}(hv:V c)(h0:∀ v,v<S.n->P 0 v (c.getD v [])):∀ p ∈ S.runs res ws c,RInv S V P p.1 p.2 :=
 Sys.runs_all hr h.step (h.start hv h0)
end Go.Proofs.YtiejahgklcjhkaaGreatDoor

namespace Go.Proofs.YtiejahgklcjhkaaGreatDoor

structure RuleT where
 name:ByteArray
 guard:Ex
 sets:List (Int × Ex)
structure ProgT where
 name:ByteArray
 vars:List VarR
 rules:List RuleT
instance:Inhabited Ex:=⟨.leaf 0 0⟩
instance:Inhabited RuleT:=⟨⟨.empty,default,[]⟩⟩
def RuleT.raw(r:RuleT):RuleR:=⟨r.name,r.guard.ser,r.sets.map fun s=>⟨s.1,s.2.ser⟩⟩
def ProgT.raw(p:ProgT):ProgR:=⟨p.name,p.vars,p.rules.map RuleT.raw⟩
def RuleT.ok(nv:Nat)(r:RuleT):Bool:=r.guard.ok nv false && decide (r.guard.ser.length<=1000) && decide (r.sets.length<=100) && r.sets.all fun s=>decide (0<=s.1/\s.1<nv) && s.2.ok nv false && decide (s.2.ser.length<=1000)
def VarR.ok(x:VarR):Bool:=decide (x.kind=1\/x.kind=2\/x.kind=3) && decide (0<=x.lo/\x.lo<=4096) && decide (-4096<=x.hi/\x.hi<=4096) && decide (0<=x.perNode/\x.perNode<=255) && decide (0<=x.perID/\x.perID<=255)
def ProgT.ok(p:ProgT):Bool:=decide (1<=p.vars.length/\p.vars.length<=6) && p.vars.all VarR.ok && decide (p.rules.length<=12) && p.rules.all (RuleT.ok p.vars.length)

def ykr(g:Gr)(c:Conf)(v:Nat)(r:RuleT):Bool:=yeb g c v r.guard (-1) != 0
def ygo(p:ProgT)(g:Gr)(c:Conf)(v:Nat):Int:=match p.rules.findIdx? (ykr g c v)with | some i=>i | none=>-1
def ybd(g:Gr)(v:Nat)(x:VarR):Int × Int :=
 if x.kind=1 then(x.lo,x.hi+x.perNode * (g.ids.length:Int)+x.perID * maxI g.ids)else if x.kind=2 then(0,1)else if x.kind=3 then(-1,((g.ports.getD v []).length:Int) - 1)else(0,-1)
def yjg(kind:Int)(b:Int × Int)(x:Int):Int:=if x >= b.1/\x<=b.2 then x else if kind=3 then -1 else if x<b.1 then b.1 else b.2
def ymr(p:ProgT)(g:Gr)(c:Conf)(v:Nat)(s0:List Int)(sets:List (Int × Ex)):List Int :=
 sets.foldl (fun s a=>s.set a.1.toNat (yjg (p.vars.getD a.1.toNat default).kind (ybd g v (p.vars.getD a.1.toNat default)) (yeb g c v a.2 (-1)))) s0
def ybfh(p:ProgT)(g:Gr)(c:Conf)(v:Nat)(r:Nat):List Int:=ymr p g c v (c.getD v []) (p.rules.getD r default).sets
def ybp(p:ProgT)(g:Gr)(c:Conf):Nat:=yeu (fun v=>decide (ygo p g c v >= 0)) g.ids.length
def ykp(p:ProgT)(g:Gr)(c:Conf)(s:Nat):Conf:=c.zipIdx.map fun q=>if s.testBit q.2 then ybfh p g c q.2 (ygo p g c q.2).toNat else q.1
def ybk(p:ProgT)(g:Gr):Sys:=⟨g.ids.length,ybp p g,ykp p g⟩
def yft(p:ProgT)(g:Gr)(c:Conf):Bool:=yom g.ids.length (fun v=>p.vars.map (ybd g v)) c
end Go.Proofs.YtiejahgklcjhkaaGreatDoor

namespace Go.Proofs.YtiejahgklcjhkaaGreatDoor
namespace Sh
open Go Ev
set_option maxRecDepth 8000

theorem ycuh{g:Gr}(hg:ybb g):0<=maxI g.ids/\maxI g.ids<=255:=by
 have h1:=hg.1;have h2:=hg.2.2.1;rw[ybhq (by omega) fun x hx=>(hg.2.2.2.1 x hx).1]
 exact yqj hg
theorem ybff{x:VarR}(h:x.ok=true):(x.kind=1\/x.kind=2\/x.kind=3)/\(0<=x.lo/\x.lo<=4096)/\(-4096<=x.hi/\x.hi<=4096)/\(0<=x.perNode/\x.perNode<=255)/\(0<=x.perID/\x.perID<=255):=by
 unfold VarR.ok at h;simp only[Bool.and_eq_true,decide_eq_true_eq]at h;obtain⟨⟨⟨⟨a,b⟩,c⟩,d⟩,e⟩:=h;exact⟨a,b,c,d,e⟩
theorem mulN{a b A B:Int}(h1:0<=a)(h2:a<=A)(h3:0<=b)(h4:b<=B):0<=a * b/\a * b<=A * B:=⟨Int.mul_nonneg h1 h3,Int.mul_le_mul h2 h4 h3 (by omega)⟩
theorem ykq{g:Gr}(hg:ybb g){x:VarR}(hx:x.ok=true):(0<=x.perNode * (g.ids.length:Int)/\x.perNode * (g.ids.length:Int)<=255 * 24)/\(0<=x.perID * maxI g.ids/\x.perID * maxI g.ids<=255 * 255):=by
 obtain⟨_,_,_,h4,h5⟩:=ybff hx;have h6:=ycuh hg;have h7:=hg.2.1;have h8:=hg.2.2.1;exact⟨mulN h4.1 h4.2 (by omega) (by omega),mulN h5.1 h5.2 h6.1 h6.2⟩
theorem ybel{g:Gr}(hg:ybb g){x:VarR}(hx:x.ok=true)(v:Int):Returns Tryz.prog 198 [.ag (varC x),grV g,.i .i64 v] (.tp [.i .i64 x.lo,.i .i64 (x.hi+x.perNode * (g.ids.length:Int)+x.perID * maxI g.ids)]):=by
 refine Returns.of (ycvr _ _ ?_);have h1:=hg.1;have h7:=hg.2.1;have h8:=hg.2.2.1;have hM:=ycue g.ids (by omega) (by omega)
 obtain⟨hb1,hb2⟩:=ykq hg hx;obtain⟨_,_,hv3,_,_⟩:=ybff hx;simp only[yj]at hM;simp only[c198,ycbu,ychi,grV,varC,yj,go_sem,Nat.reduceEqDiff,Nat.reduceAdd,Nat.reduceLeDiff,Nat.reduceLT,↓reduceIte,reduceCtorEq];refine⟨ikw (by omega) (by omega),ikw (by omega) (by omega),hM.use ?_⟩
 simp only[thenO,go_sem,Nat.reduceEqDiff,Nat.reduceAdd,↓reduceIte,reduceCtorEq];refine⟨ikw (by omega) (by omega),ikw (by omega) (by omega),?_⟩
 exact Sim.refl _
theorem ybbz(g:Gr)(x:VarR)(v:Int):Returns Tryz.prog 199 [.ag (varC x),grV g,.i .i64 v] (.tp [.i .i64 0,.i .i64 1]):=by
 refine Returns.of (ycuw _ _ ?_);simp only[c199,ycoy,ycmg,grV,varC,go_sem,Nat.reduceEqDiff,Nat.reduceAdd,Nat.reduceLT,↓reduceIte,reduceCtorEq];exact Sim.refl _
theorem ybek{g:Gr}(hg:ybb g)(x:VarR){v:Nat}(hv:v<g.ports.length):Returns Tryz.prog 200 [.ag (varC x),grV g,.i .i64 v] (.tp [.i .i64 (-1),.i .i64 (((g.ports.getD v []).length:Int) - 1)]):=by
 refine Returns.of (ycrc _ _ ?_);have hd:=hg.deg_lt (v:=v);simp only[c200,ycdx,ycpg,grV,yu,yba,varC,go_sem,Nat.reduceEqDiff,Nat.reduceAdd,Nat.reduceLT,↓reduceIte,reduceCtorEq];refine⟨by omega,ikw (by omega) (by omega),?_⟩
 exact Sim.refl _
theorem ybsh(kind:Int)(b:Int × Int)(x:Int):Returns Tryz.prog 194 [.i .i64 kind,.ag [.i .i64 b.1,.i .i64 b.2],.i .i64 x] (.i .i64 (yjg kind b x)):=by
 refine Returns.of (ycrl _ _ ?_);simp only[c194,yckb,ycew,yclt,ycii,ycdc,ycjk,yckw,ycgo,yw,yjg,go_sem,Int.reduceToNat,Nat.reduceEqDiff,Nat.reduceAdd,Nat.reduceLeDiff,Nat.reduceLT,Nat.reduceMul,↓reduceIte,reduceCtorEq];refine⟨by omega,fun h1=>⟨by omega,fun h2=>by rw[if_pos ⟨h1,h2⟩],fun h2=>⟨fun h3=>by rw[if_neg (fun q=>h2 q.2),if_pos h3],fun h3=>⟨by omega,fun h4=>⟨by omega,by rw[if_neg (fun q=>h2 q.2),if_neg h3,if_pos h4]⟩,fun h4=>⟨by omega,by rw[if_neg (fun q=>h2 q.2),if_neg h3,if_neg h4]⟩⟩⟩⟩,fun h1=>⟨fun h3=>by rw[if_neg (fun q=>h1 q.1),if_pos h3],fun h3=>⟨by omega,fun h4=>⟨by omega,by rw[if_neg (fun q=>h1 q.1),if_neg h3,if_pos h4]⟩,fun h4=>⟨by omega,by rw[if_neg (fun q=>h1 q.1),if_neg h3,if_neg h4]⟩⟩⟩⟩
theorem ytx{g:Gr}(hg:ybb g){x:VarR}(hx:x.ok=true){v:Nat}(hv:v<g.ports.length):Returns Tryz.prog 171 [.ag (varC x),grV g,.i .i64 v] (.tp [.i .i64 (ybd g v x).1,.i .i64 (ybd g v x).2]):=by
 refine Returns.of (ycsp _ _ ?_);have h1:=ybel hg hx v;have h2:=ybbz g x v;have h3:=ybek hg x hv;obtain⟨hk,_⟩:=ybff hx;simp only[varC,grV]at h1 h2 h3;simp only[c171,ychn,ycmf,ycon,varC,grV,splice,go_sem,Nat.reduceEqDiff,Nat.reduceAdd,Nat.reduceLeDiff,Nat.reduceLT,↓reduceIte,reduceCtorEq]
 refine ybe (σ:=Nat) (fun k=>⟨[(17,.i .i64 k),(15,.os (14,0) 0 3 true),(16,.i .i64 3),(2,.i .i64 v),(3,.pt (3,0) 0 0),(4,.pt (4,0) 0 0)],
   [(3,.one (some ⟨87,true,6,1,fun _=>varC x⟩)),(4,.one (some ⟨27,true,2,1,fun _=>[yj g.ids,yu g.ports]⟩)),
    (14,.one (some ⟨209,false,2,3,fun k=>if k=0 then[.i .i64 1,.fn 198 [] []]else if k=1 then[.i .i64 2,.fn 199 [] []]else[.i .i64 3,.fn 200 [] []]⟩))]⟩)
  (fun k=>k<=2/\(1<=k->x.kind ≠ 1)/\(2<=k->x.kind ≠ 2)) (fun k=>3 - k) 0 ⟨by omega,by omega,by omega⟩ ?_ ?_
 ·refine yg [] [] [] ?_;simp only[varC,allQ,live,yc,yw,Int.natCast_zero,go_sem,Nat.reduceEqDiff,↓reduceIte,reduceCtorEq];refine⟨rfl,fun i hi=>?_⟩;rcases(show i=0\/i=1\/i=2 by omega)with rfl | rfl | rfl
  ·simp only[live,yc,go_sem,↓reduceIte,reduceCtorEq]
  ·simp only[if_neg (show ¬ (1:Nat)=0 by omega),live,yc,go_sem,↓reduceIte,reduceCtorEq]
  ·simp only[if_neg (show ¬ (2:Nat)=0 by omega),if_neg (show ¬ (2:Nat)=1 by omega),live,yc,go_sem,Nat.reduceEqDiff,↓reduceIte,reduceCtorEq]
 ·rintro k ⟨hk2,hk3,hk4⟩;rcases(show k=0\/k=1\/k=2 by omega)with rfl | rfl | rfl
  ·simp only[ybhv,ybgg,ybhs,ybgb,ybhp,ybhw,varC,splice,go_sem,Nat.reduceEqDiff,Nat.reduceAdd,Nat.reduceLeDiff,Nat.reduceLT,↓reduceIte,reduceCtorEq];refine⟨fun _=>⟨by omega,fun he=>h1.use ?_,fun he=>⟨ikw (by omega) (by omega),?_⟩⟩,fun h=>by omega⟩
   ·simp only[thenO,go_sem,Nat.reduceEqDiff,Nat.reduceAdd,↓reduceIte,reduceCtorEq];have e:ybd g v x=(x.lo,x.hi+x.perNode * (g.ids.length:Int)+x.perID * maxI g.ids):=by unfold ybd;rw[if_pos he.symm]
    rw[e];exact Sim.refl _
   ·refine yh 1 ⟨by omega,fun _ q=>he q.symm,by omega⟩ (by omega) ?_
    refine yg [] [] [] ?_;simp only[allQ,live,yc,yw,Int.natCast_zero,go_sem,Nat.reduceEqDiff,↓reduceIte,reduceCtorEq];refine⟨by omega,fun i hi=>?_⟩
    rcases(show i=0\/i=1\/i=2 by omega)with rfl | rfl | rfl
    ·simp only[live,yc,go_sem,↓reduceIte,reduceCtorEq]
    ·simp only[if_neg (show ¬ (1:Nat)=0 by omega),live,yc,go_sem,↓reduceIte,reduceCtorEq]
    ·simp only[if_neg (show ¬ (2:Nat)=0 by omega),if_neg (show ¬ (2:Nat)=1 by omega),live,yc,go_sem,Nat.reduceEqDiff,↓reduceIte,reduceCtorEq]
  ·simp only[ybhv,ybgg,ybhs,ybgb,ybhp,ybhw,varC,splice,go_sem,Nat.reduceEqDiff,Nat.reduceAdd,Nat.reduceLeDiff,Nat.reduceLT,↓reduceIte,reduceCtorEq];refine⟨fun _=>⟨by omega,fun he=>h2.use ?_,fun he=>⟨ikw (by omega) (by omega),?_⟩⟩,fun h=>by omega⟩
   ·simp only[thenO,go_sem,Nat.reduceEqDiff,Nat.reduceAdd,↓reduceIte,reduceCtorEq];have e:ybd g v x=(0,1):=by unfold ybd;rw[if_neg (by omega),if_pos he.symm]
    rw[e];exact Sim.refl _
   ·refine yh 2 ⟨by omega,fun _=>by omega,fun _ q=>he q.symm⟩ (by omega) ?_
    refine yg [] [] [] ?_;simp only[allQ,live,yc,yw,go_sem,Nat.reduceEqDiff,↓reduceIte,reduceCtorEq];refine⟨by omega,fun i hi=>?_⟩
    rcases(show i=0\/i=1\/i=2 by omega)with rfl | rfl | rfl
    ·simp only[live,yc,go_sem,↓reduceIte,reduceCtorEq]
    ·simp only[if_neg (show ¬ (1:Nat)=0 by omega),live,yc,go_sem,↓reduceIte,reduceCtorEq]
    ·simp only[if_neg (show ¬ (2:Nat)=0 by omega),if_neg (show ¬ (2:Nat)=1 by omega),live,yc,go_sem,Nat.reduceEqDiff,↓reduceIte,reduceCtorEq]
  ·simp only[ybhv,ybgg,ybhs,ybgb,ybhp,ybhw,varC,splice,go_sem,Nat.reduceEqDiff,Nat.reduceAdd,Nat.reduceLeDiff,Nat.reduceLT,↓reduceIte,reduceCtorEq];refine⟨fun _=>⟨by omega,fun he=>h3.use ?_,fun he=>by omega⟩,fun h=>by omega⟩
   simp only[thenO,go_sem,Nat.reduceEqDiff,Nat.reduceAdd,↓reduceIte,reduceCtorEq];have e:ybd g v x=(-1,((g.ports.getD v []).length:Int) - 1):=by unfold ybd;rw[if_neg (by omega),if_neg (by omega),if_pos he.symm]
   rw[e];exact Sim.refl _
def yhz(n:Nat)(vars:List VarR)(b:Nat->VarR->Int × Int):SV:=.sl 1 n (fun v=>[.sl 2 vars.length (fun i=>[.i .i64 (b v (vars.getD i default)).1,.i .i64 (b v (vars.getD i default)).2])])
def rowT(vars:List VarR)(b:VarR->Int × Int):SV:=.sl 2 vars.length (fun i=>[.i .i64 (b (vars.getD i default)).1,.i .i64 (b (vars.getD i default)).2])
theorem yys(p:ProgR){g:Gr}(hg:ybb g)(hp:p.vars.all VarR.ok=true)(hl:p.vars.length<=6):Returns Tryz.prog 144 [.ag (ykh p),grV g] (yhz g.ids.length p.vars (ybd g)):=by
 refine Returns.of (ycwl _ _ ?_);have h24:=hg.2.1;have hid:=hg.2.2.1;obtain⟨n,hn⟩:∃ n,g.ids.length=n:=⟨_,rfl⟩;obtain⟨nv,hnv⟩:∃ k,p.vars.length=k:=⟨_,rfl⟩;rw[hn];rw[hnv]at hl;simp only[c144,ycfp,ycdk,ycjj,grV,yj,ykh,hn,go_sem,Nat.reduceEqDiff,Nat.reduceAdd,Nat.reduceLeDiff,Nat.reduceLT,↓reduceIte,reduceCtorEq];refine⟨by omega,?_⟩
 refine ybe (σ:=Nat) (fun k=>⟨[(15,.i .i64 k),(14,.i .i64 n),(5,.os (12,0) 0 n true),(2,.pt (2,0) 0 0),(3,.pt (3,0) 0 0)],
   [(2,.one (some ⟨58,true,3,1,fun _=>ykh p⟩)),(3,.one (some ⟨27,true,2,1,fun _=>[yj g.ids,yu g.ports]⟩)),
    (12,.one (some ⟨73,false,1,n,fun i=>[if i<k then rowT p.vars (ybd g i)else .a (.slice none 0 0)]⟩))]⟩) (fun k=>k<=n) (fun k=>n - k) 0 (Nat.zero_le _) ?_ ?_
 ·refine yg [] [] [] ?_;simp only[ykh,yj,hn,allQ,live,yc,Int.natCast_zero,go_sem,Nat.reduceEqDiff,↓reduceIte,reduceCtorEq];intro i _;rw[if_neg (by omega)]
  simp only[yc,go_sem]
 ·intro k hk;simp only[yckr,ycpb,ycdm,yclb,ykh,ycp,splice,hnv,go_sem,Nat.reduceEqDiff,Nat.reduceAdd,Nat.reduceLeDiff,Nat.reduceLT,↓reduceIte,reduceCtorEq];refine⟨fun hlt=>⟨by omega,by omega,by omega,?_⟩,fun hlt=>?_⟩
  ·have hk':k<n:=by omega
   let b:Nat->Int × Int:=fun i=>ybd g k (p.vars.getD i default)
   refine ybe (σ:=Nat) (fun j=>⟨[(28,.i .i64 j),(26,ycp p.vars),(27,.i .i64 nv),(6,.i .i64 k),(15,.i .i64 k),(14,.i .i64 n),(5,.os (12,0) 0 n true),(2,.pt (2,0) 0 0),(3,.pt (3,0) 0 0)],
    [(2,.one (some ⟨58,true,3,1,fun _=>ykh p⟩)),(3,.one (some ⟨27,true,2,1,fun _=>[yj g.ids,yu g.ports]⟩)),
     (12,.one (some ⟨73,false,1,n,fun i=>[if i<k then rowT p.vars (ybd g i)else if i=k then .os (23,0) 0 nv true else .a (.slice none 0 0)]⟩)),
     (23,.one (some ⟨75,false,2,nv,fun i=>[.i .i64 (if i<j then(b i).1 else 0),.i .i64 (if i<j then(b i).2 else 0)]⟩))]⟩) (fun j=>j<=nv) (fun j=>nv - j) 0 (Nat.zero_le _) ?_ ?_
   ·refine yg [] [] [] ?_;simp only[ykh,ycp,hnv,allQ,live,yc,yw,Int.natCast_zero,go_sem,Nat.reduceEqDiff,↓reduceIte,reduceCtorEq];refine⟨fun i hi=>?_,fun i hi=>?_⟩
    ·by_cases q2:i=k
     ·simp only[if_pos q2,if_neg (show ¬ i<k by omega)]
      simp only[live,yc,go_sem,Nat.reduceEqDiff,↓reduceIte,reduceCtorEq]
     ·simp only[if_neg q2]
      by_cases q1:i<k
      ·simp only[if_pos q1];simp only[rowT,live,yc,go_sem,reduceCtorEq]
      ·simp only[if_neg q1];simp only[live,yc,go_sem,reduceCtorEq]
    ·simp only[if_neg (Nat.not_lt_zero i),and_self]
   ·intro j hj;simp only[ycfj,ycgz,ycjr,yboy,ybvc,ykh,ycp,varC,splice,hnv,go_sem,Nat.reduceEqDiff,Nat.reduceAdd,Nat.reduceLT,↓reduceIte,reduceCtorEq];refine⟨fun hlt=>?_,fun hlt=>?_⟩
    ·have hj':j<nv:=by omega
     have hB:=ytx hg (x:=p.vars.getD j default) (by
      rw[getD_at (by omega)]
      exact List.all_eq_true.1 hp _ (List.getElem_mem _)) (v:=k) (by omega)
     simp only[varC,grV]at hB;refine⟨by omega,by omega,by omega,by omega,by omega,hB.use ?_⟩
     simp only[thenO,splice,go_sem,Int.reduceToNat,Nat.reduceEqDiff,Nat.reduceAdd,Nat.reduceLeDiff,Nat.reduceMul,↓reduceIte,reduceCtorEq];refine⟨by omega,by omega,by omega,by decide,by omega,by omega,by omega,by decide,ikw (by omega) (by omega),?_⟩
     refine yh (j+1) (by omega) (by omega) ?_
     refine yg [] [] [] ?_;simp only[allQ,live,yc,yw,go_sem,Nat.reduceEqDiff,↓reduceIte,reduceCtorEq];refine⟨by omega,fun i hi=>?_,fun i hi=>?_⟩
     ·by_cases q1:i<k
      ·simp only[if_pos q1];simp only[rowT,yc,go_sem]
      ·simp only[if_neg q1]
       by_cases q2:i=k
       ·simp only[if_pos q2];simp only[live,yc,go_sem,Nat.reduceEqDiff,↓reduceIte]
       ·simp only[if_neg q2];simp only[yc,go_sem]
     ·by_cases q2:i=j
      ·subst q2;simp only[if_pos (Nat.lt_succ_self i),↓reduceIte];simp only[live,yw,go_sem,reduceCtorEq];exact⟨rfl,rfl⟩
      ·simp only[if_neg q2]
       by_cases q1:i<j
       ·simp only[if_pos q1,if_pos (show i<j+1 by omega)]
        simp only[live,yc,go_sem,reduceCtorEq]
       ·simp only[if_neg q1,if_neg (show ¬ i<j+1 by omega)]
        simp only[live,yc,go_sem,reduceCtorEq]
    ·obtain rfl:j=nv:=by omega
     refine⟨ikw (by omega) (by omega),?_⟩
     refine yh (k+1) (by omega) (by omega) ?_
     refine yg [] [] [(23,0)] ?_;simp only[allQ,live,yc,yw,go_sem,Nat.reduceEqDiff,Nat.reduceLeDiff,↓reduceIte,reduceCtorEq];refine⟨by omega,fun i hi=>?_⟩
     by_cases q1:i<k
     ·simp only[if_pos q1,if_pos (show i<k+1 by omega)]
      simp only[rowT,yc,go_sem]
     ·by_cases q2:i=k
      ·simp only[if_neg q1,if_pos q2,if_pos (show i<k+1 by omega)]
       subst q2;simp only[rowT,hnv,go_sem,Nat.reduceEqDiff,↓reduceIte];refine yhe fun q hq=>?_;simp only[if_pos hq];simp only[SimL,go_sem];exact⟨Sim.refl _,Sim.refl _⟩
      ·simp only[if_neg q1,if_neg q2,if_neg (show ¬ i<k+1 by omega)]
       simp only[yc,go_sem]
  ·obtain rfl:k=n:=by omega
   simp only[ybny,go_sem,Nat.reduceEqDiff,Nat.reduceAdd,↓reduceIte,reduceCtorEq];refine⟨fun q hq=>by simp only[if_pos hq];simp only[rowT,go_sem],?_⟩
   refine yhe fun q hq=>?_;simp only[if_pos hq];simp only[SimL,yc,rowT,hnv,go_sem]
end Sh
end Go.Proofs.YtiejahgklcjhkaaGreatDoor

namespace Go.Proofs.YtiejahgklcjhkaaGreatDoor
namespace Sh
open Go Ev
set_option maxRecDepth 8000

theorem ybqq(bs:Bounds)(s:List Int)(hl:bs.length<=1000):Returns Tryz.prog 192 [yba bs,yj s] (.b (yqm bs s)):=by
 refine Returns.of (ycuk _ _ ?_);simp only[c192,yciq,ycnd,ycqh,ycmo,yba,yj,sim_b,go_sem,Nat.reduceEqDiff,Nat.reduceAdd,↓reduceIte,reduceCtorEq];refine⟨fun h=>?_,fun h=>?_⟩
 ·have:¬ yqm bs s=true:=fun q=>h (by rw[((yed bs s).1 q).1])
  simpa using this
 have hlen:s.length=bs.length:=by omega
 refine ybe (σ:=Nat) (fun k=>⟨[(14,.i .i64 k),(13,.i .i64 s.length),(12,yj s),(0,yba bs)],[]⟩) (fun k=>k<=s.length /\ ∀ i,i<k->(bs.getD i (0,0)).1<=s.getD i 0/\s.getD i 0<=(bs.getD i (0,0)).2) (fun k=>s.length - k) 0 ⟨Nat.zero_le _,fun i h=>absurd h (Nat.not_lt_zero _)⟩ ?_ ?_
 ·refine yg [] [] [] ?_;simp only[yba,yj,allQ,live,yc,Int.natCast_zero,go_sem,Nat.reduceEqDiff,↓reduceIte,reduceCtorEq]
 ·intro k ⟨hk,hall⟩;simp only[ycco,ycjt,ychv,ycgn,yclv,ycjb,yba,yj,sim_b,go_sem,Int.reduceToNat,Nat.reduceEqDiff,Nat.reduceAdd,Nat.reduceLeDiff,Nat.reduceMul,↓reduceIte,reduceCtorEq]
  have hno:k<s.length -> ¬ ((bs.getD k (0,0)).1<=s.getD k 0/\s.getD k 0<=(bs.getD k (0,0)).2)->yqm bs s=false:=fun hlt hn=>by
   have:¬ yqm bs s=true:=fun q=>hn (by
    have hb:k<bs.length:=by omega
    have:=((yed bs s).1 q).2 k bs[k] s[k] (List.getElem?_eq_getElem hb) (List.getElem?_eq_getElem hlt);rw[getD_at hlt,getD_at hb];exact this)
   simpa using this
  refine⟨fun hlt=>⟨by omega,by omega,by omega,fun h1=>⟨by omega,by omega,fun h2=>?_,fun h2=>⟨ikw (by omega) (by omega),?_⟩⟩,fun h1=>?_⟩,fun hlt=>?_⟩
  ·rw[hno (by omega) (by omega)]
  ·refine yh (k+1) ⟨by omega,fun i hi=>?_⟩ (by omega) ?_
   ·by_cases q:i<k
    ·exact hall i q
    ·obtain rfl:i=k:=by omega
     omega
   ·refine yg [] [] [] ?_;simp only[allQ,live,yc,yw,go_sem,Nat.reduceEqDiff,↓reduceIte,reduceCtorEq];simp
  ·rw[hno (by omega) (by omega)]
  ·obtain rfl:k=s.length:=by omega
   rw[(yed bs s).2 ⟨hlen,fun i b x hb hx=>by
    have h1:=(List.getElem?_eq_some_iff.1 hx).1;have:=hall i h1;simp only[List.getD,hb,hx,Option.getD_some]at this;exact this⟩]
theorem ybid{n:Nat}(vars:List VarR)(hv:vars.length<=1000)(b:Nat->VarR->Int × Int)(c:Conf)(hn:n<=1000):Returns Tryz.prog 156 [yhz n vars b,ybf c] (.b (yom n (fun v=>vars.map (b v)) c)):=by
 refine Returns.of (ycuq _ _ ?_);simp only[c156,ycgg,ycdf,ycmk,ycoi,yhz,ybf,sim_b,go_sem,Nat.reduceEqDiff,Nat.reduceAdd,↓reduceIte,reduceCtorEq];refine⟨fun h=>?_,fun h=>?_⟩
 ·rw[yhj fun q=>h (by rw[q.1])]
 have hlen:c.length=n:=by omega
 refine ybe (σ:=Nat) (fun k=>⟨[(14,.i .i64 k),(13,.i .i64 n),(12,yhz n vars b),(1,ybf c)],[]⟩) (fun k=>k<=n /\ ∀ (i:Nat) s,i<k->c[i]? = some s->ydr (vars.map (b i)) s) (fun k=>n - k) 0 ⟨Nat.zero_le _,fun i s h=>absurd h (Nat.not_lt_zero _)⟩ ?_ ?_
 ·refine yg [] [] [] ?_;simp only[yhz,ybf,allQ,live,yc,Int.natCast_zero,go_sem,Nat.reduceEqDiff,↓reduceIte,reduceCtorEq]
 ·intro k ⟨hk,hall⟩;simp only[yccc,ycmy,ycif,yche,ycmp,ycev,yhz,ybf,yj,sim_b,go_sem,Nat.reduceEqDiff,Nat.reduceAdd,↓reduceIte,reduceCtorEq];refine⟨fun hlt=>⟨by omega,by omega,?_⟩,fun hlt=>?_⟩
  ·have hS:=ybqq (vars.map (b k)) (c.getD k []) (by simpa using hv)
   refine hS.useS ⟨?_,Sim.refl _,trivial⟩ ?_
   ·show Sim (.sl 2 vars.length _) (yba (vars.map (b k)));unfold yba;rw[List.length_map];refine sim_sl fun i hi=>?_;simp[List.getD,hi]
   ·simp only[thenO,sim_b,go_sem,Nat.reduceEqDiff,Nat.reduceAdd,↓reduceIte,reduceCtorEq];have hk':k<c.length:=by omega
    rw[getD_at hk'];refine⟨fun h1=>?_,fun h1=>⟨ikw (by omega) (by omega),?_⟩⟩
    ·rw[yhj fun q=>by
      have:=(yed _ _).2 (q.2 k c[k] (List.getElem?_eq_getElem hk'));rw[this]at h1;cases h1]
    ·refine yh (k+1) ⟨by omega,fun i s hi hs=>?_⟩ (by omega) ?_
     ·by_cases q:i<k
      ·exact hall i s q hs
      ·obtain rfl:i=k:=by omega
       rw[List.getElem?_eq_getElem hk']at hs;cases hs
       exact(yed _ _).1 h1
     ·refine yg [] [] [] ?_;simp only[allQ,live,yc,yw,go_sem,Nat.reduceEqDiff,↓reduceIte,reduceCtorEq];simp
  ·obtain rfl:k=n:=by omega
   rw[yue ⟨hlen,fun v s hs=>hall v s (by have:=(List.getElem?_eq_some_iff.1 hs).1;omega) hs⟩]
theorem yxd(c:Conf)(hc:∀ s ∈ c,0<s.length/\s.length<=1000)(hl:c.length<=1000):Returns Tryz.prog 132 [ybf c] (ybf c):=by
 refine Returns.of (ycvn _ _ ?_);obtain⟨n,hn⟩:∃ n,c.length=n:=⟨_,rfl⟩;rw[hn]at hl;simp only[c132,ybuh,yboj,ybuc,ybf,hn,go_sem,Nat.reduceEqDiff,Nat.reduceAdd,Nat.reduceLT,↓reduceIte,reduceCtorEq];refine⟨by omega,?_⟩
 refine ybe (σ:=Nat) (fun k=>⟨[(11,.i .i64 k),(10,.i .i64 n),(9,ybf c),(3,.os (8,0) 0 n true)],[(8,.one (some ⟨22,false,1,n,fun i=>[if i<k then yj (c.getD i [])else .a (.slice none 0 0)]⟩))]⟩) (fun k=>k<=n) (fun k=>n - k) 0 (Nat.zero_le _) ?_ ?_
 ·refine yg [] [] [] ?_;simp only[ybf,hn,allQ,live,yc,Int.natCast_zero,go_sem,Nat.reduceEqDiff,↓reduceIte,reduceCtorEq];intro i _;rw[if_neg (by omega)]
  simp only[yc,go_sem]
 ·intro k hk
  have hrow:k<n->0<(c.getD k []).length/\(c.getD k []).length<=1000:=fun h=>by
   have:=hc (c.getD k []) (by rw[getD_at (show k<c.length by omega)];exact List.getElem_mem _)
   exact this
  by_cases hlt:k<n
  ·have hr:=hrow (by omega)
   have hr0:¬ (c.getD k []).length=0:=by omega
   have ht:decide ((k:Int)<(n:Int))=true:=decide_eq_true (by omega)
   simp only[yxw,ybam,yzg,ybaz,ybbg,ybf,yj,splice,hn,hr0,ht,go_sem,Nat.reduceEqDiff,Nat.reduceAdd,Nat.reduceLT,↓reduceIte,reduceCtorEq];refine⟨by omega,by omega,by omega,by omega,ikw (by omega) (by omega),?_⟩
   refine yh (k+1) (by omega) (by omega) ?_
   refine yg [] [] [(19,0)] ?_;simp only[allQ,live,yc,yw,go_sem,Nat.reduceEqDiff,↓reduceIte,reduceCtorEq];refine⟨by omega,fun i hi=>?_⟩
   by_cases q2:i=k
   ·subst q2;simp only[if_pos (Nat.lt_succ_self i),↓reduceIte];simp only[live,yc,go_sem,Nat.reduceEqDiff,↓reduceIte,reduceCtorEq]
   ·simp only[if_neg q2]
    by_cases q1:i<k
    ·simp only[if_pos q1,if_pos (show i<k+1 by omega)]
     simp only[live,yc,go_sem,reduceCtorEq]
    ·simp only[if_neg q1,if_neg (show ¬ i<k+1 by omega)]
     simp only[live,yc,go_sem,reduceCtorEq]
  ·obtain rfl:k=n:=by omega
   have ht:decide ((k:Int)<(k:Int))=false:=decide_eq_false (by omega)
   simp only[yxw,ybam,yzg,ybaz,ybbg,ybf,yj,hn,ht,go_sem,Nat.reduceEqDiff,Nat.reduceAdd,↓reduceIte,reduceCtorEq];refine⟨fun q hq=>by simp only[if_pos hq];simp only[go_sem],?_⟩
   refine yhe fun q hq=>?_;simp only[if_pos hq];simp only[SimL,yc,go_sem]
theorem ycan(c:Conf)(hc:∀ s ∈ c,0<s.length/\s.length<=1000)(hl:c.length<=1000):Cm Tryz.prog 132 [] [] [ybf c] fun r o=>r = .os (8,0) 0 c.length true/\o = [(8,.one (some ⟨22,false,1,c.length,fun i=>[yj (c.getD i [])]⟩))]:=by
 refine ycam [] [] _ _ _ ?_;obtain⟨n,hn⟩:∃ n,c.length=n:=⟨_,rfl⟩;rw[hn]at hl ⊢;simp only[c132,ybuh,yboj,ybuc,ybf,hn,go_sem,Nat.reduceEqDiff,Nat.reduceAdd,Nat.reduceLT,↓reduceIte,reduceCtorEq];refine⟨by omega,?_⟩
 refine ybe (σ:=Nat) (fun k=>⟨[(11,.i .i64 k),(10,.i .i64 n),(9,ybf c),(3,.os (8,0) 0 n true)],[(8,.one (some ⟨22,false,1,n,fun i=>[if i<k then yj (c.getD i [])else .a (.slice none 0 0)]⟩))]⟩) (fun k=>k<=n) (fun k=>n - k) 0 (Nat.zero_le _) ?_ ?_
 ·refine yg [] [] [] ?_;simp only[ybf,hn,allQ,live,yc,Int.natCast_zero,go_sem,Nat.reduceEqDiff,↓reduceIte,reduceCtorEq];intro i _;rw[if_neg (by omega)]
  simp only[yc,go_sem]
 ·intro k hk
  have hrow:k<n->0<(c.getD k []).length/\(c.getD k []).length<=1000:=fun h=>by
   have:=hc (c.getD k []) (by rw[getD_at (show k<c.length by omega)];exact List.getElem_mem _)
   exact this
  by_cases hlt:k<n
  ·have hr:=hrow (by omega)
   have hr0:¬ (c.getD k []).length=0:=by omega
   have ht:decide ((k:Int)<(n:Int))=true:=decide_eq_true (by omega)
   simp only[yxw,ybam,yzg,ybaz,ybbg,ybf,yj,splice,hn,hr0,ht,go_sem,Nat.reduceEqDiff,Nat.reduceAdd,Nat.reduceLT,↓reduceIte,reduceCtorEq];refine⟨by omega,by omega,by omega,by omega,ikw (by omega) (by omega),?_⟩
   refine yh (k+1) (by omega) (by omega) ?_
   refine yg [] [] [(19,0)] ?_;simp only[allQ,live,yc,yw,go_sem,Nat.reduceEqDiff,↓reduceIte,reduceCtorEq];refine⟨by omega,fun i hi=>?_⟩
   by_cases q2:i=k
   ·subst q2;simp only[if_pos (Nat.lt_succ_self i),↓reduceIte];simp only[live,yc,go_sem,Nat.reduceEqDiff,↓reduceIte,reduceCtorEq]
   ·simp only[if_neg q2]
    by_cases q1:i<k
    ·simp only[if_pos q1,if_pos (show i<k+1 by omega)]
     simp only[live,yc,go_sem,reduceCtorEq]
    ·simp only[if_neg q1,if_neg (show ¬ i<k+1 by omega)]
     simp only[live,yc,go_sem,reduceCtorEq]
  ·obtain rfl:k=n:=by omega
   have ht:decide ((k:Int)<(k:Int))=false:=decide_eq_false (by omega)
   simp only[yxw,ybam,yzg,ybaz,ybbg,ybf,yj,hn,ht,ygm,go_sem,Nat.reduceEqDiff,Nat.reduceAdd,↓reduceIte,reduceCtorEq];refine⟨.os (8,0) 0 k true,[(8,.one (some ⟨22,false,1,k,fun i=>[yj (c.getD i [])]⟩))],?_,?_,rfl,rfl⟩
   ·refine yg [] [] [] ?_;simp only[yj,allQ,live,yc,go_sem,↓reduceIte,reduceCtorEq];intro i hi;simp only[if_pos hi];simp only[yc,go_sem]
   ·simp only[famCln,ygr,allQ,live,go_sem,↓reduceIte]
end Sh
end Go.Proofs.YtiejahgklcjhkaaGreatDoor

namespace Go.Proofs.YtiejahgklcjhkaaGreatDoor
namespace Sh
open Go Ev
set_option maxRecDepth 8000

theorem yfz(p:ProgR){g:Gr}(hg:ybb g){nv:Nat}{c:Conf}(hc:ConfIn g.ports.length nv c){v:Nat}(hv:v<g.ports.length)(e:List Tm)(hl:e.length<=1000):∀ x:Ex,ybpw p g nv c v e x
 | .leaf op arg=>by
  intro bnd port at_ rest ho hp hpi he;obtain⟨d1,d2,d3⟩:=ydz (show e.drop at_=(op,arg) :: rest from he)
  have hL:=ybxq p hg hc hv e ho port hp;have hr:=ho;simp only[Ex.ok,Bool.and_eq_true,decide_eq_true_eq]at hr;simp only[yho,yba]at hL;refine Returns.of (yqy _ _ ?_);simp only[c220,yvc,yuq,yva,yug,ytk,yvd,yub,ytz,yth,yvb,yml,ylu,ylo,ymd,ynb,ynd,ymo,ylv,ymh,yho,yba,d2,splice,go_sem,Nat.reduceEqDiff,Nat.reduceAdd,Nat.reduceLeDiff,Nat.reduceLT,↓reduceIte,reduceCtorEq]
  refine⟨by omega,fun h=>hL.use ?_,fun h=>by omega⟩
  simp only[thenO,go_sem,Nat.reduceEqDiff,Nat.reduceAdd,↓reduceIte,reduceCtorEq];refine⟨ikw (by omega) (by omega),?_⟩
  exact Sim.refl _
 | .un op a=>by
  intro bnd port at_ rest ho hp hpi he;obtain⟨d1,d2,d3⟩:=ydz (show e.drop at_=(op,0) :: (a.ser ++ rest)from he)
  have hr:=ho;simp only[Ex.ok,Bool.and_eq_true,decide_eq_true_eq]at hr;have hV:=yfz p hg hc hv e hl a bnd port (at_+1) rest hr.2 hp hpi d3;rw[show((at_+1:Nat):Int)=(at_:Int)+1 by omega]at hV
  have hU:=ybmq op (yeb g c v a port) (ygh hg rfl hc hv a hr.2 hp hpi);simp only[yho,yba]at hV;refine Returns.of (yqy _ _ ?_);simp only[c220,yvc,yuq,yva,yug,ytk,yvd,yub,ytz,yth,yvb,yml,ylu,ylo,ymd,ynb,ynd,ymo,ylv,ymh,yho,yba,d2,splice,go_sem,Nat.reduceEqDiff,Nat.reduceAdd,Nat.reduceLeDiff,Nat.reduceLT,↓reduceIte,reduceCtorEq]
  refine⟨by omega,fun h=>by omega,fun h=>⟨fun h=>⟨ikw (by omega) (by omega),hV.use ?_⟩,fun h=>by omega⟩⟩
  simp only[thenO,go_sem,Nat.reduceEqDiff,Nat.reduceAdd,Nat.reduceLeDiff,↓reduceIte,reduceCtorEq];refine hU.use ?_;simp only[go_sem];rw[show at_+(Ex.un op a).ser.length=at_+1+a.ser.length by simp[Ex.ser];omega]
  exact Sim.refl _
 | .agg op a=>by
  intro bnd port at_ rest ho hp hpi he;obtain⟨d1,d2,d3⟩:=ydz (show e.drop at_=(op,0) :: (a.ser ++ rest)from he)
  have hr:=ho;simp only[Ex.ok,Bool.and_eq_true,decide_eq_true_eq]at hr;have ho2:(Ex.agg op a).ok nv true=true:=by simp only[Ex.ok,Bool.and_eq_true,decide_eq_true_eq];exact hr
  have hA:=ywp p hg hc hv e hl ho2 (yfz p hg hc hv e hl a) at_ rest he;simp only[yho,yba]at hA;refine Returns.of (yqy _ _ ?_);simp only[c220,yvc,yuq,yva,yug,ytk,yvd,yub,ytz,yth,yvb,yml,ylu,ylo,ymd,ynb,ynd,ymo,ylv,ymh,yho,yba,d2,splice,go_sem,Nat.reduceEqDiff,Nat.reduceAdd,Nat.reduceLeDiff,Nat.reduceLT,↓reduceIte,reduceCtorEq]
  refine⟨by omega,fun h=>by omega,fun h=>⟨fun h=>by omega,fun h=>⟨fun h=>hA.use ?_,fun h=>by omega⟩⟩⟩
  simp only[thenO,go_sem,Nat.reduceEqDiff,Nat.reduceAdd,↓reduceIte,reduceCtorEq];exact Sim.refl _
 | .bin op a b=>by
  intro bnd port at_ rest ho hp hpi he;obtain⟨d1,d2,d3⟩:=ydz (show e.drop at_=(op,0) :: ((a.ser ++ b.ser) ++ rest)from he)
  have hr:=ho;simp only[Ex.ok,Bool.and_eq_true,decide_eq_true_eq]at hr;rw[List.append_assoc]at d3
  have hfit:at_+1+a.ser.length<=e.length:=by
   have:=congrArg List.length d3;simp at this;omega
  have hV1:=yfz p hg hc hv e hl a bnd port (at_+1) _ hr.1.2 hp hpi d3;have hV2:=yfz p hg hc hv e hl b bnd port (at_+1+a.ser.length) _ hr.2 hp hpi (ypm d3);rw[show((at_+1:Nat):Int)=(at_:Int)+1 by omega]at hV1
  have hB:=ybll op (yeb g c v a port) (yeb g c v b port) (ygh hg rfl hc hv a hr.1.2 hp hpi) (ygh hg rfl hc hv b hr.2 hp hpi);simp only[yho,yba]at hV1 hV2;refine Returns.of (yqy _ _ ?_);simp only[c220,yvc,yuq,yva,yug,ytk,yvd,yub,ytz,yth,yvb,yml,ylu,ylo,ymd,ynb,ynd,ymo,ylv,ymh,yho,yba,d2,splice,go_sem,Nat.reduceEqDiff,Nat.reduceAdd,Nat.reduceLeDiff,Nat.reduceLT,↓reduceIte,reduceCtorEq]
  refine⟨by omega,fun h=>by omega,fun h=>⟨fun h=>by omega,fun h=>⟨fun h=>by omega,fun h=>⟨fun h=>⟨ikw (by omega) (by omega),hV1.use ?_⟩,fun h=>by omega⟩⟩⟩⟩
  simp only[thenO,go_sem,Nat.reduceEqDiff,Nat.reduceAdd,↓reduceIte,reduceCtorEq];refine hV2.use ?_;simp only[go_sem,Nat.reduceEqDiff,Nat.reduceAdd,Nat.reduceLeDiff,↓reduceIte];refine hB.use ?_;simp only[go_sem];rw[show at_+(Ex.bin op a b).ser.length=at_+1+a.ser.length+b.ser.length by simp[Ex.ser];omega]
  exact Sim.refl _
 | .ite x a b=>by
  intro bnd port at_ rest ho hp hpi he;obtain⟨d1,d2,d3⟩:=ydz (show e.drop at_=(43,0) :: ((x.ser ++ (a.ser ++ b.ser)) ++ rest)from he)
  have hr:=ho;simp only[Ex.ok,Bool.and_eq_true]at hr;rw[List.append_assoc,List.append_assoc]at d3
  have hfit:at_+1+x.ser.length+a.ser.length<=e.length:=by
   have:=congrArg List.length d3;simp at this;omega
  have hV1:=yfz p hg hc hv e hl x bnd port (at_+1) _ hr.1.1 hp hpi d3;have hV2:=yfz p hg hc hv e hl a bnd port (at_+1+x.ser.length) _ hr.1.2 hp hpi (ypm d3);have hV3:=yfz p hg hc hv e hl b bnd port (at_+1+x.ser.length+a.ser.length) _ hr.2 hp hpi (ypm (ypm d3));rw[show((at_+1:Nat):Int)=(at_:Int)+1 by omega]at hV1
  simp only[yho,yba]at hV1 hV2 hV3;refine Returns.of (yqy _ _ ?_);simp only[c220,yvc,yuq,yva,yug,ytk,yvd,yub,ytz,yth,yvb,yml,ylu,ylo,ymd,ynb,ynd,ymo,ylv,ymh,yho,yba,d2,splice,go_sem,Nat.reduceEqDiff,Nat.reduceAdd,Nat.reduceLeDiff,Nat.reduceLT,↓reduceIte,reduceCtorEq];refine⟨by omega,fun h=>by omega,fun h=>⟨fun h=>by omega,fun h=>⟨fun h=>by omega,fun h=>⟨fun h=>by omega,fun h=>⟨ikw (by omega) (by omega),hV1.use ?_⟩⟩⟩⟩⟩
  simp only[thenO,go_sem,Nat.reduceEqDiff,Nat.reduceAdd,↓reduceIte,reduceCtorEq];refine hV2.use ?_;simp only[go_sem,Nat.reduceEqDiff,↓reduceIte,reduceCtorEq];refine hV3.use ?_;simp only[go_sem,Nat.reduceEqDiff,Nat.reduceAdd,↓reduceIte,reduceCtorEq];rw[show at_+(Ex.ite x a b).ser.length=at_+1+x.ser.length+a.ser.length+b.ser.length by simp[Ex.ser];omega]
  refine⟨fun h0=>?_,fun h0=>?_⟩
  ·show Sim _ (.tp [.i .i64 (if _ then _ else _),_])
   rw[if_pos h0];exact Sim.refl _
  ·show Sim _ (.tp [.i .i64 (if _ then _ else _),_])
   rw[if_neg (not_not_intro h0)];exact Sim.refl _
theorem ybay(p:ProgR){g:Gr}(hg:ybb g){nv:Nat}{c:Conf}(hc:ConfIn g.ports.length nv c){v:Nat}(hv:v<g.ports.length)(x:Ex)(hx:x.ok nv false=true)(hl:x.ser.length<=1000) :
  Returns Tryz.prog 193 [.rf (yeo p g),ybf c,.i .i64 v,yba x.ser] (.i .i64 (yeb g c v x (-1))):=by
 have hV:=yfz p hg hc hv x.ser hl x false (-1) 0 [] hx (fun q=>by cases q) (by unfold InB;omega) (by simp)
 refine Returns.of (ycvu _ _ ?_);simp only[yho,yeo,ybf,yj,yba,yu,yct,Int.natCast_zero]at hV;simp only[c193,ycpo,ycmu,ycqg,ycca,yeo,ybf,yj,yba,yu,yct,splice,go_sem,Nat.reduceEqDiff,Nat.reduceAdd,Nat.reduceLeDiff,Nat.reduceLT,↓reduceIte,reduceCtorEq];refine .inl (hV.use ?_);simp only[thenO,yw,go_sem,Nat.reduceEqDiff,Nat.reduceAdd,↓reduceIte,reduceCtorEq]
end Sh
end Go.Proofs.YtiejahgklcjhkaaGreatDoor

namespace Go.Proofs.YtiejahgklcjhkaaGreatDoor
open Go

theorem yph{a:Nat}(h:a<2 ^ 32):IntKind.wrap .u32 (a:Int)=a:=by
 unfold IntKind.wrap;simp[IntKind.bits,IntKind.signed];omega
theorem u32_and{a b:Nat}(ha:a<2 ^ 32)(hb:b<2 ^ 32):IntKind.wrap .u32 (((BitVec.ofInt (IntKind.bits .u32) (a:Int)) &&& BitVec.ofInt (IntKind.bits .u32) (b:Int)).toNat:Int)=((a &&& b:Nat):Int):=by
 show IntKind.wrap .u32 (((BitVec.ofInt 32 (a:Int)) &&& BitVec.ofInt 32 (b:Int)).toNat:Int)=_;rw[BitVec.ofInt_natCast,BitVec.ofInt_natCast,BitVec.toNat_and,BitVec.toNat_ofNat,BitVec.toNat_ofNat,Nat.mod_eq_of_lt ha,Nat.mod_eq_of_lt hb];exact yph (Nat.lt_of_le_of_lt Nat.and_le_left ha)
theorem u32_or{a b:Nat}(ha:a<2 ^ 32)(hb:b<2 ^ 32):IntKind.wrap .u32 (((BitVec.ofInt (IntKind.bits .u32) (a:Int)) ||| BitVec.ofInt (IntKind.bits .u32) (b:Int)).toNat:Int)=((a ||| b:Nat):Int):=by
 show IntKind.wrap .u32 (((BitVec.ofInt 32 (a:Int)) ||| BitVec.ofInt 32 (b:Int)).toNat:Int)=_;rw[BitVec.ofInt_natCast,BitVec.ofInt_natCast,BitVec.toNat_or,BitVec.toNat_ofNat,BitVec.toNat_ofNat,Nat.mod_eq_of_lt ha,Nat.mod_eq_of_lt hb];exact yph (Nat.or_lt_two_pow ha hb)
theorem u32_andNot{a b:Nat}(ha:a<2 ^ 32)(hb:b<2 ^ 32):IntKind.wrap .u32 (((BitVec.ofInt (IntKind.bits .u32) (a:Int)) &&& ~~~BitVec.ofInt (IntKind.bits .u32) (b:Int)).toNat:Int)=((difB a b:Nat):Int):=by
 show IntKind.wrap .u32 (((BitVec.ofInt 32 (a:Int)) &&& ~~~BitVec.ofInt 32 (b:Int)).toNat:Int)=_
 have e:((BitVec.ofInt 32 (a:Int)) &&& ~~~BitVec.ofInt 32 (b:Int)).toNat=difB a b:=by
  rw[BitVec.ofInt_natCast,BitVec.ofInt_natCast];refine Nat.eq_of_testBit_eq fun i=>?_;rw[ygj,BitVec.testBit_toNat,BitVec.getLsbD_and,BitVec.getLsbD_not,BitVec.getLsbD_ofNat,BitVec.getLsbD_ofNat]
  by_cases hi:i<32
  ·simp[hi]
  ·rw[Nat.testBit_lt_two_pow (Nat.lt_of_lt_of_le ha (Nat.pow_le_pow_right (by omega) (by omega)))]
   simp
 rw[e];exact yph (ywz ha)
theorem u32_neg{a:Nat}(h0:0<a)(ha:a<2 ^ 32):IntKind.wrap .u32 (0 - (a:Int))=((2 ^ 32 - a:Nat):Int):=by
 unfold IntKind.wrap;simp[IntKind.bits,IntKind.signed];omega
theorem yke{v:Nat}(hv:v<32):IntKind.wrap .u32 (1 * 2 ^ (v:Int).toNat)=((2 ^ v:Nat):Int):=by
 have h:2 ^ v<2 ^ 32:=Nat.pow_lt_pow_right (by omega) hv
 have:=yph h;rw[Int.toNat_natCast,Int.one_mul];rw[<- this]
 norm_cast
theorem ybqx{a v:Nat}:(a:Int).fdiv (2 ^ (v:Int).toNat)=((a >>> v:Nat):Int):=by
 rw[Int.toNat_natCast,Nat.shiftRight_eq_div_pow];rw[Int.fdiv_eq_ediv_of_nonneg _ (Int.pow_nonneg (by omega))]
 simp
theorem ycwq(a v:Nat):((a >>> v) &&& 1=1) ↔ a.testBit v=true:=by
 rw[Nat.testBit,bne_iff_ne];rw[Nat.and_comm 1 (a >>> v)];rw[Nat.and_one_is_mod];omega
theorem ybic{s v:Nat}(hs:s<2 ^ 32):IntKind.wrap .u32 (((BitVec.ofInt (IntKind.bits .u32) ((s:Int).fdiv (2 ^ v))) &&& BitVec.ofInt (IntKind.bits .u32) 1).toNat:Int)=(((s >>> v) &&& 1:Nat):Int):=by
 have h:=ybqx (a:=s) (v:=v);rw[Int.toNat_natCast]at h;rw[h];have h2:s >>> v<2 ^ 32:=by rw[Nat.shiftRight_eq_div_pow];exact Nat.lt_of_le_of_lt (Nat.div_le_self _ _) hs
 exact u32_and (a:=s >>> v) (b:=1) h2 (by decide)
theorem yrl{s v:Nat}:((((s >>> v) &&& 1:Nat):Int)=1) ↔ s.testBit v=true:=by
 rw[<- ycwq s v];omega
def lowB(e:Nat):Nat:=e &&& (2 ^ 32 - e)
theorem ycab(e:Nat):subB (lowB e) e:=fun i h=>by
 unfold lowB at h;rw[Nat.testBit_and,Bool.and_eq_true]at h;exact h.1
theorem yxx:∀ (n e:Nat),0<e->e<2 ^ n -> ∃ i q,i<n/\e=2 ^ i * (2 * q+1)
 | 0,e,h,h2=>by simp at h2;omega
 | n+1,e,h,h2=>by
  by_cases hp:e % 2=1
  ·exact⟨0,e / 2,by omega,by omega⟩
  ·obtain⟨i,q,h3,h4⟩:=yxx n (e / 2) (by omega) (by rw[Nat.pow_succ]at h2;omega)
   exact⟨i+1,q,by omega,by rw[Nat.pow_succ,Nat.mul_assoc,Nat.mul_left_comm,<- h4];omega⟩
theorem ycqw{e:Nat}(h0:e ≠ 0)(he:e<2 ^ 32):lowB e ≠ 0:=by
 obtain⟨i,q,hi,hq⟩:=yxx 32 e (by omega) he
 have h1:e.testBit i=true:=by
  rw[hq,Nat.testBit_eq_decide_div_mod_eq,Nat.mul_div_cancel_left _ (Nat.two_pow_pos i)];simp
 have h2:(2 ^ 32 - e).testBit i=true:=by
  obtain⟨j,hj⟩:∃ j,32=i+(j+1):=⟨31 - i,by omega⟩
  have e1:2 ^ 32=2 ^ i * (2 * 2 ^ j):=by
   have:(2:Nat) ^ 32=2 ^ (i+(j+1)):=by rw[<- hj]
   rw[this,Nat.pow_add,Nat.pow_succ,Nat.mul_comm (2 ^ j) 2]
  have hlt:2 * q+1<2 * 2 ^ j:=by
   rw[e1,hq]at he;exact Nat.lt_of_mul_lt_mul_left he
  have e2:2 ^ 32 - e=2 ^ i * (2 * 2 ^ j - (2 * q+1)):=by rw[e1,hq,Nat.mul_sub]
  rw[e2,Nat.testBit_eq_decide_div_mod_eq,Nat.mul_div_cancel_left _ (Nat.two_pow_pos i)];simp;try omega
 intro hz;have:(lowB e).testBit i=true:=by unfold lowB;rw[Nat.testBit_and,h1,h2];rfl
 rw[hz]at this;simp at this
def resD(e w:Nat):Nat:=if w &&& e=0 then lowB e else w &&& e
def resS(e _w:Nat):Nat:=e
end Go.Proofs.YtiejahgklcjhkaaGreatDoor

namespace Go.Proofs.YtiejahgklcjhkaaGreatDoor
namespace Sh
open Go Ev
set_option maxRecDepth 8000

def ydh(p:ProgR)(g:Gr):List SV:=[.a (.string p.name),ycp p.vars,ycf p.rules,.rf (yeo p g),yhz g.ids.length p.vars (ybd g)]
theorem yzd(p:ProgR){g:Gr}(hg:ybb g)(hp:p.vars.all VarR.ok=true)(hl:p.vars.length<=6):Returns Tryz.prog 93 [.ag (ykh p),grV g] (.rf (ydh p g)):=by
 refine Returns.of (yczu _ _ ?_);have hS:=ybaf p hg;have hT:=yys p hg hp hl;simp only[ykh,grV]at hS hT;simp only[c93,ydck,ydch,ykh,grV,go_sem,Nat.reduceEqDiff,Nat.reduceAdd,Nat.reduceLT,↓reduceIte,reduceCtorEq];refine hS.use ?_;simp only[thenO,go_sem,Nat.reduceEqDiff,Nat.reduceAdd,Nat.reduceLeDiff,Nat.reduceLT,↓reduceIte,reduceCtorEq];refine hT.use ?_;simp only[yhz,ydh,go_sem,Nat.reduceEqDiff,Nat.reduceAdd,Nat.reduceLeDiff,↓reduceIte]
 refine⟨by decide,by decide,Sim.refl _⟩
theorem ybmj(p:ProgT){g:Gr}(hg:ybb g)(hp:p.ok=true){c:Conf}(hc:ConfIn g.ports.length p.vars.length c){v:Nat}(hv:v<g.ports.length){r:Nat}(hr:r<p.rules.length) :
  Returns Tryz.prog 172 [.rf (yeo p.raw g),ybf c,.i .i64 v,.i .i64 r] (.b (ykr g c v (p.rules.getD r default))):=by
 refine Returns.of (ycwb _ _ ?_);obtain⟨R,hR⟩:∃ R,p.rules.getD r default=R:=⟨_,rfl⟩
 have hok:R.ok p.vars.length=true:=by
  unfold ProgT.ok at hp;simp only[Bool.and_eq_true]at hp;rw[<- hR,getD_at hr];exact List.all_eq_true.1 hp.2 _ (List.getElem_mem _)
 unfold RuleT.ok at hok;simp only[Bool.and_eq_true,decide_eq_true_eq]at hok;have hV:=ybay p.raw hg hc hv R.guard hok.1.1.1 hok.1.1.2
 have hraw:p.raw.rules.getD r default=R.raw:=by
  rw[<- hR];simp[ProgT.raw,List.getD,hr]
 have hlen:p.raw.rules.length=p.rules.length:=by simp[ProgT.raw]
 simp only[yeo,ycf,hlen]at hV;rw[hR];simp only[c172,ycdj,ycnn,yeo,ycf,hraw,hlen,go_sem,Nat.reduceEqDiff,Nat.reduceAdd,Nat.reduceLeDiff,↓reduceIte,reduceCtorEq];refine⟨by omega,hV.use ?_⟩
 simp only[thenO,sim_b,ykr,go_sem,Nat.reduceEqDiff,Nat.reduceAdd,↓reduceIte,reduceCtorEq]
theorem ydbw{p:ProgT}{g:Gr}{c:Conf}{v k:Nat}(hk:k<p.rules.length)(hn:(p.rules.take k).findIdx? (ykr g c v)=none)(h:ykr g c v (p.rules.getD k default)=true):ygo p g c v=k:=by
 unfold ygo
 have:p.rules.findIdx? (ykr g c v)=some k:=by
  rw[List.findIdx?_eq_some_iff_getElem];refine⟨hk,by rwa [getD_at hk]at h,fun j hj=>?_⟩
  rw[List.findIdx?_eq_none_iff]at hn;have:=hn p.rules[j] (List.mem_take_iff_getElem.2 ⟨j,by omega,rfl⟩)
  simpa using this
 rw[this]
theorem ybin{p:ProgT}{g:Gr}{c:Conf}{v:Nat}(hn:(p.rules.take p.rules.length).findIdx? (ykr g c v)=none):ygo p g c v = -1:=by
 unfold ygo;rw[List.take_length]at hn;rw[hn]
theorem ybxo(p:ProgT)(g:Gr)(c:Conf)(v:Nat):-1<=ygo p g c v/\ygo p g c v<p.rules.length:=by
 unfold ygo;split
 ·rename_i i hi
  obtain⟨h,_⟩:=List.findIdx?_eq_some_iff_getElem.1 hi;omega
 ·omega
theorem ybgh(p:ProgT){g:Gr}(hg:ybb g)(hp:p.ok=true){c:Conf}(hc:ConfIn g.ports.length p.vars.length c){v:Nat}(hv:v<g.ports.length) :
  Returns Tryz.prog 147 [.rf (ydh p.raw g),ybf c,.i .i64 v] (.i .i64 (ygo p g c v)):=by
 refine Returns.of (ycsh _ _ ?_);have hlen:p.raw.rules.length=p.rules.length:=by simp[ProgT.raw]
 have h12:p.rules.length<=12:=by
  unfold ProgT.ok at hp;simp only[Bool.and_eq_true,decide_eq_true_eq]at hp;exact hp.1.2
 simp only[c147,ycmi,ycny,ydh,ycf,hlen,go_sem,Nat.reduceEqDiff,Nat.reduceAdd,Nat.reduceLeDiff,↓reduceIte,reduceCtorEq];refine ybe (σ:=Nat) (fun k=>⟨[(14,.i .i64 k),(13,.i .i64 p.rules.length),(0,.rf (ydh p.raw g)),(1,ybf c),(2,.i .i64 v)],[]⟩) (fun k=>k<=p.rules.length/\(p.rules.take k).findIdx? (ykr g c v)=none) (fun k=>p.rules.length - k) 0 ⟨Nat.zero_le _,by simp⟩ ?_ ?_
 ·refine yg [] [] [] ?_;simp only[ydh,ycf,hlen,allQ,live,yc,Int.natCast_zero,go_sem,Nat.reduceEqDiff,↓reduceIte,reduceCtorEq]
 ·intro k ⟨hk,hno⟩;simp only[ycpv,ycez,ycps,yclq,ycdo,ycgv,ydh,yw,go_sem,Nat.reduceEqDiff,Nat.reduceAdd,Nat.reduceLeDiff,↓reduceIte,reduceCtorEq];refine⟨fun hlt=>?_,fun hlt=>?_⟩
  ·have hk':k<p.rules.length:=by omega
   refine(ybmj p hg hp hc hv hk').use ?_;simp only[thenO,yw,go_sem,Nat.reduceEqDiff,Nat.reduceAdd,↓reduceIte,reduceCtorEq];refine⟨fun h=>by rw[ydbw hk' hno h],fun h=>⟨ikw (by omega) (by omega),?_⟩⟩
   refine yh (k+1) ⟨by omega,?_⟩ (by omega) ?_
   ·rw[List.take_succ_eq_append_getElem hk',List.findIdx?_append,hno];rw[getD_at hk']at h;simp[h]
   ·refine yg [] [] [] ?_;simp only[allQ,live,yc,yw,go_sem,Nat.reduceEqDiff,↓reduceIte,reduceCtorEq];simp
  ·obtain rfl:k=p.rules.length:=by omega
   rw[ybin hno]
theorem ybwg(n:Nat)(hn:n<=32)(h:FuncId)(cp:List SV)(f:Nat->Bool)(hcp4:cp.any (owned 4)=false)(hf:∀ v,v<n->Returns Tryz.prog h (.i .i64 v :: cp) (.b (f v))):Returns Tryz.prog 145 [.i .i64 n,.fn h [] cp] (.i .u32 (yeu f n)):=by
 refine Returns.of (ycsb _ _ ?_);have hcp:=yjd hcp4;simp only[c145,ycfe,ychb,ycfb,go_sem,Nat.reduceAdd,↓reduceIte,reduceCtorEq];refine ybe (σ:=Nat) (fun k=>⟨[(8,.i .i64 k),(7,.i .i64 n),(1,.fn h [] cp),(5,.i .u32 (yeu f k))],[]⟩) (fun k=>k<=n) (fun k=>n - k) 0 (Nat.zero_le _) ?_ ?_
 ·refine yg [] [] [] ?_;simp only[ycz _ hcp4,ycy _ hcp4,yeu,allQ,live,yc,Int.natCast_zero,go_sem,Nat.reduceEqDiff,↓reduceIte,reduceCtorEq]
 ·intro k hk;simp only[yckv,ycdt,ycnx,ycft,ycjp,ycgm,yw,hcp,List.any_cons,go_sem,Nat.reduceEqDiff,Nat.reduceAdd,↓reduceIte,reduceCtorEq];refine⟨fun hlt=>(hf k (by omega)).use ?_,fun hlt=>?_⟩
  ·have hk':k<n:=by omega
   have hb1:yeu f k<2 ^ 32:=Nat.lt_of_lt_of_le (ypa f k) (Nat.pow_le_pow_right (by omega) (by omega))
   have hb2:2 ^ k<2 ^ 32:=Nat.pow_lt_pow_right (by omega) (by omega)
   simp only[thenO,IntKind.bits,go_sem,Nat.reduceEqDiff,Nat.reduceAdd,↓reduceIte,reduceCtorEq];refine⟨fun h1=>⟨by omega,ikw (by omega) (by omega),?_⟩,fun h1=>⟨ikw (by omega) (by omega),?_⟩⟩
   ·refine yh (k+1) (by omega) (by omega) ?_
    refine yg [] [] [] ?_;have e1:=yke (v:=k) (by omega)
    have e2:=u32_or hb1 hb2;rw[Int.toNat_natCast]at e1;simp only[ycz _ hcp4,ycy _ hcp4,e1,allQ,live,yc,yw,go_sem,Nat.reduceEqDiff,↓reduceIte,reduceCtorEq];refine⟨by omega,?_⟩
    rw[show yeu f (k+1)=yeu f k ||| 2 ^ k by show(if f k then _ else _)=_;rw[if_pos h1]]
    exact e2
   ·refine yh (k+1) (by omega) (by omega) ?_
    refine yg [] [] [] ?_;simp only[ycz _ hcp4,ycy _ hcp4,allQ,live,yc,yw,go_sem,Nat.reduceEqDiff,↓reduceIte,reduceCtorEq];rw[show yeu f (k+1)=yeu f k by show(if f k then _ else _)=_;rw[if_neg (by rw[h1];simp)]]
    simp
  ·obtain rfl:k=n:=by omega
   rfl
theorem yban(p:ProgT){g:Gr}(hg:ybb g)(hp:p.ok=true){c:Conf}(hc:ConfIn g.ports.length p.vars.length c){v:Nat}(hv:v<g.ports.length) :
  Returns Tryz.prog 146 [.i .i64 v,.rf [.rf (ydh p.raw g)],.rf [ybf c]] (.b (decide (ygo p g c v >= 0))):=by
 refine Returns.of (ycrz _ _ ?_);have hR:=ybgh p hg hp hc hv;simp only[c146,yckm,ycpy,go_sem,Nat.reduceEqDiff,Nat.reduceAdd,↓reduceIte,reduceCtorEq];refine hR.use ?_;simp only[thenO,sim_b,go_sem,Nat.reduceEqDiff,Nat.reduceAdd,↓reduceIte,reduceCtorEq]
theorem ynt(p:ProgT){g:Gr}(hg:ybb g)(hp:p.ok=true){c:Conf}(hc:ConfIn g.ports.length p.vars.length c) :
  Returns Tryz.prog 94 [.rf (ydh p.raw g),ybf c] (.i .u32 (ybp p g c)):=by
 refine Returns.of (ydcn _ _ ?_);have hid:=hg.2.2.1;have h24:=hg.2.1;have hN:=ybwg g.ids.length (by omega) 146 [.rf [.rf (ydh p.raw g)],.rf [ybf c]] (fun v=>decide (ygo p g c v >= 0)) rfl (fun v hv=>yban p hg hp hc (by omega))
 simp only[ydh]at hN;simp only[c94,ydeh,ydev,ydh,yhz,go_sem,Nat.reduceEqDiff,Nat.reduceAdd,Nat.reduceLeDiff,Nat.reduceLT,↓reduceIte,reduceCtorEq];simp only[yhz]at hN;refine .inl (hN.use ?_);simp only[thenO,yw,go_sem,Nat.reduceEqDiff,Nat.reduceAdd,↓reduceIte,reduceCtorEq];rfl
theorem yni(p:ProgT)(g:Gr)(c:Conf)(v:Nat):∀ (sets:List (Int × Ex)) (s0:List Int),(ymr p g c v s0 sets).length=s0.length
 | [],_=>rfl
 | a :: sets,s0=>by
  show(ymr p g c v (s0.set _ _) sets).length=_;rw[yni p g c v sets];simp
theorem ybkd(p:ProgT)(g:Gr)(c:Conf)(v:Nat)(s0:List Int)(sets:List (Int × Ex))(k:Nat)(h:k<sets.length) :
  ymr p g c v s0 (sets.take (k+1))=(ymr p g c v s0 (sets.take k)).set (sets.getD k default).1.toNat (yjg (p.vars.getD (sets.getD k default).1.toNat default).kind (ybd g v (p.vars.getD (sets.getD k default).1.toNat default)) (yeb g c v (sets.getD k default).2 (-1))):=by
 unfold ymr;rw[List.take_succ_eq_append_getElem h,List.foldl_append,getD_at h];rfl
theorem ycax(p:ProgT){g:Gr}(hg:ybb g)(hp:p.ok=true){c:Conf}(hc:ConfIn g.ports.length p.vars.length c){v:Nat}(hv:v<g.ports.length){r:Nat}(hr:r<p.rules.length) :
  Returns Tryz.prog 157 [.rf (ydh p.raw g),ybf c,.i .i64 v,.i .i64 r] (yj (ybfh p g c v r)):=by
 refine Returns.of (ycsz _ _ ?_);obtain⟨R,hR⟩:∃ R,p.rules.getD r default=R:=⟨_,rfl⟩;have hp':=hp;unfold ProgT.ok at hp';simp only[Bool.and_eq_true,decide_eq_true_eq]at hp'
 have hok:R.ok p.vars.length=true:=by
  rw[<- hR,getD_at hr];exact List.all_eq_true.1 hp'.2 _ (List.getElem_mem _)
 unfold RuleT.ok at hok;simp only[Bool.and_eq_true,decide_eq_true_eq]at hok
 have hraw:p.raw.rules.getD r default=R.raw:=by
  rw[<- hR];simp[ProgT.raw,List.getD,hr]
 have hlen:p.raw.rules.length=p.rules.length:=by simp[ProgT.raw]
 have hsl:R.raw.sets.length=R.sets.length:=by simp[RuleT.raw]
 have hid:=hg.2.2.1;have hcl:=hc.len;have hrow:=hc.at_ hv;have hne:¬ (c.getD v []).length=0:=by omega
 simp only[c157,ychz,ycfu,ycpw,hne,ydh,ycf,ygy,hraw,hlen,hsl,ybf,yj,go_sem,Nat.reduceEqDiff,Nat.reduceAdd,Nat.reduceLeDiff,Nat.reduceLT,↓reduceIte,reduceCtorEq];obtain⟨nv,hnv⟩:∃ k,p.vars.length=k:=⟨_,rfl⟩;have hrl:=hrow.1;rw[hnv]at hrl hok hc;rw[hnv]at hp';have hmv:ybfh p g c v r=ymr p g c v (c.getD v []) R.sets:=by unfold ybfh;rw[hR]
 have hml:∀ k,(ymr p g c v (c.getD v []) (R.sets.take k)).length=nv:=fun k=>(yni p g c v _ _).trans hrl;refine⟨by omega,by omega,by omega,?_⟩
 refine ybe (σ:=Nat) (fun k=>⟨[(28,.i .i64 k),(27,.i .i64 R.sets.length),(26,ygy R.raw.sets),(0,.rf (ydh p.raw g)),(1,ybf c),(2,.i .i64 v),(9,.os (17,0) 0 nv true)],
   [(17,.one (some ⟨3,false,1,nv,fun i=>[.i .i64 ((ymr p g c v (c.getD v []) (R.sets.take k)).getD i 0)]⟩))]⟩) (fun k=>k<=R.sets.length) (fun k=>R.sets.length - k) 0 (Nat.zero_le _) ?_ ?_
 ·refine yg [] [] [] ?_;simp only[ydh,ycf,ygy,hlen,hsl,hrl,ybf,yj,allQ,live,yc,yw,Int.natCast_zero,go_sem,Nat.reduceEqDiff,↓reduceIte,reduceCtorEq];simp[ymr]
 ·intro k hk;simp only[ychu,ycow,ycmz,ydh,ygy,hsl,splice,go_sem,Nat.reduceEqDiff,Nat.reduceAdd,Nat.reduceLeDiff,Nat.reduceLT,↓reduceIte,reduceCtorEq];refine⟨fun hlt=>?_,fun hlt=>?_⟩
  ·have hk':k<R.sets.length:=by omega
   obtain⟨S,hS⟩:∃ S,R.sets.getD k default=S:=⟨_,rfl⟩
   have hset:R.raw.sets.getD k default=⟨S.1,S.2.ser⟩:=by
    rw[<- hS];simp[RuleT.raw,List.getD,hk']
   have hSok:=List.all_eq_true.1 hok.2 S (by rw[<- hS,getD_at hk'];exact List.getElem_mem _)
   simp only[Bool.and_eq_true,decide_eq_true_eq]at hSok;have hV:=ybay p.raw hg hc hv S.2 hSok.1.2 hSok.2;refine⟨by omega,?_⟩
   rw[hset];refine hV.use ?_;have hB:=ybsh (p.vars.getD S.1.toNat default).kind (ybd g v (p.vars.getD S.1.toNat default)) (yeb g c v S.2 (-1));have hvars:p.raw.vars=p.vars:=rfl;simp only[ycfk,thenO,yhz,ycp,varC,splice,hvars,hnv,go_sem,Nat.reduceEqDiff,Nat.reduceAdd,Nat.reduceLeDiff,↓reduceIte,reduceCtorEq];refine⟨by omega,by omega,by omega,hB.use ?_⟩
   simp only[go_sem,Nat.reduceEqDiff,↓reduceIte];have hb2:Nat.testBit 134217727 25=true:=by decide
   simp only[ycmr,hb2,go_sem,Nat.reduceEqDiff,Nat.reduceAdd,↓reduceIte,reduceCtorEq];refine⟨by omega,by omega,ikw (by omega) (by omega),?_⟩
   refine yh (k+1) (by omega) (by omega) ?_
   refine yg [] [] [] ?_;simp only[ybkd p g c v _ _ k hk',hS,allQ,live,yc,yw,go_sem,Nat.reduceEqDiff,↓reduceIte,reduceCtorEq];refine⟨by omega,fun i hi=>?_⟩
   rw[ybyw (by rw[hml];omega)]
   by_cases q:i=S.1.toNat
   ·simp only[if_pos q];simp only[live,yc,go_sem,reduceCtorEq]
   ·simp only[if_neg q];simp only[live,yc,go_sem,reduceCtorEq]
  ·obtain rfl:k=R.sets.length:=by omega
   simp only[yckt,go_sem,Nat.reduceEqDiff,Nat.reduceAdd,↓reduceIte,reduceCtorEq];have hl:=hml R.sets.length;rw[List.take_length]at hl ⊢;rw[hmv,hl];exact Sim.refl _
theorem yko(p:ProgT)(g:Gr)(c:Conf)(s:Nat){v:Nat}(hv:v<c.length):(ykp p g c s).getD v []=if s.testBit v then ybfh p g c v (ygo p g c v).toNat else c.getD v []:=by
 unfold ykp;simp[List.getD,hv]
theorem yij(p:ProgT)(g:Gr)(c:Conf)(s:Nat):(ykp p g c s).length=c.length:=by simp[ykp]
theorem ybwj(p:ProgT){g:Gr}(hg:ybb g)(hp:p.ok=true){c:Conf}(hc:ConfIn g.ports.length p.vars.length c){s:Nat}(hs:s<2 ^ 32)(hen:subB s (ybp p g c)) :
  Returns Tryz.prog 113 [.rf (ydh p.raw g),ybf c,.i .u32 s] (ybf (ykp p g c s)):=by
 refine Returns.of (ybye [132] _ _ ?_);have h24:=hg.2.1;have hcl:=hc.len;have hp':=hp;unfold ProgT.ok at hp';simp only[Bool.and_eq_true,decide_eq_true_eq]at hp';have hC:=ycan c (fun x hx=>by have:=(hc.row x hx).1;omega) (by omega)
 simp only[c113,ycpc,ycfh,go_sem,Nat.reduceEqDiff,Nat.reduceAdd,↓reduceIte,reduceCtorEq];refine callM_of hC [] 100 [0,1,2] [] ?_ ?_
 ·simp only[go_sem,famCln,ygr,keepF,keepO,allQ,live,yc,go_sem,Nat.reduceEqDiff,↓reduceIte,reduceCtorEq]
 ·rintro r o' ⟨rfl,rfl⟩;simp only[yclg,ybf,yj,thenM,yoj,nuF,nu,difN,keepF,keepO,Fam.ren,OB.ren,dim,ybaj,yoc,go_sem,Nat.reduceEqDiff,Nat.reduceAdd,↓reduceIte,reduceCtorEq];obtain⟨n,hn⟩:∃ n,c.length=n:=⟨_,rfl⟩
  let row:Nat->Nat->List Int:=fun k i=>if i<k then(ykp p g c s).getD i []else c.getD i []
  refine ybe (σ:=Nat) (fun k=>⟨[(13,.i .i64 k),(12,.i .i64 n),(7,.os (108,0) 0 n true),(0,.rf (ydh p.raw g)),(1,ybf c),(2,.i .u32 s)],
   [(108,.one (some ⟨22,false,1,n,fun i=>[yj (row k i)]⟩))]⟩) (fun k=>k<=n) (fun k=>n - k) 0 (Nat.zero_le _) ?_ ?_
  ·refine yg [] [] [] ?_;simp only[ybf,hn,allQ,live,yc,Int.natCast_zero,go_sem,Nat.reduceEqDiff,↓reduceIte,reduceCtorEq];refine⟨Sim.refl _,fun i hi=>?_⟩;simp only[row,if_neg (Nat.not_lt_zero i)];exact Sim.refl _
  ·intro k hk;have ht:=ybic (s:=s) (v:=k) hs;simp only[IntKind.bits]at ht;simp only[ycmw,ycda,ycia,yceo,ycos,ycck,IntKind.bits,ht,yrl,go_sem,Nat.reduceEqDiff,Nat.reduceAdd,Nat.reduceBEq,↓reduceIte,reduceCtorEq];refine⟨fun hlt=>⟨by omega,fun h1=>?_,fun h1=>?_⟩,fun hlt=>?_⟩
   ·have hk':k<c.length:=by omega
    have hkg:k<g.ports.length:=by omega
    have hr0:0<=ygo p g c k:=by
     have:=hen k h1;unfold ybp at this;rw[yew]at this;simp only[Bool.and_eq_true,decide_eq_true_eq]at this;exact this.2
    have hrl:=(ybxo p g c k).2;have hr1:ygo p g c k=((ygo p g c k).toNat:Int):=by omega
    refine(ybgh p hg hp hc hkg).use ?_;simp only[thenO,splice,go_sem,Nat.reduceEqDiff,Nat.reduceAdd,Nat.reduceBEq,↓reduceIte,reduceCtorEq];have hM:=ycax p hg hp hc hkg (r:=(ygo p g c k).toNat) (by omega)
    rw[<- hr1]at hM;refine hM.use ?_;simp only[go_sem,Nat.reduceEqDiff,↓reduceIte];refine⟨by omega,by omega,ikw (by omega) (by omega),?_⟩
    refine yh (k+1) (by omega) (by omega) ?_
    refine yg [] [] [] ?_;simp only[allQ,live,yc,yw,go_sem,Nat.reduceEqDiff,↓reduceIte,reduceCtorEq];refine⟨by omega,fun i hi=>?_⟩
    by_cases q:i=k
    ·simp only[if_pos q];subst q;simp only[go_sem,live,go_sem];simp only[row,if_pos (Nat.lt_succ_self i),yko p g c s hk',h1,↓reduceIte];exact Sim.refl _
    ·simp only[if_neg q];simp only[go_sem,live,go_sem]
     have:row (k+1) i=row k i:=by
      simp only[row]
      by_cases q1:i<k
      ·rw[if_pos q1,if_pos (by omega)]
      ·rw[if_neg q1,if_neg (by omega)]
     rw[this];exact Sim.refl _
   ·have hk':k<c.length:=by omega
    refine⟨ikw (by omega) (by omega),?_⟩
    refine yh (k+1) (by omega) (by omega) ?_
    refine yg [] [] [] ?_;simp only[allQ,live,yc,yw,go_sem,Nat.reduceEqDiff,↓reduceIte,reduceCtorEq];refine⟨by omega,fun i hi=>?_⟩
    have:row (k+1) i=row k i:=by
     simp only[row]
     by_cases q1:i<k
     ·rw[if_pos q1,if_pos (by omega)]
     ·by_cases q:i=k
      ·subst q;rw[if_neg q1,if_pos (by omega),yko p g c s hk',if_neg (fun q=>h1 (yrl.2 q))]
      ·rw[if_neg q1,if_neg (by omega)]
    rw[this];exact Sim.refl _
   ·obtain rfl:k=n:=by omega
    rw[yij,hn];refine yhe fun q hq=>⟨⟨?_,trivial⟩,rfl⟩;simp only[row,if_pos hq];exact Sim.refl _
end Sh
end Go.Proofs.YtiejahgklcjhkaaGreatDoor

namespace Go.Proofs.YtiejahgklcjhkaaGreatDoor
namespace Sh
open Go Ev
set_option maxRecDepth 8000

def ywn(p:ProgT)(g:Gr):Bool:=p.vars.all fun x=>decide (x.kind=1) == false || (decide ((ybd g 0 x).1<=(ybd g 0 x).2) && decide ((ybd g 0 x).2 - (ybd g 0 x).1+1<=4096))
def yfi(Q1 Q2:(Nat->Option ABlk)->Value->Prop)(p:ProgR):List SV:=[.a (.string p.name),.ex Q1 (ycp p.vars),.ex Q2 (ycf p.rules)]
theorem ybxa{Q1 Q2:(Nat->Option ABlk)->Value->Prop}(p:ProgT){g:Gr}(hg:ybb g)(hp:p.ok=true)(hf:ywn p g=true)(hV:Returns Tryz.prog 191 [.ag (yfi Q1 Q2 p.raw)] (.b true))(hG:Returns Tryz.prog 96 [grV g] (.b true)) :
  Returns Tryz.prog 155 [.ag (yfi Q1 Q2 p.raw),grV g] (.i .i64 0):=by
 refine Returns.of (ycwh _ _ ?_);have hp':=hp;unfold ProgT.ok at hp';simp only[Bool.and_eq_true,decide_eq_true_eq]at hp';have hvars:p.raw.vars=p.vars:=rfl;simp only[yfi,grV]at hV hG;simp only[c155,ycpx,ycol,ycec,ycov,ycib,ycfx,yfi,grV,go_sem,Nat.reduceEqDiff,Nat.reduceAdd,Nat.reduceLT,↓reduceIte,reduceCtorEq];refine hV.use ?_;simp only[thenO,go_sem,Nat.reduceEqDiff,Nat.reduceAdd,↓reduceIte]
 refine hG.use ?_;simp only[ycp,hvars,go_sem,Nat.reduceEqDiff,Nat.reduceAdd,Nat.reduceLeDiff,↓reduceIte,reduceCtorEq]
 have hall:∀ k,k<p.vars.length->(p.vars.getD k default).ok=true/\((p.vars.getD k default).kind=1->(ybd g 0 (p.vars.getD k default)).1<=(ybd g 0 (p.vars.getD k default)).2/\(ybd g 0 (p.vars.getD k default)).2 - (ybd g 0 (p.vars.getD k default)).1+1<=4096):=fun k hk=>by
  rw[getD_at hk];refine⟨List.all_eq_true.1 hp'.1.1.2 _ (List.getElem_mem _),fun h1=>?_⟩;have:=List.all_eq_true.1 hf _ (List.getElem_mem hk)
  simpa [h1]using this
 refine ybe (σ:=Nat) (fun k=>⟨[(18,.i .i64 k),(17,.i .i64 p.vars.length),(16,.ex Q1 (ycp p.vars)),(3,.pt (3,0) 0 0)],[(3,.one (some ⟨27,true,2,1,fun _=>[yj g.ids,yu g.ports]⟩))]⟩) (fun k=>k<=p.vars.length) (fun k=>p.vars.length - k) 0 (Nat.zero_le _) ?_ ?_
 ·refine yg [] [] [] ?_;simp only[ycp,allQ,live,yc,Int.natCast_zero,go_sem,Nat.reduceEqDiff,↓reduceIte,reduceCtorEq]
 ·intro k hk;obtain⟨x,hx⟩:∃ x,p.vars.getD k default=x:=⟨_,rfl⟩;simp only[ycno,ycei,ycbs,ycnp,ybvs,ybqw,ybpn,ybtm,ycp,varC,splice,yw,hx,go_sem,Nat.reduceEqDiff,Nat.reduceAdd,Nat.reduceLeDiff,Nat.reduceLT,↓reduceIte,reduceCtorEq];intro hlt;have hk':k<p.vars.length:=by omega
  obtain⟨hxo,hxb⟩:=hall k hk';rw[hx]at hxo hxb;have hB:=ytx hg hxo (v:=0) (by have:=hg.1;omega)
  simp only[varC,grV,Int.natCast_zero]at hB;obtain⟨hb1,hb2⟩:=ykq hg hxo;have hvo:=ybff hxo;refine⟨by omega,fun h1=>⟨ikw (by omega) (by omega),?_⟩,fun h1=>hB.use ?_⟩
  ·refine yh (k+1) (by omega) (by omega) ?_
   refine yg [] [] [] ?_;simp only[allQ,live,yc,yw,go_sem,Nat.reduceEqDiff,↓reduceIte,reduceCtorEq];omega
  ·obtain⟨hb3,hb4⟩:=hxb h1;obtain⟨b1,hb1'⟩:∃ b,(ybd g 0 x).1=b:=⟨_,rfl⟩;obtain⟨b2,hb2'⟩:∃ b,(ybd g 0 x).2=b:=⟨_,rfl⟩;have e:ybd g 0 x=(x.lo,x.hi+x.perNode * (g.ids.length:Int)+x.perID * maxI g.ids):=by unfold ybd;rw[if_pos h1]
   rw[e]at hb1' hb2';simp only[]at hb1' hb2';simp only[e]at hb3 hb4;rw[e];simp only[thenO,yw,go_sem,Nat.reduceEqDiff,Nat.reduceAdd,↓reduceIte,reduceCtorEq];simp only[hb1',hb2']at hb3 hb4 ⊢;refine⟨fun _=>⟨ikw (by omega) (by omega),ikw (by omega) (by omega),fun hgt=>absurd hb4 (by omega),fun _=>⟨ikw (by omega) (by omega),?_⟩⟩,fun hlt2=>absurd hb3 (by omega)⟩
   refine yh (k+1) (by omega) (by omega) ?_
   refine yg [] [] [] ?_;simp only[allQ,live,yc,yw,go_sem,Nat.reduceEqDiff,↓reduceIte,reduceCtorEq];omega
end Sh
end Go.Proofs.YtiejahgklcjhkaaGreatDoor

namespace Go.Proofs.YtiejahgklcjhkaaGreatDoor
namespace Sh
open Go Ev Go.RowKit
set_option maxRecDepth 8000

theorem ybrx{g:Gr}(hg:ybb g){x:VarR}(hx:x.ok=true)(v:Nat):-4096<=(ybd g v x).1/\(ybd g v x).2<=100000:=by
 obtain⟨h1,h2,h3,h4,h5⟩:=ybff hx;obtain⟨h6,h7⟩:=ykq hg hx;have h8:=hg.deg_lt (v:=v);unfold ybd;split
 ·exact⟨by simp only[];omega,by simp only[];omega⟩
 ·split
  ·exact⟨by simp only[];omega,by simp only[];omega⟩
  ·split
   ·exact⟨by simp only[];omega,by simp only[];omega⟩
   ·exact⟨by simp only[];omega,by simp only[];omega⟩
theorem ykk{p:ProgT}{g:Gr}(hg:ybb g)(hp:p.ok=true){c:Conf}(hc:yft p g c=true):ConfIn g.ports.length p.vars.length c:=by
 have h:=(ydy _ _ _).1 hc;have hp':=hp;unfold ProgT.ok at hp';simp only[Bool.and_eq_true,decide_eq_true_eq]at hp';refine⟨h.1.trans hg.2.2.1,fun s hs=>?_⟩;obtain⟨v,hv,rfl⟩:=List.getElem_of_mem hs;have h2:=h.2 v _ (List.getElem?_eq_getElem hv);have hl:(c[v]).length=p.vars.length:=by have:=h2.1;simpa using this
 refine⟨hl,fun x hx=>?_⟩;obtain⟨i,hi,rfl⟩:=List.getElem_of_mem hx;have hi':i<p.vars.length:=by omega
 have h3:=h2.2 i (ybd g v p.vars[i]) _ (by simp[hi']) (List.getElem?_eq_getElem hi)
 have h4:=ybrx hg (List.all_eq_true.1 hp'.1.1.2 _ (List.getElem_mem hi')) v;unfold InB;omega
structure Checked(Q1 Q2:(Nat->Option ABlk)->Value->Prop)(p:ProgT)(g:Gr):Prop where
 hg:ybb g
 hp:p.ok=true
 hf:ywn p g=true
 hV:Returns Tryz.prog 191 [.ag (yfi Q1 Q2 p.raw)] (.b true)
theorem Checked.gv{Q1 Q2:(Nat->Option ABlk)->Value->Prop}{p:ProgT}{g:Gr}(h:Checked Q1 Q2 p g):Returns Tryz.prog 96 [grV g] (.b true):=by
 have e:=yum (ybxr h.hg);rw[(ycm g).2 h.hg]at e;exact e
section
variable {Q1 Q2:(Nat->Option ABlk)->Value->Prop} {p:ProgT} {g:Gr}
theorem ybqs(h:Checked Q1 Q2 p g)(c:Conf):Returns Tryz.prog 112 [.ag (yfi Q1 Q2 p.raw),grV g,ybf c] (.i .i64 (if yft p g c then 0 else 10)):=by
 refine Returns.of (ycqo _ _ ?_);have hp':=h.hp;unfold ProgT.ok at hp';simp only[Bool.and_eq_true,decide_eq_true_eq]at hp';have hid:=h.hg.2.2.1;have h24:=h.hg.2.1;have hF:=ybxa p h.hg h.hp h.hf h.hV h.gv;have hT:=yys p.raw h.hg hp'.1.1.2 hp'.1.1.1.2;have hW:=ybid (n:=g.ids.length) p.vars (by omega) (ybd g) c (by omega)
 simp only[yfi,grV]at hF hT;simp only[c112,ycht,ycce,yfi,grV,go_sem,Nat.reduceEqDiff,Nat.reduceAdd,Nat.reduceLT,↓reduceIte,reduceCtorEq];refine hF.use ?_;simp only[thenO,ycch,ycit,ycnz,go_sem,Nat.reduceEqDiff,Nat.reduceAdd,↓reduceIte,reduceCtorEq];refine⟨fun h=>absurd rfl h,hT.useS ?_ ?_⟩
 ·exact⟨ytp ⟨Sim.refl _,yqv _ _,yqv _ _,trivial⟩,Sim.refl _,trivial⟩
 simp only[yhz]at hW ⊢;simp only[go_sem,↓reduceIte];refine hW.use ?_;simp only[go_sem];have hcf:∀ b,yom g.ids.length (fun v=>p.vars.map (ybd g v)) c=b->yft p g c=b:=fun b h=>h;refine⟨fun h1=>?_,fun h1=>?_⟩
 ·simp only[ycen,hcf _ h1,yw,go_sem,↓reduceIte]
 ·simp only[ycbx,hcf _ h1,yw,go_sem,↓reduceIte]
theorem ybjs(k:Int):Returns Tryz.prog 108 [.i .i64 k] (.b (decide (1<=k) && decide (k<=4))):=by
 refine Returns.of (ycsl _ _ ?_);simp only[c108,ychp,ycpu,sim_b,go_sem,Nat.reduceEqDiff,Nat.reduceAdd,↓reduceIte,reduceCtorEq]
 by_cases h:k >= 1<;>simp[h]

end
end Sh
end Go.Proofs.YtiejahgklcjhkaaGreatDoor

namespace Go.Proofs.YtiejahgklcjhkaaGreatDoor
open Go

theorem ykz(s a:Nat):∀ b,ybu s (a+b)=ybu s a+ybu (s >>> a) b
 | 0=>rfl
 | b+1=>by
  show ybu s (a+b)+(s.testBit (a+b)).toNat=_;rw[ykz s a b];show _=ybu s a+(ybu (s >>> a) b+((s >>> a).testBit b).toNat);rw[Nat.testBit_shiftRight];omega
theorem ylq(s:Nat):∀ b,b<=8->ybu (s &&& 255) b=ybu s b
 | 0,_=>rfl
 | b+1,h=>by
  show ybu _ b+_=ybu s b+_;rw[ylq s b (by omega),Nat.testBit_and,show(255:Nat)=2 ^ 8 - 1 from rfl,Nat.testBit_two_pow_sub_one]
  simp[show b<8 by omega]
theorem ybjv(s:Nat):popP s=ybu (s >>> 24 &&& 255) 8+ybu (s >>> 16 &&& 255) 8+ybu (s >>> 8 &&& 255) 8+ybu (s &&& 255) 8:=by
 simp only[ylq _ 8 (Nat.le_refl _)];have h1:=ykz s 8 24;have h2:=ykz (s >>> 8) 8 16;have h3:=ykz (s >>> 8 >>> 8) 8 8;simp only[<- Nat.shiftRight_add,Nat.reduceAdd]at h1 h2 h3;unfold popP;omega
namespace Sh
open Ev Go.RowKit
set_option maxRecDepth 8000
theorem ywh:∀ k,k<256->ytf.getD k 0=ybu k 8:=by decide
theorem ycqs:ytf.length=256:=by decide
theorem ycul(a v:Nat):(a:Int).fdiv (2 ^ v)=((a >>> v:Nat):Int):=by
 have h:=ybqx (a:=a) (v:=v)
 rwa [Int.toNat_natCast]at h
theorem ycfl{a:Nat}(ha:a<2 ^ 32):IntKind.wrap .u32 (((BitVec.ofInt (IntKind.bits .u32) (a:Int)) &&& BitVec.ofInt (IntKind.bits .u32) 255).toNat:Int)=((a &&& 255:Nat):Int):=u32_and (b:=255) ha (by decide)
theorem ydac{a n:Nat}(h:a<2 ^ 32):a >>> n<2 ^ 32:=by rw[Nat.shiftRight_eq_div_pow];exact Nat.lt_of_le_of_lt (Nat.div_le_self _ _) h
theorem ybzf{s:Nat}(hs:s<2 ^ 32):Returns Tryz.prog 104 [.i .u32 s] (.i .i64 (popP s)):=by
 refine Returns.of (ycwc _ _ ?_);simp only[c104,ychy,ycqi,clash,go_sem,Int.reduceToNat,Nat.reduceEqDiff,Nat.reduceAdd,↓reduceIte,reduceCtorEq];have f1:=ycfl hs;have f2:=fun n=>ycfl (ydac (n:=n) hs);simp only[IntKind.bits]at f1 f2;simp only[ycul,f1,f2,Int.toNat_natCast,ycqs];have hp:=ybjv s;have l1:s >>> 24<256:=by rw[Nat.shiftRight_eq_div_pow];omega
 have b1:∀ x:Nat,x &&& 255<256:=fun x=>Nat.lt_of_le_of_lt Nat.and_le_right (by omega)
 rw[ylq (s >>> 24) 8 (Nat.le_refl _)]at hp;rw[ywh _ l1,ywh _ (b1 (s >>> 16)),ywh _ (b1 (s >>> 8)),ywh _ (b1 s)];have q1:=yhr (s >>> 24) 8;have q2:=yhr (s >>> 16 &&& 255) 8;have q3:=yhr (s >>> 8 &&& 255) 8;have q4:=yhr (s &&& 255) 8;have w1:=b1 (s >>> 16);have w2:=b1 (s >>> 8);have w3:=b1 s;have u8k:∀ x:Int,0<=x->x<=255->inK .u8 x:=fun x h1 h2=>⟨by simpa [IntKind.min,IntKind.signed]using h1,by simpa [IntKind.max,IntKind.bits,IntKind.signed]using h2⟩
 refine⟨⟨by omega,by decide⟩,⟨by omega,by omega⟩,⟨by omega,by decide⟩,by omega,u8k _ (by omega) (by omega),⟨by omega,by decide⟩,by omega,u8k _ (by omega) (by omega),by omega,u8k _ (by omega) (by omega),?_⟩
 rw[wrap_in (ikw (by omega) (by omega)),hp]
 exact Sim.refl _
def cntV(k:Cnt):List SV:=[.i .i64 k.steps,.i .i64 k.moves,.i .i64 k.rounds,.i .i64 k.begun,.i .u32 k.pend]
theorem ybpj{e:Nat}(he:e<2 ^ 24):Returns Tryz.prog 195 [.i .u32 e] (.ag (cntV (yci e))):=by
 refine Returns.of (ycwf _ _ ?_);simp only[c195,yceg,ycgx,go_sem,Nat.reduceEqDiff,Nat.reduceAdd,Nat.reduceLT,↓reduceIte,reduceCtorEq];have e1:e &&& 16777215=e:=by rw[show(16777215:Nat)=2 ^ 24 - 1 from rfl,Nat.and_two_pow_sub_one_of_lt_two_pow he]
 have e2:IntKind.wrap .u32 (((BitVec.ofInt (IntKind.bits .u32) (e:Int)) &&& BitVec.ofInt (IntKind.bits .u32) 16777215).toNat:Int)=((e &&& 16777215:Nat):Int):=u32_and (b:=16777215) (by omega) (by decide)
 simp only[IntKind.bits]at e2;rw[e2,e1];exact Sim.refl _
def usV(l:List Nat):SV:=.sl 1 l.length (fun k=>[.i .u32 ((l.getD k 0:Nat):Int)])
theorem ydhq{a:Nat}(ha:a<2 ^ 24):IntKind.wrap .u32 (((BitVec.ofInt (IntKind.bits .u32) (a:Int)) &&& ~~~BitVec.ofInt (IntKind.bits .u32) 16777215).toNat:Int)=0:=by
 have h:=u32_andNot (a:=a) (b:=16777215) (by omega) (by decide)
 have e:difB a 16777215=0:=by
  rw[ycl];intro i;rw[ygj,show(16777215:Nat)=2 ^ 24 - 1 from rfl,Nat.testBit_two_pow_sub_one]
  by_cases hi:i<24
  ·simp[hi]
  ·rw[Nat.testBit_lt_two_pow (Nat.lt_of_lt_of_le ha (Nat.pow_le_pow_right (by omega) (by omega)))]
   rfl
 rw[e]at h;exact h
theorem possible_ret(l:List Nat)(hl:l.length<=10)(h:∀ k,k<l.length->l.getD k 0<2 ^ 24):Returns Tryz.prog 223 [usV l] (.b true):=by
 refine Returns.of (ycrt _ _ ?_);simp only[c223,ycnt,ycfa,usV,go_sem,Nat.reduceAdd,↓reduceIte,reduceCtorEq];refine ybe (σ:=Nat) (fun k=>⟨[(7,.i .i64 k),(6,.i .i64 l.length),(5,usV l)],[]⟩) (fun k=>k<=l.length) (fun k=>l.length - k) 0 (Nat.zero_le _) ?_ ?_
 ·refine yg [] [] [] ?_;simp only[usV,allQ,live,yc,Int.natCast_zero,go_sem,Nat.reduceEqDiff,↓reduceIte,reduceCtorEq]
 ·intro k hk;simp only[ycfg,ycha,ycfr,ycfw,usV,go_sem,Nat.reduceEqDiff,Nat.reduceAdd,↓reduceIte,reduceCtorEq];refine⟨fun hlt=>?_,fun hlt=>?_⟩
  ·have hk':k<l.length:=by omega
   have e0:=ydhq (h k hk');simp only[IntKind.bits]at e0;rw[e0];refine⟨⟨by omega,by omega⟩,fun h=>absurd rfl h,fun _=>?_⟩
   simp only[ycle,go_sem,Nat.reduceEqDiff,Nat.reduceAdd,↓reduceIte,reduceCtorEq];refine⟨ikw (by omega) (by omega),?_⟩
   refine yh (k+1) (by omega) (by omega) ?_
   refine yg [] [] [] ?_;simp only[allQ,live,yc,yw,go_sem,Nat.reduceEqDiff,↓reduceIte,reduceCtorEq];omega
  ·simp only[ycmj,sim_b,go_sem,↓reduceIte]
theorem CValid_ret {k : Cnt} (hk : k.ok) (hs : k.steps <= 4096) : Returns Tryz.prog 222 [.ag (cntV k)] (.b true) := by
  refine Returns.of (c222_ok _ _ ?_)
  obtain ⟨h1, h2, h3, h4, h5, h6⟩ := hk
  have hP := possible_ret [k.pend] (by simp) (fun i hi => by have : i = 0 := by simp at hi; omega
                                                             subst this; exact h6)
  have f1 : decide ((k.steps : Int) < 0) = false := by simp
  have f2 : decide ((k.steps : Int) > 4096) = false := by simp; omega
  have f3 : decide ((k.rounds : Int) < 0) = false := by simp
  have f4 : decide ((k.rounds : Int) > k.begun) = false := by simp; omega
  have f5 : decide ((k.begun : Int) > k.steps) = false := by simp; omega
  have f6 : decide ((k.begun : Int) > k.rounds + 1) = false := by simp; omega
  have f7 : decide ((k.steps : Int) <= k.moves) = true := by simp; omega
  have f8 : decide ((k.moves : Int) <= 24 * k.steps) = true := by simp; omega
  simp (maxSteps := 5000000) only [c222, c222_0, c222_1, cntV, f1, f2, f3, f4, f5, go_sem, Nat.reduceEqDiff, Nat.reduceAdd, Nat.reduceLeDiff, Nat.reduceLT, ↓reduceIte, reduceCtorEq]
  simp only [c222_3, f6, go_sem, Nat.reduceEqDiff, Nat.reduceAdd, Nat.reduceLeDiff, ↓reduceIte, reduceCtorEq]
  refine ⟨ikw (by omega) (by omega), ?_⟩
  simp (maxSteps := 5000000) only [c222_5, f7, f8, go_sem, Nat.reduceEqDiff, Nat.reduceAdd, Nat.reduceLeDiff, Nat.reduceLT, ↓reduceIte, reduceCtorEq]
  refine ⟨ikw (by omega) (by omega), ?_⟩
  refine .inl ⟨fun q hq => ?_, hP.useS ?_ ?_⟩
  · obtain rfl : q = 0 := by omega
    simp only [go_sem]
  · exact ⟨sim_sl fun q hq => by obtain rfl : q = 0 := by omega
                                 rfl, trivial⟩
  simp only [thenO, sim_b, go_sem, Nat.reduceEqDiff, Nat.reduceAdd, ↓reduceIte, reduceCtorEq]
theorem yctz{k:Cnt}(hk:k.ok)(hs:k.steps<4096){s e:Nat}(h0:s ≠ 0)(hs24:s<2 ^ 24)(he:e<2 ^ 24):Returns Tryz.prog 197 [.ag (cntV k),.i .u32 s,.i .u32 e] (.tp [.ag (cntV (addP k s e)),.i .i64 0]):=by
 refine Returns.of (ycrs _ _ ?_);have hV:=CValid_ret hk (by omega)
 have hO:=ybzf (s:=s) (by omega)
 have hP:=possible_ret [s,e] (by simp) (fun i hi=>by
  have:i=0\/i=1:=by simp at hi;omega
  rcases this with rfl | rfl
  ·exact hs24
  ·exact he)
 obtain⟨h1,h2,h3,h4,h5,h6⟩:=hk;simp only[cntV]at hV;simp only[c197,ycko,ycdu,cntV,go_sem,Nat.reduceEqDiff,Nat.reduceAdd,Nat.reduceLT,↓reduceIte];refine hV.use ?_;have z0:((s:Int) == 0)=false:=by simp;omega
 simp only[thenO,yclf,z0,go_sem,Nat.reduceEqDiff,Nat.reduceAdd,Nat.reduceLeDiff,Nat.reduceLT,↓reduceIte,reduceCtorEq];refine .inl ⟨fun q hq=>?_,hP.useS ?_ ?_⟩
 ·have:q=0\/q=1:=by omega
  rcases this with rfl | rfl
  ·simp only[go_sem]
  ·simp only[go_sem]
 ·exact⟨sim_sl fun q hq=>by
   have:q=0\/q=1:=by omega
   rcases this with rfl | rfl<;>rfl,trivial⟩
 have z1:((k.steps:Int) == 4096)=false:=by simp;omega
 simp only[yccv,ycom,z1,go_sem,Nat.reduceEqDiff,Nat.reduceAdd,Nat.reduceLeDiff,↓reduceIte,reduceCtorEq];refine⟨ikw (by omega) (by omega),?_⟩
 simp only[yclk,clash,go_sem,Nat.reduceEqDiff,Nat.reduceAdd,Nat.reduceLeDiff,↓reduceIte,reduceCtorEq];refine hO.use ?_;have hpop:=ybne s hs24;have a1:=u32_andNot (a:=k.pend) (b:=s) (by omega) (by omega)
 have hd:difB k.pend s<2 ^ 24:=ywz h6;have a2:=u32_and (a:=difB k.pend s) (b:=e) (by omega) (by omega)
 obtain⟨P,hPe⟩:∃ P,difB k.pend s &&& e=P:=⟨_,rfl⟩;rw[hPe]at a2;simp only[IntKind.bits]at a1 a2;simp only[thenO,go_sem,Nat.reduceEqDiff,Nat.reduceAdd,Nat.reduceLeDiff,↓reduceIte,reduceCtorEq];refine⟨ikw (by omega) (by omega),?_⟩
 simp only[yclr,ybqv,ybqk,a1,a2,go_sem,Nat.reduceEqDiff,Nat.reduceAdd,Nat.reduceLeDiff,↓reduceIte,reduceCtorEq];refine⟨by decide,ikw (by omega) (by omega),fun hP0=>?_,fun hP0=>?_⟩
 ·have hP1:P=0:=by omega
  have ea:addP k s e=⟨k.steps+1,k.moves+popP s,k.rounds+1,k.rounds+1,e⟩:=by unfold addP;simp only[hPe,hP1,if_true]
  rw[ea];simp only[ybvd,ybrh,ybdo,go_sem,Nat.reduceEqDiff,Nat.reduceAdd,Nat.reduceLeDiff,↓reduceIte,reduceCtorEq];exact Sim.refl _
 ·have hP1:¬ P=0:=by omega
  have ea:addP k s e=⟨k.steps+1,k.moves+popP s,k.rounds,k.rounds+1,P⟩:=by unfold addP;simp only[hPe,if_neg hP1]
  rw[ea];simp only[ybdo,go_sem,Nat.reduceEqDiff,Nat.reduceAdd,↓reduceIte];exact Sim.refl _
end Sh
end Go.Proofs.YtiejahgklcjhkaaGreatDoor

namespace Go.Proofs.YtiejahgklcjhkaaGreatDoor
open Go
def netP(ls:List (Int × Int)):Nat:=ls.foldl (fun a l=>a ||| 2 ^ l.1.toNat) 0
theorem ybqi(ls:List (Int × Int))(k:Nat)(h:k<ls.length):netP (ls.take (k+1))=netP (ls.take k) ||| 2 ^ (ls.getD k (0,0)).1.toNat:=by
 unfold netP;rw[List.take_succ_eq_append_getElem h,List.foldl_append,Sh.getD_at h];rfl
theorem ycuy(ls:List (Int × Int))(h:∀ l ∈ ls,l.1<24):netP ls<2 ^ 24:=by
 unfold netP
 have:∀ (ls:List (Int × Int)) (a:Nat),(∀ l ∈ ls,l.1<24)->a<2 ^ 24->ls.foldl (fun a l=>a ||| 2 ^ l.1.toNat) a<2 ^ 24:=by
  intro ls
  induction ls with
  | nil=>intro a _ h;exact h
  | cons l ls ih =>
   intro a hl ha;refine ih _ (fun x hx=>hl x (List.mem_cons_of_mem _ hx)) (Nat.or_lt_two_pow ha ?_);have:=hl l List.mem_cons_self;exact Nat.pow_lt_pow_right (by omega) (by omega)
 exact this ls 0 h (by decide)
namespace Sh
open Ev Go.RowKit
set_option maxRecDepth 8000
theorem u32k{a:Nat}(h:a<2 ^ 32):inK .u32 (a:Int):=⟨by simp[IntKind.min,IntKind.signed],by simp[IntKind.max,IntKind.bits,IntKind.signed];omega⟩
theorem ybln{g:Gr}(hg:ybb g):Returns Tryz.prog 109 [grV g] (.i .u32 (2 ^ g.ids.length - 1:Nat)):=by
 refine Returns.of (ycur _ _ ?_);have h3:=hg.2.2.1;have h4:=hg.2.1;simp only[c109,ycdn,ycjw,grV,yj,go_sem,Nat.reduceEqDiff,Nat.reduceAdd,Nat.reduceLeDiff,Nat.reduceLT,↓reduceIte,reduceCtorEq];have h5:=yke (v:=g.ids.length) (by omega)
 rw[Int.toNat_natCast]at h5;have h6:2 ^ g.ids.length<2 ^ 32:=Nat.pow_lt_pow_right (by omega) (by omega)
 have h7:1<=2 ^ g.ids.length:=Nat.one_le_two_pow;have h8:(((2 ^ g.ids.length:Nat):Int)) - 1=((2 ^ g.ids.length - 1:Nat):Int):=by omega
 rw[h5,h8];refine⟨⟨by omega,by show _<((32:Nat):Int);omega⟩,u32k (by omega),Sim.refl _⟩
theorem ybkq{g:Gr}(hg:ybb g):Returns Tryz.prog 110 [grV g] (usV (g.ports.map netP)):=by
 refine Returns.of (ycrh _ _ ?_);have h3:=hg.2.2.1;have h4:=hg.2.1;simp only[c110,ycgp,ycdz,ycmm,grV,yj,yu,go_sem,Nat.reduceEqDiff,Nat.reduceAdd,Nat.reduceLT,↓reduceIte,reduceCtorEq];refine⟨by omega,?_⟩
 obtain⟨n,hn⟩:∃ n,g.ports.length=n:=⟨_,rfl⟩
 let val:Nat->Nat->Nat:=fun k i=>if i<k then netP (g.ports.getD i [])else 0
 refine ybe (σ:=Nat) (fun k=>⟨[(15,.i .i64 k),(14,.i .i64 n),(13,yu g.ports),(3,.os (11,0) 0 n true)],
  [(11,.one (some ⟨40,false,1,n,fun i=>[.i .u32 (val k i:Nat)]⟩))]⟩) (fun k=>k<=n) (fun k=>n - k) 0 (Nat.zero_le _) ?_ ?_
 ·refine yg [] [] [] ?_;simp only[yu,hn,allQ,live,yc,yw,Int.natCast_zero,go_sem,Nat.reduceEqDiff,↓reduceIte,reduceCtorEq];simp[val]
 ·intro k hk;obtain⟨L,hL⟩:∃ L,g.ports.getD k []=L:=⟨_,rfl⟩;simp only[ycju,ycdy,ycnl,yu,yba,hn,hL,go_sem,Nat.reduceEqDiff,Nat.reduceAdd,↓reduceIte,reduceCtorEq];refine⟨fun hlt=>?_,fun hlt=>?_⟩
  ·have hk':k<n:=by omega
   have hkp:k<g.ports.length:=by omega
   have hlk:∀ l ∈ L,0<=l.1/\l.1<24:=fun l hl=>by
    rw[<- hL,getD_at hkp]at hl;obtain⟨a1,a2,_⟩:=(hg.2.2.2.2.2.1 ⟨k,hkp⟩).1 l hl;exact⟨a1,by omega⟩
   have hdeg:=hg.deg_lt (v:=k);rw[hL]at hdeg;refine⟨by omega,?_⟩
   obtain⟨m,hm⟩:∃ m,L.length=m:=⟨_,rfl⟩;rw[hm]
   let val2:Nat->Nat->Nat:=fun j i=>if i<k then netP (g.ports.getD i [])else if i=k then netP (L.take j)else 0
   refine ybe (σ:=Nat) (fun j=>⟨[(22,.i .i64 j),(21,.i .i64 m),(20,yba L),(4,.i .i64 k),(15,.i .i64 k),(14,.i .i64 n),(13,yu g.ports),(3,.os (11,0) 0 n true)],
    [(11,.one (some ⟨40,false,1,n,fun i=>[.i .u32 (val2 j i:Nat)]⟩))]⟩) (fun j=>j<=m) (fun j=>m - j) 0 (Nat.zero_le _) ?_ ?_
   ·refine yg [] [] [] ?_;simp only[yu,yba,hn,hm,allQ,live,yc,yw,Int.natCast_zero,go_sem,Nat.reduceEqDiff,↓reduceIte,reduceCtorEq];intro i hi;simp only[val,val2]
    by_cases q:i<k
    ·rw[if_pos q,if_pos q]
    ·rw[if_neg q,if_neg q]
     by_cases q2:i=k
     ·rw[if_pos q2];rfl
     ·rw[if_neg q2]
   ·intro j hj;obtain⟨l,hl⟩:∃ l,L.getD j (0,0)=l:=⟨_,rfl⟩;simp only[ycnk,ycnq,yu,yba,hn,hm,hl,go_sem,Nat.reduceEqDiff,Nat.reduceAdd,Nat.reduceLT,↓reduceIte,reduceCtorEq];refine⟨fun hlj=>⟨by omega,?_⟩,fun hlj=>?_⟩
    ·have hj':j<L.length:=by omega
     have hl2:=hlk l (by rw[<- hl,getD_at hj'];exact List.getElem_mem _)
     obtain⟨t,ht⟩:∃ t:Nat,l.1=t:=⟨l.1.toNat,by omega⟩
     have h24t:t<24:=by omega
     have hval:val2 j k<2 ^ 24:=by
      simp only[val2,if_neg (Nat.lt_irrefl k),if_true];exact ycuy _ fun l hl=>(hlk l (List.mem_of_mem_take hl)).2
     have hp:2 ^ t<2 ^ 24:=Nat.pow_lt_pow_right (by omega) h24t
     have hsh:=yke (v:=t) (by omega)
     have hor:=u32_or (a:=val2 j k) (b:=2 ^ t) (by omega) (by omega)
     rw[Int.toNat_natCast]at hsh;simp only[IntKind.bits]at hor;simp only[yciz,ht,clash,hsh,hor,go_sem,Nat.reduceEqDiff,Nat.reduceAdd,Nat.reduceLeDiff,↓reduceIte,reduceCtorEq];refine⟨by omega,by omega,⟨by omega,by show _<((32:Nat):Int);omega⟩,by omega,by omega,by decide,?_⟩
     simp only[ycoc,go_sem,Nat.reduceEqDiff,Nat.reduceAdd,↓reduceIte,reduceCtorEq];refine⟨ikw (by omega) (by omega),?_⟩
     refine yh (j+1) (by omega) (by omega) ?_
     refine yg [] [] [] ?_;simp only[allQ,live,yc,yw,go_sem,Nat.reduceEqDiff,↓reduceIte,reduceCtorEq];refine⟨by omega,fun i hi=>?_⟩
     have hsn:=ybqi L j hj';rw[hl,ht,Int.toNat_natCast]at hsn
     by_cases q:i=k
     ·simp only[if_pos q];subst q;simp only[go_sem,live,yw,go_sem,reduceCtorEq];simp only[val2,if_neg (Nat.lt_irrefl i),if_true,hsn]
     ·simp only[if_neg q];simp only[go_sem,live,yw,go_sem,reduceCtorEq];simp only[val2,if_neg q]
    ·obtain rfl:j=m:=by omega
     simp only[ybmo,go_sem,Nat.reduceEqDiff,Nat.reduceAdd,↓reduceIte,reduceCtorEq];refine⟨ikw (by omega) (by omega),?_⟩
     refine yh (k+1) (by omega) (by omega) ?_
     refine yg [] [] [] ?_;simp only[allQ,live,yc,yw,go_sem,Nat.reduceEqDiff,↓reduceIte,reduceCtorEq];refine⟨by omega,fun i hi=>?_⟩
     simp only[val,val2]
     by_cases q:i<k
     ·rw[if_pos q,if_pos (by omega)]
     ·rw[if_neg q]
      by_cases q2:i=k
      ·rw[if_pos q2,if_pos (by omega),q2,hL,<- hm,List.take_length]
      ·rw[if_neg q2,if_neg (by omega)]
  ·obtain rfl:k=n:=by omega
   simp only[ybsb,go_sem,Nat.reduceEqDiff,Nat.reduceAdd,↓reduceIte,reduceCtorEq];unfold usV;rw[List.length_map,hn];refine sim_sl fun i hi=>?_;have hi':i<g.ports.length:=by omega
   simp only[val,if_pos hi];simp[List.getD,hi']
theorem ybav(net:SV){e s:Nat}(he:e<2 ^ 24)(h0:s ≠ 0)(hs:s<2 ^ 24)(hsub:difB s e=0):Returns Tryz.prog 196 [net,.i .i64 3,.i .u32 e,.i .u32 s] (.b true):=by
 refine Returns.of (ybts _ _ ?_);have z0:((s:Int) == 0)=false:=by simp;omega
 have a0:=u32_andNot (a:=s) (b:=e) (by omega) (by omega)
 rw[hsub]at a0;simp only[Int.natCast_zero,IntKind.bits]at a0;simp only[c196,ybro,ybwc,z0,a0,Int.reduceBNe,go_sem,Nat.reduceEqDiff,Nat.reduceAdd,↓reduceIte,reduceCtorEq];simp only[ybuu,ybul,ybvj,ybwa,ybfm,Int.reduceBEq,sim_b,go_sem,Nat.reduceEqDiff,Nat.reduceAdd,↓reduceIte,reduceCtorEq]
theorem ybac(net:SV){e:Nat}(he:e<2 ^ 24)(h0:e ≠ 0):Returns Tryz.prog 196 [net,.i .i64 4,.i .u32 e,.i .u32 e] (.b true):=by
 refine Returns.of (ybts _ _ ?_);have z0:((e:Int) == 0)=false:=by simp;omega
 have hd:difB e e=0:=by unfold difB;simp
 have a0:=u32_andNot (a:=e) (b:=e) (by omega) (by omega)
 rw[hd]at a0;simp only[Int.natCast_zero,IntKind.bits]at a0;simp only[c196,ybro,ybwc,z0,a0,Int.reduceBNe,go_sem,Nat.reduceEqDiff,Nat.reduceAdd,↓reduceIte,reduceCtorEq];simp only[ybuu,ybul,ybvj,ybwa,ycgy,ybfm,Int.reduceBEq,sim_b,go_sem,Nat.reduceEqDiff,Nat.reduceAdd,↓reduceIte,reduceCtorEq]
theorem yyu(net:SV)(hn:net.cells.all one1=true){e w:Nat}(he:e<2 ^ 24)(h0:e ≠ 0)(hw:w<2 ^ 32):Returns Tryz.prog 111 [net,.i .i64 3,.i .u32 e,.i .u32 w] (.i .u32 (resD e w)):=by
 refine Returns.of (yvn _ _ ?_);have a0:=u32_and (a:=w) (b:=e) (by omega) (by omega)
 have a1:=u32_neg (a:=e) (by omega) (by omega)
 have a2:=u32_and (a:=e) (b:=2 ^ 32 - e) (by omega) (by omega)
 obtain⟨W,hW⟩:∃ W,w &&& e=W:=⟨_,rfl⟩;rw[hW]at a0;simp only[IntKind.bits]at a0 a2;simp only[c111,yzf,ybbl,yyd,a0,hn,go_sem,Nat.reduceEqDiff,Nat.reduceAdd,Nat.reduceLT,↓reduceIte,reduceCtorEq];have hWl:W<2 ^ 24:=by rw[<- hW,Nat.and_comm];exact ychw he
 refine⟨fun q=>?_,fun q=>?_⟩
 ·have q0:W=0:=by omega
  have er:resD e w=e &&& (2 ^ 32 - e):=by unfold resD;rw[if_pos (by rw[hW];exact q0)];rfl
  rw[er];simp only[ybaa,yqp,yrn,ysj,yju,yvp,IntKind.signed,a1,a2,Int.reduceBEq,go_sem,Nat.reduceEqDiff,Nat.reduceAdd,↓reduceIte,reduceCtorEq];exact Sim.refl _
 ·have q0:¬ W=0:=by omega
  have er:resD e w=W:=by unfold resD;rw[if_neg (by rw[hW];exact q0),hW]
  rw[er];simp only[yqp,yrn,ysj,yju,yvp,Int.reduceBEq,go_sem,Nat.reduceEqDiff,Nat.reduceAdd,↓reduceIte,reduceCtorEq];exact Sim.refl _
theorem ybal(net:SV)(hn:net.cells.all one1=true){e w:Nat}(he:e<2 ^ 24)(h0:e ≠ 0)(hw:w<2 ^ 32):Returns Tryz.prog 111 [net,.i .i64 4,.i .u32 e,.i .u32 w] (.i .u32 e):=by
 refine Returns.of (yvn _ _ ?_);have a0:=u32_and (a:=w) (b:=e) (by omega) (by omega)
 have a1:=u32_neg (a:=e) (by omega) (by omega)
 have a2:=u32_and (a:=e) (b:=2 ^ 32 - e) (by omega) (by omega)
 obtain⟨W,hW⟩:∃ W,w &&& e=W:=⟨_,rfl⟩;rw[hW]at a0;simp only[IntKind.bits]at a0 a2;simp only[c111,yzf,ybbl,yyd,a0,hn,go_sem,Nat.reduceEqDiff,Nat.reduceAdd,Nat.reduceLT,↓reduceIte,reduceCtorEq];refine⟨fun q=>?_,fun q=>?_⟩
 ·simp only[ybaa,yqp,yrn,ysj,yju,yvr,IntKind.signed,a1,a2,Int.reduceBEq,go_sem,Nat.reduceEqDiff,Nat.reduceAdd,↓reduceIte,reduceCtorEq];exact Sim.refl _
 ·simp only[yqp,yrn,ysj,yju,yvr,Int.reduceBEq,go_sem,Nat.reduceEqDiff,Nat.reduceAdd,↓reduceIte,reduceCtorEq];exact Sim.refl _
end Sh
end Go.Proofs.YtiejahgklcjhkaaGreatDoor

