/- Joined. -/
import Derived.Test.YtiejahgklcjhkaaGreatPkY4
set_option linter.unusedSimpArgs false
set_option linter.unusedVariables false
open Bool renaming and_eq_true→zA,not_eq_true'→zF
open Nat renaming le_trans→zB,lt_of_lt_of_le→zC,le_refl→zI,add_mul→zL,ble_eq_true_of_le→zM,mul_le_mul_right→zO,beq→zQ,add_assoc→zS,min→zT,ble→zU,le_min→zV
open List renaming mem_cons_self→zD,all_cons→zG,mem_cons_of_mem→zH,elem→zK
open Classical renaming choose→zJ,choose_spec→zN
open Go
namespace Go.Proofs.YtiejahgklcjhkaaGreat
section
namespace Sh
open Go Ev
def placeOf(P:Program):TypeDesc->Option (Nat->Option (Nat×Nat))
 | .struct fs=>match placesA P fs.toList with
   |some pl=>some fun k=>pl[k]?
   |none=>none
 | .array _ e=>match P.info? e with
   |some j=>some fun k=>some (k*j.size,j.size)
   |none=>none
 |_=>none
def partsOf(place:Nat->Option (Nat×Nat))(ps:List (Nat×Operand)):Option (List (Nat×Nat×Operand)):=ps.mapM fun p=>(place p.1).map fun q=>(q.1,q.2,p.2)
noncomputable def ytx(P:Program)(t:TypeId)(z:List Value):TypeDesc->SOp
 | .array n e=>match P.info? e with
   | some j=>(match zeroA j with
     |some zj=>if eqL1 z (repl n zj)then .alloc t n (zj.map ofV)else .alloc t 1 (z.map ofV)
     |none=>.alloc t 1 (z.map ofV))
   |none=>.alloc t 1 (z.map ofV)
 |_=>.alloc t 1 (z.map ofV)
noncomputable def yuh(z:List Value)(ps:List (Nat×Operand))(pl:Nat->Option (Nat×Nat)):Option SOp:=match partsOf pl ps with
 |some qs=>some (.build (z.map ofV) qs)
 |none=>none
noncomputable def ynw(n e:Nat)(ps:List (Nat×Operand))(i:TypeInfo)(z:List Value):Option SOp :=
 if n*i.size<=10000/\n<=10000 then(match partsOf (fun k=>some (k*i.size,i.size)) ps with
  |some qs=>some (.bslice e i.size n ((repl n z).map ofV) qs)
  |none=>none)else none
noncomputable def callOf(P:Program):Callee->List Operand->List TypeId->Option SOp
 |.value f,xs,_=>some (.call f xs)
 | .builtin .len,[x],[t]=>match P.underlying t with
   |some (.slice _)=>some (.len x)
   |_=>none
 | .builtin .append,[x,y],[t,u]=>if t=u then(match P.underlying t with
   | some (.slice e)=>(match P.info? e with
     |some i=>if (zeroA i).isSome/\i.bytes<=100000000/\i.size≠0 then some (.app e i.size i.bytes x y)else none
     |none=>none)
   |_=>none)else none
 |.builtin .max,[x,y],_=>some (.mm true x y)
 |.builtin .min,[x,y],_=>some (.mm false x y)
 |_,_,_=>none
def yckk:BinOp->Operand->Operand->Bool
 |.sub,.tmp k,.const (.int .i64 (.ofNat n))=>zQ n 1&&zQ k 11
 |.add,.tmp k,.tmp j=>zQ k 50&&zQ j 51
 |_,_,_=>false
theorem ybuo{op:BinOp}{x y:Operand}(h:yckk op x y=true):op = .sub\/op = .add:=by
 unfold yckk at h;split at h
 ·exact .inl rfl
 ·exact .inr rfl
 ·cases h
def ybtq(op:BinOp)(x y:Operand):SOp:=match op with
 |.add=>.wadd x y
 |_=>.wsub x y
noncomputable def yblt(P:Program)(t:TypeId)(ne:Bool)(n:Nat)(e:TypeId)(x y:Operand):SOp :=
 match P.info? e with
 | some i=>if i.size=1/\P.eqGuardType P.depth t=false then(match fsK P 0 (arrF e n)with
   |some ks=>.seq ne ks x y
   |none=>.no)else .no
 |none=>.no
noncomputable def ybry(P:Program)(op:BinOp)(t:TypeId)(x y:Operand):SOp:=if yckk op x y=true then ybtq op x y else match op,P.underlying t with
 |.eql,some .bool=>.beq false x y
 |.neq,some .bool=>.beq true x y
 | .eql,some (.struct fa)=>(match fsK P 0 fa.toList with
   |some ks=>if P.eqGuardType P.depth t=false/\P.stoodInHeld t=false then .seq false ks x y else .no
   |none=>.no)
 | .neq,some (.struct fa)=>(match fsK P 0 fa.toList with
   |some ks=>if P.eqGuardType P.depth t=false/\P.stoodInHeld t=false then .seq true ks x y else .no
   |none=>.no)
 |.eql,some (.array n e)=>yblt P t false n e x y
 |.neq,some (.array n e)=>yblt P t true n e x y
 |op,_=>.bin op x y
noncomputable def res(P:Program):Op->Option SOp
 |.move x=>some (.mv x)
 |.assign x=>some (.mv x)
 |.pick c a b=>some (.pick c a b)
 |.alloc t=>(P.info? t).bind fun i=>(zeroA i).bind fun z=>(P.underlying t).bind fun d=>some (ytx P t z d)
 |.box t x=>some (.box t x)
 |.build t parts=>(P.info? t).bind fun i=>(zeroA i).bind fun z=>(P.underlying t).bind fun d=>(placeOf P d).bind fun pl=>yuh z parts.toList pl
 | .buildSlice t n parts=>(P.underlying t).bind fun
   |.slice e=>(P.info? e).bind fun i=>(zeroA i).bind fun z=>ynw n e parts.toList i z
   |_=>none
 |.load t x=>(P.underlying t).bind fun d=>(P.info? t).bind fun i=>some (.load (isAggD d) i.size x)
 |.store t x y=>(P.info? t).bind fun i=>some (.store i.size x y)
 |.nilCheck x=>some (.nilck x)
 | .fieldAddr t x k=>(P.underlying t).bind fun
   |.struct fs=>fs[k]?.bind fun fd=>(P.info? fd.type).bind fun i=>if i.size=0 then none else some (.faddr fd.offset i.size x)
   |_=>none
 | .field t x k=>(P.underlying t).bind fun
   |.struct fs=>fs[k]?.bind fun fd=>(P.info? fd.type).bind fun i=>(P.underlying fd.type).bind fun d=>some (.field (isAggD d) fd.offset i.size x)
   |_=>none
 | .indexAddr t x y=>(P.underlying t).bind fun
   |.slice e=>(P.info? e).bind fun i=>some (.idx i.size x y)
   |.array n e=>(P.info? e).bind fun i=>some (.idxA n i.size x y)
   |_=>none
 | .index t (.const (.string b)) k=>(P.underlying t).bind fun
   |.string=>some (.stri (b.data.toList.map UInt8.toNat) k)
   |_=>none
 |.extract x k=>some (.extract x k)
 |.makeFunc (.func g) a b=>some (.mkfn g a.toList b.toList)
 | .makeSlice t x y=>(P.underlying t).bind fun
   |.slice e=>(P.info? e).bind fun i=>(zeroA i).bind fun z=>some (.mk e i.size i.bytes (z.map ofV) x y)
   |_=>none
 | .slice t x lo hi none=>(P.underlying t).bind fun
   |.slice e=>(P.info? e).bind fun i=>some (.cut i.size x lo hi)
   |.array n e=>(P.info? e).bind fun i=>some (.cutA n i.size x lo hi)
   |_=>none
 |.binOp op t x y _=>some (ybry P op t x y)
 |.unOp op _ x=>some (.un op x)
 | .convert src dst x=>(P.underlying src).bind fun _=>(P.underlying dst).bind fun
   |.int k=>some (.conv k x)
   |_=>none
 |.call c=>callOf P c.callee c.args.toList c.argTypes.toList
 |_=>none
section
variable {P:Program}{lo:Nat}{F:AM}{ω:Om}{s:SS}{f:Fr}{m:Mem}{o:Oper}
theorem bind_some{α β:Type}{x:Option α}{k:α->Option β}{r:β}(h:x.bind k=some r):∃a,x=some a/\k a=some r:=by
 cases x with
 |none=>cases h
 |some a=>exact⟨a,rfl,h⟩
theorem yciz(hc:Conc lo F ω s f m){t:TypeId}{i:TypeInfo}{z:List Value}{d:TypeDesc}(hop:o.op = .alloc t)(hi:P.info? t=some i)(hz:zeroA i=some z){r:XR}(hx:xOp s o.dst (ytx P t z d)=some r):OpS P lo F ω f m o r:=by
 have one:∀{r:XR},xOp s o.dst (.alloc t 1 (z.map ofV))=some r->OpS P lo F ω f m o r:=by
  intro r hx;simp only[xOp]at hx;split at hx
  ·rename_i β hd
   split at hx
   ·rename_i hn
    cases hx
    exact yboc hc hop hi hz (n:=1) (zj:=z) (by simp[ygw,ypk]) (yew hz).1 hn
   ·cases hx
  ·cases hx
 unfold ytx at hx;split at hx
 ·split at hx
  ·split at hx
   ·rename_i hzj
    split at hx
    ·rename_i he
     simp only[xOp]at hx;split at hx
     ·split at hx
      ·rename_i hn
       cases hx
       exact yboc hc hop hi hz (yma he) (yew hzj).1 hn
      ·cases hx
     ·cases hx
    ·exact one hx
   ·exact one hx
  ·exact one hx
 ·exact one hx
theorem ycjx (hc:Conc lo F ω s f m) {t:TypeId}{parts:Array (Nat×Operand)}{i:TypeInfo}{z:List Value}{d:TypeDesc}{pl:Nat->Option (Nat×Nat)}{sop:SOp}(hop:o.op = .build t parts) (hi:P.info? t=some i) (hz:zeroA i=some z) (hd:P.underlying t=some d) (hp:placeOf P d=some pl)
 (hb:yuh z parts.toList pl=some sop) {r:XR}(hx:xOp s o.dst sop=some r):OpS P lo F ω f m o r:=by
 unfold yuh at hb;split at hb
 ·rename_i qs hq
  cases hb
  simp only[xOp]at hx;split at hx
  ·rename_i l hl
   cases hx
   refine ycfq hc hop hi hz hd (place:=pl) ?_ hq hl;unfold placeOf at hp;split at hp
   ·split at hp
    ·rename_i pl' h1;cases hp;exact .inl ⟨_,pl',rfl,h1,rfl⟩
    ·cases hp
   ·split at hp
    ·rename_i j h1;cases hp;exact .inr ⟨_,_,j,rfl,h1,rfl⟩
    ·cases hp
   ·cases hp
  ·cases hx
 ·cases hb
theorem ybur (hc:Conc lo F ω s f m) {t e n:Nat}{parts:Array (Nat×Operand)}{i:TypeInfo}{z:List Value}{sop:SOp}(hop:o.op = .buildSlice t n parts) (hd:P.underlying t=some (.slice e)) (hi:P.info? e=some i) (hz:zeroA i=some z)
 (hb:ynw n e parts.toList i z=some sop) {r:XR}(hx:xOp s o.dst sop=some r):OpS P lo F ω f m o r:=by
 unfold ynw at hb;split at hb
 ·rename_i hle
  split at hb
  ·rename_i qs hq
   cases hb
   simp only[xOp]at hx;split at hx
   ·rename_i β l hdst hl
    split at hx
    ·rename_i hn
     cases hx
     exact ybst hc hop hd hi hz hle.1 hle.2 hq hl hn
    ·cases hx
   ·cases hx
  ·cases hb
 ·cases hb
theorem yctj (hc:Conc lo F ω s f m) {t e:Nat}{x y:Operand}{i:TypeInfo}(hop:o.op = .call { callee:=.builtin .append,args:=#[x,y],argTypes:=#[t,t] }) (hd:P.underlying t=some (.slice e)) (hi:P.info? e=some i) (hz:(zeroA i).isSome/\i.bytes<=100000000/\i.size≠0)
 {r:XR}(hx:xOp s o.dst (.app e i.size i.bytes x y)=some r) (hr:r.c):OpS P lo F ω f m o r:=by
 obtain⟨zv,hzv⟩:=Option.isSome_iff_exists.1 hz.1;simp only[xOp]at hx;split at hx
 ·rename_i β v w hdst hv hw
  split at hx
  ·rename_i q hq
   split at hx
   ·rename_i hn
    split at hx
    ·rename_i hq0
     split at hx
     ·cases hx
      exact ycaw hc hop hd hi hzv hz.2.1 hv hw hq hq0 (.inl rfl)
     ·cases hx
      obtain⟨c1,c2,c3⟩:=hr;exact ycaw hc hop hd hi hzv hz.2.1 hv hw hq hq0 (.inr ⟨_,_,_,rfl,c2,c3⟩)
     ·cases hx
    split at hx
    ·cases hx
     obtain⟨c1,c2,c3,c4⟩:=hr;exact yclo hc hop hd hi hzv hz.2.1 hz.2.2 hv hw hq c1 hn c2 (.inl ⟨rfl,c3,c4,rfl⟩)
    ·rename_i γ p n
     split at hx
     ·rename_i b hb
      split at hx
      ·rename_i hbb
       cases hx
       obtain⟨c1,c2,c3,c4,c5⟩:=hr;exact yclo hc hop hd hi hzv hz.2.1 hz.2.2 hv hw hq c1 hn c3 (.inr ⟨γ,p,n,b,rfl,hb,hbb.1,hbb.2.1,hbb.2.2,c2,c4,c5,rfl⟩)
      ·cases hx
     ·cases hx
    ·cases hx
   ·cases hx
  ·cases hx
 ·cases hx
theorem arr2{x y:Operand}{a:Array Operand}(h:a.toList=[x,y]):a = #[x,y]:=by apply Array.toList_inj.1;simpa using h
theorem ycmj(hc:Conc lo F ω s f m){cl:Callee}{args:Array Operand}{ats:Array TypeId}{sop:SOp}(hop:o.op = .call { callee:=cl,args:=args,argTypes:=ats })(hb:callOf P cl args.toList ats.toList=some sop){r:XR}(hx:xOp s o.dst sop=some r)(hr:r.c):OpS P lo F ω f m o r:=by
 unfold callOf at hb;split at hb
 ·cases hb;simp only[xOp]at hx;cases hx
 ·rename_i x t ha ht
  have e1:args = #[x]:=by apply Array.toList_inj.1;simpa using ha
  have e2:ats = #[t]:=by apply Array.toList_inj.1;simpa using ht
  subst e1 e2;split at hb
  ·rename_i hd
   cases hb
   simp only[xOp]at hx;split at hx
   ·rename_i h;cases hx;exact ychz hc hop hd h (.inl ⟨_,_,rfl⟩)
   ·rename_i h;cases hx;exact ychz hc hop hd h (.inr (.inl ⟨_,_,_,rfl⟩))
   ·rename_i h;cases hx;exact ychz hc hop hd h (n:=0) (.inr (.inr ⟨rfl,rfl⟩))
   ·cases hx
  ·cases hb
 ·rename_i x y t u ha ht
  have e1:=arr2 ha;have e2:ats = #[t,u]:=by apply Array.toList_inj.1;simpa using ht
  subst e1 e2;split at hb
  ·rename_i htu
   subst htu;split at hb
   ·rename_i hd
    split at hb
    ·rename_i hi
     split at hb
     ·rename_i hz
      cases hb
      exact yctj hc hop hd hi hz hx hr
     ·cases hb
    ·cases hb
   ·cases hb
  ·cases hb
 ·rename_i x y ha
  have e1:=arr2 ha;subst e1;cases hb
  simp only[xOp]at hx;split at hx
  ·rename_i h1 h2
   split at hx
   ·rename_i hk;subst hk;cases hx
    exact s_mm hc (mx:=true) hop h1 h2
   ·cases hx
  ·cases hx
 ·rename_i x y ha
  have e1:=arr2 ha;subst e1;cases hb
  simp only[xOp]at hx;split at hx
  ·rename_i h1 h2
   split at hx
   ·rename_i hk;subst hk;cases hx
    exact s_mm hc (mx:=false) hop h1 h2
   ·cases hx
  ·cases hx
 ·cases hb
theorem yye(hc:Conc lo F ω s f m){sop:SOp}(hres:res P o.op=some sop){r:XR}(hx:xOp s o.dst sop=some r)(hr:r.c):OpS P lo F ω f m o r:=by
 unfold res at hres;split at hres
 ·rename_i hop;cases hres;simp only[xOp]at hx;split at hx
  ·rename_i h;cases hx;exact s_mv hc (.inl hop) h
  ·cases hx
 ·rename_i hop;cases hres;simp only[xOp]at hx;split at hx
  ·rename_i h;cases hx;exact s_mv hc (.inr hop) h
  ·cases hx
 ·rename_i hop;cases hres;simp only[xOp]at hx;split at hx
  ·rename_i h
   split at hx
   ·rename_i h2;cases hx;exact ycrc hc hop h h2
   ·cases hx
  ·cases hx
 ·rename_i hop
  obtain⟨i,h1,hres⟩:=bind_some hres;obtain⟨z,h2,hres⟩:=bind_some hres;obtain⟨d,h3,hres⟩:=bind_some hres;cases hres
  exact yciz hc hop h1 h2 hx
 ·rename_i hop;cases hres;simp only[xOp]at hx;split at hx
  ·rename_i h1 h2
   split at hx
   ·rename_i h3;cases hx;exact yctq hc hop h2 h3.1 h3.2
   ·cases hx
  ·cases hx
 ·rename_i hop
  obtain⟨i,h1,hres⟩:=bind_some hres;obtain⟨z,h2,hres⟩:=bind_some hres;obtain⟨d,h3,hres⟩:=bind_some hres;obtain⟨pl,h4,hres⟩:=bind_some hres;exact ycjx hc hop h1 h2 h3 h4 hres hx
 ·rename_i hop
  obtain⟨d,h1,hres⟩:=bind_some hres;split at hres
  ·obtain⟨i,h2,hres⟩:=bind_some hres;obtain⟨z,h3,hres⟩:=bind_some hres;exact ybur hc hop h1 h2 h3 hres hx
  ·cases hres
 ·rename_i hop
  obtain⟨d,h1,hres⟩:=bind_some hres;obtain⟨i,h2,hres⟩:=bind_some hres;cases hres;simp only[xOp]at hx;split at hx
  ·rename_i h;exact ybxl hc hop h1 h2 h hx hr
  ·cases hx
 ·rename_i hop
  obtain⟨i,h2,hres⟩:=bind_some hres;cases hres;simp only[xOp]at hx;split at hx
  ·rename_i h h';exact ycgs hc hop h2 h h' hx hr
  ·cases hx
 ·rename_i hop;cases hres;simp only[xOp]at hx;split at hx
  ·rename_i h;cases hx;exact ybkr hc hop h (.inl ⟨_,rfl⟩)
  ·rename_i h;cases hx;exact ybkr hc hop h (.inr ⟨_,_,_,rfl⟩)
  ·cases hx
 ·rename_i hop
  obtain⟨d,h1,hres⟩:=bind_some hres;split at hres
  ·obtain⟨fd,h2,hres⟩:=bind_some hres;obtain⟨i,h3,hres⟩:=bind_some hres;split at hres
   ·cases hres
   ·rename_i h0
    cases hres;simp only[xOp]at hx;split at hx
    ·rename_i h
     split at hx
     ·rename_i hl;cases hx;exact ybmq hc hop h1 h2 h3 h0 h (.inl ⟨_,rfl,hl,rfl⟩)
     ·cases hx
    ·rename_i h;cases hx;exact ybmq hc hop h1 h2 h3 h0 h (.inr ⟨_,_,_,rfl,rfl⟩)
    ·cases hx
  ·cases hres
 ·rename_i hop
  obtain⟨d,h1,hres⟩:=bind_some hres;split at hres
  ·obtain⟨fd,h2,hres⟩:=bind_some hres;obtain⟨i,h3,hres⟩:=bind_some hres;obtain⟨d',h4,hres⟩:=bind_some hres;cases hres;simp only[xOp]at hx;split at hx
   ·rename_i h
    split at hx
    ·rename_i hl;cases hx;exact ychh hc hop h1 h2 h3 h4 h hl
    ·cases hx
   ·cases hx
  ·cases hres
 ·rename_i hop
  obtain⟨d,h1,hres⟩:=bind_some hres;split at hres
  ·obtain⟨i,h2,hres⟩:=bind_some hres;cases hres;simp only[xOp]at hx;split at hx
   ·rename_i h h';exact yctv hc hop h1 h2 h h' hx hr
   ·cases hx
  ·obtain⟨i,h2,hres⟩:=bind_some hres;cases hres;simp only[xOp]at hx;split at hx
   ·rename_i h h'
    split at hx
    ·rename_i b hb
     split at hx
     ·rename_i hbb;cases hx;exact yboy hc hop h1 h2 h h' hr (.inl ⟨_,b,_,_,rfl,hb,hbb,rfl⟩)
     ·cases hx;exact yboy hc hop h1 h2 h h' hr (.inr (.inl ⟨_,_,_,rfl,rfl⟩))
    ·cases hx
   ·rename_i h h';cases hx;exact yboy hc hop h1 h2 h h' ⟨hr.1,hr.2.1⟩ (.inr (.inr ⟨_,rfl,hr.2.2,rfl⟩))
   ·cases hx
  ·cases hres
 ·rename_i hop
  obtain⟨d,h1,hres⟩:=bind_some hres;split at hres
  ·cases hres;simp only[xOp]at hx;split at hx
   ·rename_i h;cases hx;exact ycrs hc hop h1 h hr
   ·cases hx
  ·cases hres
 ·rename_i hop;cases hres;simp only[xOp]at hx;split at hx
  ·rename_i h
   split at hx
   ·rename_i h2;cases hx;exact ybid hc hop h h2
   ·cases hx
  ·cases hx
 ·rename_i hop;cases hres;simp only[xOp]at hx;split at hx
  ·rename_i h h';cases hx;exact ycpu hc hop h h'
  ·cases hx
 ·rename_i hop
  obtain⟨d,h1,hres⟩:=bind_some hres;split at hres
  ·obtain⟨i,h2,hres⟩:=bind_some hres;obtain⟨z,h3,hres⟩:=bind_some hres;cases hres;simp only[xOp]at hx;split at hx
   ·rename_i β k n k' n' hd h h'
    split at hx
    ·rename_i hn;cases hx
     obtain⟨rfl,c1,c2,c3⟩:=hr;exact s_mk hc hop h1 h2 h3 h h' c1 c2 c3 hn
    ·cases hx
   ·cases hx
  ·cases hres
 ·rename_i hop
  obtain⟨d,h1,hres⟩:=bind_some hres;split at hres
  ·obtain⟨i,h2,hres⟩:=bind_some hres;cases hres;simp only[xOp]at hx;split at hx
   ·rename_i h
    split at hx
    ·rename_i h3 h4
     split at hx
     ·rename_i hz;subst hz;cases hx;exact ycmy hc hop h1 h2 h (.inl ⟨_,_,rfl,h3,h4,hr,rfl⟩)
     ·cases hx
    ·cases hx
   ·rename_i h
    split at hx
    ·rename_i h3 h4 h5
     split at hx
     ·rename_i hz;cases hx;exact ycmy hc hop h1 h2 h (.inr ⟨_,_,_,_,_,rfl,h5,hz.1,hz.2,h3,h4,hr,rfl⟩)
     ·cases hx
    ·cases hx
   ·cases hx
  ·obtain⟨i,h2,hres⟩:=bind_some hres;cases hres;simp only[xOp]at hx;split at hx
   ·rename_i h
    split at hx
    ·rename_i h3 h4 h5
     split at hx
     ·rename_i hz;cases hx;exact ycmb hc hop h1 h2 h h5 hz.2.1 hz.2.2 h3 h4 hr
     ·cases hx
    ·cases hx
   ·cases hx
  ·cases hres
 ·rename_i op t x y yt hop
  replace hres:=Option.some.inj hres
  have plain:sop = .bin op x y->OpS P lo F ω f m o r:=by
   rintro rfl;simp only[xOp]at hx;split at hx
   ·rename_i h h'
    unfold ybfi at hx;split at hx
    ·rename_i h2;cases hx;exact ycum hc hop h h' h2 hr
    ·cases hx
   ·cases hx
  unfold ybry at hres;split at hres
  ·rename_i hw
   rcases ybuo hw with rfl|rfl
   ·subst hres;simp only[ybtq,xOp]at hx;split at hx
    ·rename_i h1 h2
     split at hx
     ·rename_i hk;subst hk;cases hx;exact ycnb hc hop h1 h2
     ·cases hx
    ·cases hx
   ·subst hres;simp only[ybtq,xOp]at hx;split at hx
    ·rename_i h1 h2
     split at hx
     ·rename_i hk;subst hk;cases hx;exact ycov hc hop h1 h2
     ·cases hx
    ·cases hx
  rename_i hnw
  clear hnw
  split at hres
  ·rename_i ht
   subst hres;simp only[xOp]at hx;split at hx
   ·rename_i h1 h2;cases hx;exact ycnn hc (ne:=false) hop ht h1 h2
   ·cases hx
  ·rename_i ht
   subst hres;simp only[xOp]at hx;split at hx
   ·rename_i h1 h2;cases hx;exact ycnn hc (ne:=true) hop ht h1 h2
   ·cases hx
  ·rename_i ht
   split at hres
   ·rename_i hk
    split at hres
    ·rename_i hg
     subst hres;simp only[xOp]at hx;split at hx
     ·rename_i h1 h2
      split at hx
      ·rename_i h3;cases hx;exact ybth hc (ne:=false) hop (fun xs ys=>yhu 9999 _ xs ys ht hg.2) hk hg.1 h1 h2 h3
      ·cases hx
     ·cases hx
    ·subst hres;cases hx
   ·subst hres;cases hx
  ·rename_i ht
   split at hres
   ·rename_i hk
    split at hres
    ·rename_i hg
     subst hres;simp only[xOp]at hx;split at hx
     ·rename_i h1 h2
      split at hx
      ·rename_i h3;cases hx;exact ybth hc (ne:=true) hop (fun xs ys=>yhu 9999 _ xs ys ht hg.2) hk hg.1 h1 h2 h3
      ·cases hx
     ·cases hx
    ·subst hres;cases hx
   ·subst hres;cases hx
  ·rename_i ht
   unfold yblt at hres;split at hres
   ·rename_i hi
    split at hres
    ·rename_i hg
     split at hres
     ·rename_i hk
      subst hres;simp only[xOp]at hx;split at hx
      ·rename_i h1 h2
       split at hx
       ·rename_i h3;cases hx;exact ybth hc (ne:=false) hop (fun xs ys=>ykk 9999 _ xs ys ht hi hg.1) hk hg.2 h1 h2 h3
       ·cases hx
      ·cases hx
     ·subst hres;cases hx
    ·subst hres;cases hx
   ·subst hres;cases hx
  ·rename_i ht
   unfold yblt at hres;split at hres
   ·rename_i hi
    split at hres
    ·rename_i hg
     split at hres
     ·rename_i hk
      subst hres;simp only[xOp]at hx;split at hx
      ·rename_i h1 h2
       split at hx
       ·rename_i h3;cases hx;exact ybth hc (ne:=true) hop (fun xs ys=>ykk 9999 _ xs ys ht hi hg.1) hk hg.2 h1 h2 h3
       ·cases hx
      ·cases hx
     ·subst hres;cases hx
    ·subst hres;cases hx
   ·subst hres;cases hx
  ·exact plain hres.symm
 ·rename_i hop;cases hres;simp only[xOp]at hx;split at hx
  ·rename_i h
   unfold ybfi at hx;split at hx
   ·rename_i h2;cases hx;exact s_un hc hop h h2 hr
   ·cases hx
  ·cases hx
 ·rename_i hop
  obtain⟨d,h1,hres⟩:=bind_some hres;obtain⟨d',h2,hres⟩:=bind_some hres;split at hres
  ·cases hres;simp only[xOp]at hx;split at hx
   ·rename_i h;cases hx;exact ycno hc hop h1 h2 h
   ·cases hx
  ·cases hres
 ·rename_i c hop
  obtain⟨cl,args,ats⟩:=c;exact ycmj hc hop hres hx hr
 ·cases hres
end
end Sh
end
section
namespace Sh
open Go Ev
noncomputable def frsh(n:Nat)(m':Mem)(G:AM):AM:=fun i=>if n<=i then m'.b.get i else G i
def Ct(P:Program)(g:FuncId)(args:List SV)(Q:SV->Prop):Prop :=
 ∀ (G:AM) (m:Mem) (us:List Value),Wf m->Le G m.b.get->RVL G om0 args us ->
   ∃v m' r,ybl P (.call g us m) (.call v m')/\m.next<=m'.low/\Le m.b.get m'.b.get/\Q r/\RV (frsh m.next m' G) om0 r v
theorem Ct.mono{P:Program}{g:FuncId}{args:List SV}{Q R:SV->Prop}(h:Ct P g args Q)(hq:∀r,Q r->R r):Ct P g args R:=fun G m us h1 h2 h3=>by
 obtain⟨v,m',r,a,b,c,d,e⟩:=h G m us h1 h2 h3;exact⟨v,m',r,a,b,c,hq r d,e⟩
section
variable {P:Program}{lo:Nat}{F G:AM}{ω ψ:Om}{s:SS}{f:Fr}{m:Mem}{o:Oper}
theorem ydo{p:SV->Prop}:∀{l:List SV},allP p l->∀x∈l,p x
 | _::_,h,x,hx=>by
   rcases List.mem_cons.1 hx with q|q
   ·rw[q];exact h.1
   ·exact ydo h.2 x q
theorem RVL.of_get:∀{l:List SV}{L:List Value},RVL F ω l L->(∀v u,v∈l->RV F ω v u->RV G ψ v u)->RVL G ψ l L
 |_,_,.nil,_=>.nil
 |_,_,.cons h hl,k=>.cons (k _ _ zD h) (hl.of_get fun v u hv=>k v u (zH _ hv))
theorem RVL.map_get{k:SV->SV}:∀{l:List SV}{L:List Value},RVL F ω l L->(∀v u,v∈l->RV F ω v u->RV G ψ (k v) u)->RVL G ψ (l.map k) L
 |_,_,.nil,_=>.nil
 |_,_,.cons h hl,q=>.cons (q _ _ zD h) (hl.map_get fun v u hv=>q v u (zH _ hv))
theorem yoy:∀{n:Nat}{v:SV}{u:Value},scalar n v=true->RV F ω v u->RV G ψ v u
 |0,_,_,h,_=>by cases h
 | n+1,v,u,h,hr=>by
   cases hr with
   |i=>exact .i
   |b=>exact .b
   |a h'=>exact .a h'
   |ag hl=>exact .ag (hl.of_get fun v u hv=>yoy (List.all_eq_true.1 h v hv))
   |tp hl=>exact .tp (hl.of_get fun v u hv=>yoy (List.all_eq_true.1 h v hv))
   |_=>cases h
theorem ydp:∀{n:Nat}{v:SV}{u:Value},owned n v=false->RV F ω v u->RV F ψ v u
 |0,_,_,h,_=>by cases h
 | n + 1,v,u,h,hr=>by
   have any:∀{l:List SV},l.any (owned n)=false->∀v∈l,owned n v=false:=fun {l} h v hv=>by
    cases hq:owned n v with
    |false=>rfl
    |true=>rw[List.any_eq_true.2 ⟨v,hv,hq⟩]at h;cases h
   cases hr with
   |i=>exact .i
   |b=>exact .b
   |a h'=>exact .a h'
   |sl0 h'=>exact .sl0 h'
   |sl a1 a2 a3 a4 a5 a6 a7=>exact .sl a1 a2 a3 a4 a5 a6 a7
   |rf a1 a2 a3 a4 a5=>exact .rf a1 a2 a3 a4 a5
   |ex a1 a2 a3=>exact .ex a1 a2 a3
   |ag hl=>exact .ag (hl.of_get fun v u hv=>ydp (any h v hv))
   |tp hl=>exact .tp (hl.of_get fun v u hv=>ydp (any h v hv))
   | fn ha hb =>
     have h:(_||_)=false:=h;rw[Bool.or_eq_false_iff]at h;exact .fn (ha.of_get fun v u hv=>ydp (any h.1 v hv)) (hb.of_get fun v u hv=>ydp (any h.2 v hv))
   |_=>cases h
theorem yble{n:Nat}{v:SV}{o:Own}(h1:one1 v=true)(hv:vok o n v):one1 (view o n v)=true:=by
 cases n with
 |zero=>cases hv
 | succ n =>
   cases v with
   | pt β i j =>
     simp only[view];simp only[vok]at hv;split at hv
     ·rfl
     ·cases hv
   | os β p k c =>
     simp only[view];simp only[vok]at hv;split at hv
     ·rfl
     ·cases hv
   |_=>first|rfl|exact h1
theorem yhl{n:Nat}{o:Own}:∀{l:List SV},l.all one1=true->allP (vok o n) l->(l.map (view o n)).all one1=true
 |[],_,_=>rfl
 | x::l,h,hp=>by
   simp only[zG,zA]at h;simp only[List.map_cons,zG,zA];exact⟨yble h.1 hp.1,yhl h.2 hp.2⟩
theorem yhd(hc:Conc lo F ω s f m)(hF:Le F G)(hG:∀β k z,ω β=some (some (k,z))->∀b,m.b.get k=some b->G k=some b):∀{n:Nat}{v:SV}{u:Value},RV F ω v u->vok s.o n v->RV G om0 (view s.o n v) u
 |0,_,_,_,h=>by cases h
 | n + 1,v,u,hr,hv=>by
   cases hr with
   |i=>exact .i
   |b=>exact .b
   |a h=>exact .a h
   |sl0 h'=>exact .sl0 h'
   |sl a1 a2 a3 a4 a5 a6 a7=>exact(RV.sl a1 a2 a3 a4 a5 a6 a7:RV F om0 _ _).mono hF (Om.le_refl _)
   |rf a1 a2 a3 a4 a5=>exact(RV.rf a1 a2 a3 a4 a5:RV F om0 _ _).mono hF (Om.le_refl _)
   |ex a1 a2 a3=>exact(RV.ex a1 a2 a3:RV F om0 _ _).mono hF (Om.le_refl _)
   |ag hl=>exact .ag (hl.map_get fun v u hm hr=>yhd hc hF hG hr (ydo hv v hm))
   |tp hl=>exact .tp (hl.map_get fun v u hm hr=>yhd hc hF hG hr (ydo hv v hm))
   |fn ha hb=>exact .fn (ha.map_get fun v u hm hr=>yhd hc hF hG hr (ydo hv.1 v hm)) (hb.map_get fun v u hm hr=>yhd hc hF hG hr (ydo hv.2 v hm))
   | pt hk =>
     rename_i β i j k z
     simp only[vok]at hv;simp only[view];split at hv
     ·rename_i b hb
      obtain⟨⟨v1,v2⟩,v3⟩:=hv;obtain⟨rfl,T,L,g1,g2⟩:=hc.ownAt hb hk;obtain⟨l1,l2,l3,l4⟩:=g2 i v1;have hin:=yht (z:=b.z) v1;refine .rf (L:=(L i).drop j) (hG _ _ _ hk _ g1) (by simp;omega) (fun q hq=>?_) ((l2.drop j).map_get fun v u hm hr=>yhd hc hF hG hr (ydo v3 v hm)) (yhl (yis l3 j) v3)
      simp at hq;rw[zS,l4 _ (by omega)]
      simp
     ·cases hv
   | os hk hcu =>
     rename_i β p k ap cp q z
     simp only[vok]at hv;simp only[view];split at hv
     ·rename_i b hb
      obtain⟨v1,v2⟩:=hv;obtain⟨rfl,T,L,g1,g2⟩:=hc.ownAt hb hk;refine .sl (L:=fun a=>L (p+a)) (hG _ _ _ hk _ g1) (by cases b.bx<;>simp) ?_ (fun a ha=>(g2 (p+a) (by omega)).1) (fun a ha j hj=>?_) (fun a ha=>?_) (fun a ha=>yhl (g2 (p+a) (by omega)).2.2.1 (v2 a ha))
      ·rw[<-zL];exact zO _ v1
      ·rw[<-zL];exact(g2 (p+a) (by omega)).2.2.2 j hj
      ·exact(g2 (p+a) (by omega)).2.1.map_get fun v u hm hr=>yhd hc hF hG hr (ydo (v2 a ha) v hm)
     ·cases hv
   | os0 hk =>
     rename_i β
     simp only[vok]at hv;simp only[view];split at hv
     ·exact .sl0 (.inl rfl)
     ·cases hv
theorem Conc.only(hc:Conc lo F ω s f m):∃ft:List Nat,(∀x∈ft,x<m.next/\((∃b,F x=some b)\/∃β z,ω β=some (some (x,z))))/\Le F (m.only ft).b.get/\∀β k z,ω β=some (some (k,z))->∀b,m.b.get k=some b->(m.only ft).b.get k=some b:=by
 classical
 refine⟨(List.range m.next).filter fun x=>decide ((∃b,F x=some b)\/∃β z,ω β=some (some (x,z))),fun x hx=>?_,fun i b hb=>?_,fun β k z hk b hb=>?_⟩
 ·rw[List.mem_filter]at hx;exact⟨List.mem_range.1 hx.1,of_decide_eq_true hx.2⟩
 ·have:=hc.sub i b hb;exact ycm.2 ⟨List.mem_filter.2 ⟨List.mem_range.2 (hc.wf i b this),decide_eq_true (.inl ⟨b,hb⟩)⟩,this⟩
 ·exact ycm.2 ⟨List.mem_filter.2 ⟨List.mem_range.2 (hc.wf k b hb),decide_eq_true (.inr ⟨β,z,hk⟩)⟩,hb⟩
theorem ybl.weaken{g:FuncId}{us:List Value}{v:Value}{m':Mem}{ft:List Nat}(hw:Wf m)(h:ybl P (.call g us (m.only ft)) (.call v m')):ybl P (.call g us m) (.call v m'):=by
 intro _;obtain⟨e,h2⟩:=h (yez hw);refine⟨⟨e.next,fun i b hb=>?_,fun i b h1 h3 hb=>(ycm.1 (e.old i b h1 h3 hb)).2,e.wf⟩,fun φ M w args' hR hs ha hf=>?_⟩
 ·rcases e.dom i b hb with⟨x,hx⟩|q
  ·exact .inl ⟨x,(ycm.1 hx).2⟩
  ·exact .inr q
 ·have:=h2 φ M w args' hR (fun i b hb=>hs i b (ycm.1 hb).2) ha hf;refine this.mono ?_;rintro e w' ⟨v',rfl,φ',M',hg,hv⟩;refine⟨v',rfl,φ',M',⟨hg.le,hg.out,hg.rel,hg.sub,fun i hi hn=>hg.frame i hi (hn.imp (fun q=>?_) id),hg.wg⟩,hv⟩;cases hq:(m.only ft).b.get i with
  |none=>rfl
  |some x=>rw[(ycm.1 hq).2]at q;cases q
theorem Conc.called(hc:Conc lo F ω s f m){m':Mem}(hw:Wf m')(hn:m.next<=m'.next)(hl:m.next<=m'.low)(hF:Le F m'.b.get)(hO:∀β k z,ω β=some (some (k,z))->∀b,m.b.get k=some b->m'.b.get k=some b) :
 Conc lo (frsh m.next m' F) ω s f (backM m.low m'):=by
 have hlt:∀{i b},F i=some b->i<m.next:=fun {i b} h=>hc.wf i b (hc.sub i b h)
 have hle:Le F (frsh m.next m' F):=fun i b h=>by unfold frsh;rw[if_neg (by have:=hlt h;omega)];exact h
 rw[ycx];refine⟨hw,?_,zB hc.nxt hn,fun i b hb=>?_,fun β b hb=>?_,hc.dom,hc.inj,fun β k z hk=>?_,fun t v hv=>?_⟩
 ·show lo<=zT m.low m'.low;have:=hc.low;have:=hc.nxt;rw[zV];omega
 ·unfold frsh at hb;split at hb
  ·exact hb
  ·exact hF i b hb
 ·rcases hc.own β b hb with⟨k,T,L,h1,h0,h2,h3⟩|h
  ·exact .inl ⟨k,T,L,h1,h0,hO β k _ h1 _ h2,fun i hi=>⟨(h3 i hi).1,(h3 i hi).2.1.mono hle (Om.le_refl _),(h3 i hi).2.2⟩⟩
  ·exact .inr h
 ·obtain⟨a,b,d⟩:=hc.apart β k z hk;refine⟨?_,b,zC d hn⟩;unfold frsh;rw[if_neg (by omega)]
  exact a
 ·obtain⟨u,h1,h2⟩:=hc.fr t v hv;exact⟨u,h1,h2.mono hle (Om.le_refl _)⟩
theorem Conc.grown(hc:Conc lo F ω s f m){n:Nat}(hn:m.next<=n):Conc lo F ω s f ⟨n,m.b,m.low⟩ :=
 ⟨fun i b hb=>zC (hc.wf i b hb) hn,hc.low,zB hc.nxt hn,hc.sub,hc.own,hc.dom,hc.inj,fun β k z hk=>⟨(hc.apart β k z hk).1,(hc.apart β k z hk).2.1,zC (hc.apart β k z hk).2.2 hn⟩,hc.fr⟩
theorem ybtr (hc:Conc lo F ω s f m) {fx:Operand}{args:Array Operand}{ats:Array TypeId}(hop:o.op = .call { callee:=.value fx,args:=args,argTypes:=ats }) {g:FuncId}{a b xs:List SV}(hf:s.get fx=some (.fn g a b)) (hx:s.gets args.toList=some xs)
 {as:List SV}{Q:SV->Prop}(hct:Ct P g as Q) (has:(as=a++xs++b/\(a++xs++b).any (owned 5)=false)\/(as=(a++xs++b).map (view s.o 5)/\allP (vok s.o 5) (a++xs++b)/\∀r,Q r->scalar 5 r=true)) :
 ∃ r2 F' rv,One P f o m r2/\Q rv/\Le F F'/\RV F' ω rv r2.v/\Conc lo F' ω s f r2.m/\m.next<=r2.m.next/\r2.mods=some [] /\
   (∀x b,F' x=some b->F x=some b\/(scalar 5 rv=false/\m.next<=x)) /\
   ((scalar 5 rv=true/\∃ft,r2.foot=some ft/\∀x∈ft,x<m.next/\((∃b,F x=some b)\/∃β z,ω β=some (some (x,z))))\/(scalar 5 rv=false/\r2.foot=none)):=by
 classical
 obtain⟨uf,e1,r1⟩:=hc.get hf;obtain⟨us,e2,r2⟩:=hc.gets hx
 obtain⟨A,B,rfl,rA,rB⟩:∃A B:List Value,uf = .func (.func g) A.toArray B.toArray/\RVL F ω a A/\RVL F ω b B:=by
  cases r1 with
  |fn h1 h2=>exact⟨_,_,rfl,h1,h2⟩
 have hall:RVL F ω (a++xs++b) (A++us++B):=(rA.append r2).append rB;obtain⟨ft,k1,k2,k3⟩:=hc.only
 have hargs:∃H,Le H (m.only ft).b.get/\RVL H om0 as (A++us++B)/\((as=a++xs++b/\H=F)\/∀r,Q r->scalar 5 r=true):=by
  rcases has with⟨rfl,h⟩|⟨rfl,h1,h2⟩
  ·refine⟨F,k2,hall.of_get fun v u hv=>ydp (n:=5) ?_,.inl ⟨rfl,rfl⟩⟩;cases hq:owned 5 v with
   |false=>rfl
   |true=>rw[List.any_eq_true.2 ⟨v,hv,hq⟩]at h;cases h
  ·exact⟨(m.only ft).b.get,Le.refl _,hall.map_get fun v u hm hr=>yhd hc k2 k3 hr (ydo h1 v hm),.inr h2⟩
 obtain⟨H,hH,hA,hHF⟩:=hargs;obtain⟨v,m',r,s1,s2,s3,s4,s5⟩:=hct H (m.only ft) _ (yez hc.wf) hH hA;have hlow:m.next<=m'.low:=s2
 have hnext:m.next<=m'.next:=(s1 (yez hc.wf)).1.next
 have hwf:Wf m':=(s1 (yez hc.wf)).1.wf;cases hsc:scalar 5 r with
 | true =>
   refine⟨⟨v,⟨m'.next,m.b,m.low⟩,some ft,some []⟩,F,r,.inr ⟨fx,args,ats,g,A.toArray,B.toArray,us,v,m',ft,hop,e1,e2,by simpa using s1,hlow,rfl⟩,s4,Le.refl _,yoy hsc s5,hc.grown hnext,hnext,rfl,fun x b h=>.inl h,.inl ⟨hsc,ft,rfl,k1⟩⟩
 | false =>
   rcases hHF with⟨_,rfl⟩|q
   ·have hself:ydn P (fun t=>if t = .call g (A++us++B) m then some (.call v m')else none):=by
     intro t out h;simp only at h;split at h
     ·rename_i e;subst e;cases h;exact ybl.weaken hc.wf s1
     ·cases h
    refine⟨⟨v,backM m.low m',none,some []⟩,frsh m.next m' H,r,.inl ⟨_,hself,?_⟩,s4,fun i b h=>?_,s5.mono (Le.refl _) (ysn _),hc.called hwf hnext hlow (hH.trans s3) (fun β k z hk b hb=>s3 _ _ (k3 β k z hk b hb)),by rw[ycx];exact hnext,rfl,fun x b h=>?_,.inr ⟨hsc,rfl⟩⟩
    ·unfold evOne evOne1;rw[hop];show(ob (f.get fx) fun g=>ob (valsA f args.toList) fun vs=>evCall _ m vs g)=_;rw[e1];show(ob (valsA f args.toList) fun vs=>evCall _ m vs _)=_;rw[e2];show ob ((fun t=>if t=Task.call g (A++us++B) m then some (Out.call v m')else none) (.call g (A.toArray.toList++us++B.toArray.toList) m)) (afterCall m)=_
     simp only[if_true];show some (⟨v,backM m.low m',none,iteB (zU m.next m'.low) (some []) none⟩:R2)=_
     rw[yba,if_pos (zM hlow)]
    ·unfold frsh;rw[if_neg (by have:=hc.wf i b (hc.sub i b h);omega)]
     exact h
    ·unfold frsh at h;split at h
     ·rename_i q;exact .inr ⟨hsc,q⟩
     ·exact .inl h
   ·rw[q r s4]at hsc;cases hsc
end
end Sh
end
section
namespace Sh
open Go Ev
noncomputable def yfu{α:Type}:T α->T α->T α
 |.leaf,t=>t
 | .node v l r,t=>match t with
   |.leaf=>.node v l r
   |.node v' l' r'=>.node (match v with|some x=>some x|none=>v') (yfu l l') (yfu r r')
theorem yco{α:Type}:∀(a b:T α) (i:Nat),(yfu a b).get i=match a.get i with|some x=>some x|none=>b.get i
 |.leaf,b,i=>by rw[T.get_leaf];rfl
 | .node v l r,.leaf,i=>by
   show(T.node v l r).get i=_;rw[T.get_leaf];cases(T.node v l r).get i<;>rfl
 | .node v l r,.node v' l' r',0=>by
   show(T.node _ _ _).get 0=_;rw[T.get_zero,T.get_zero,T.get_zero]
 | .node v l r,.node v' l' r',k+1=>by
   show(T.node _ _ _).get (k+1)=_;rw[T.get_succ,T.get_succ,T.get_succ];split
   ·exact yco l l' _
   ·exact yco r r' _
theorem yjb:∀{l:List SV}{i t:Nat}{v:SV},look (slots l i) t=some v->i<=t/\l[t-i]?=some v
 |[],_,_,_,h=>by cases h
 | x :: l,i,t,v,h=>by
   have h':(if i=t then some x else look (slots l (i+1)) t)=some v:=h
   split at h'
   ·rename_i q;subst q;cases h';simp
   ·rename_i q
    obtain⟨h1,h2⟩:=yjb h';refine⟨by omega,?_⟩
    rw[show t-i=(t-(i+1))+1 by omega]
    simpa using h2
theorem ybdb:∀{l:List SV}{i t:Nat}{v:SV},l[t]?=some v->look (slots l i) (i+t)=some v
 |[],_,_,_,h=>by simp at h
 | x::l,i,0,v,h=>by
   show(if i=i+0 then some x else look (slots l (i+1)) (i+0))=some v
   rw[if_pos (by omega)];simpa using h
 | x::l,i,t+1,v,h=>by
   show(if i=i+(t+1)then some x else look (slots l (i+1)) (i+(t+1)))=_
   rw[if_neg (by omega),show i+(t+1)=i+1+t by omega]
   exact ybdb (by simpa using h)
theorem yby{α:Type}{p:α->Prop}:∀{l:List α},allQ p l->∀x∈l,p x
 | _::_,h,x,hx=>by
   rcases List.mem_cons.1 hx with q|q
   ·rw[q];exact h.1
   ·exact yby h.2 x q
theorem ycs{α:Type}:∀{l:List (Nat×α)}{t:Nat}{v:α},look l t=some v->(t,v)∈l
 |[],_,_,h=>by cases h
 | (k,x)::l,t,v,h=>by
   have h':(if k=t then some x else look l t)=some v:=h
   split at h'
   ·rename_i q;subst q;cases h';exact zD
   ·exact zH _ (ycs h')
theorem yfy{l:List Nm}{x:Nm}:nmem l x=true↔x∈l:=by
 unfold nmem;rw[List.any_eq_true];constructor
 ·rintro⟨y,h1,h2⟩;simp only[zA,decide_eq_true_eq]at h2;rw[show x=y from Prod.ext h2.1.symm h2.2.symm];exact h1
 ·exact fun h=>⟨x,h,by simp⟩
theorem yea{l:Own}{β:Nm}{b:OB}(h:lookO l β=some b):∃F,look l β.1=some F/\F.at β.2=some b:=by
 unfold lookO at h;split at h
 ·rename_i F hF;exact⟨F,hF,h⟩
 ·cases h
theorem ypd{F:Fam}{i:Nat}{b:OB}(h:F.at i=some b):(F = .one (some b)/\i=0)\/∃g,F = .many g/\g i=some b:=by
 cases F with
 | one x =>
   simp only[Fam.at]at h;split at h
   ·rename_i q;subst h;exact .inl ⟨rfl,q⟩
   ·cases h
 |many g=>exact .inr ⟨g,rfl,h⟩
theorem ybop{F:Fam}{p:Nat->Prop}(h:idxF F p){i:Nat}{b:OB}(hb:F.at i=some b):p i:=by
 rcases ypd hb with⟨rfl,rfl⟩|⟨g,rfl,hg⟩
 ·exact h
 ·exact h i (by rw[hg];rfl)
section
variable {P:Program}{lo:Nat}{F G:AM}{ω ψ:Om}{s t:SS}{f:Fr}{m:Mem}
theorem yyq{h:SV->SV}(hh:∀v,one1 (h v)=one1 v){l:List SV}(hl:l.all one1=true):(l.map h).all one1=true:=by
 rw[List.all_map];exact List.all_eq_true.2 fun x hx=>(hh x).trans (List.all_eq_true.1 hl x hx)
theorem ybse(h:Nm->Nm)(n:Nat)(v:SV):one1 (ren h n v)=one1 v:=by
 cases n with
 |zero=>rfl
 |succ n=>cases v<;>rfl
theorem yyu{h:Nm->Nm}{L:Nm->Bool}(hL:∀β x,L β=true->ω β=some x->ψ (h β)=some x):∀{n:Nat}{v:SV}{u:Value},RV F ω v u->cln L n v=true->RV F ψ (ren h n v) u
 |0,_,_,_,q=>by cases q
 | n + 1,v,u,hr,q=>by
   have hl:∀{l:List SV}{U:List Value},RVL F ω l U->l.all (cln L n)=true->RVL F ψ (l.map (ren h n)) U:=fun {l U} a b=>a.map_get fun v u hv hr=>yyu hL hr (List.all_eq_true.1 b v hv);cases hr with
   |i=>exact .i
   |b=>exact .b
   |a h'=>exact .a h'
   |sl0 h'=>exact .sl0 h'
   |sl a1 a2 a3 a4 a5 a6 a7=>exact .sl a1 a2 a3 a4 a5 a6 a7
   |rf a1 a2 a3 a4 a5=>exact .rf a1 a2 a3 a4 a5
   |ex a1 a2 a3=>exact .ex a1 a2 a3
   |ag a=>exact .ag (hl a q)
   |tp a=>exact .tp (hl a q)
   | fn a b =>
     have q:(_&&_)=true:=q;rw[zA]at q;exact .fn (hl a q.1) (hl b q.2)
   |pt hk=>exact .pt (hL _ _ q hk)
   |os hk hb=>exact .os (hL _ _ q hk) hb
   |os0 hk=>exact .os0 (hL _ _ q hk)
theorem yblc{h:Nm->Nm}{L:Nm->Bool}(hL:∀β x,L β=true->ω (h β)=some x->ψ β=some x):∀{n:Nat}{v:SV}{u:Value},RV F ω (ren h n v) u->cln L n v=true->RV F ψ v u
 |0,_,_,_,q=>by cases q
 | n + 1,v,u,hr,q=>by
   have hl:∀{l:List SV}{U:List Value},RVL F ω (l.map (ren h n)) U->l.all (cln L n)=true->RVL F ψ l U:=by
    intro l
    induction l with
    |nil=>intro L hl _;cases hl;exact .nil
    | cons x l ih =>
      intro L hl hc;simp only[zG,zA]at hc;cases hl with
      |cons a b=>exact .cons (yblc hL a hc.1) (ih b hc.2)
   cases v with
   |i k x=>cases hr;exact .i
   |b x=>cases hr;exact .b
   |a x=>exact ydp (n:=5) rfl hr
   |sl z k g=>exact ydp (n:=5) rfl hr
   |rf c=>exact ydp (n:=5) rfl hr
   |ex Q v=>exact ydp (n:=5) rfl hr
   |bad=>cases hr
   |ag c=>obtain⟨L,rfl,a⟩:=hr.ag_inv;exact .ag (hl a q)
   |tp c=>obtain⟨L,rfl,a⟩:=hr.tp_inv;exact .tp (hl a q)
   | fn g a b =>
     have q:(_&&_)=true:=q;rw[zA]at q;cases hr with
     |fn a1 b1=>exact .fn (hl a1 q.1) (hl b1 q.2)
   |pt β i j=>obtain⟨k,z,hk,rfl⟩:=hr.pt_inv;exact .pt (hL _ _ q hk)
   | os β o k c =>
     rcases hr.os_inv with⟨k',z,cp,hk,rfl,hb⟩|⟨hk,rfl,rfl,rfl⟩
     ·exact .os (hL _ _ q hk) hb
     ·exact .os0 (hL _ _ q hk)
theorem ybde{L:Nm->Bool}(hL:∀β x,L β=true->ω β=some x->ψ β=some x):∀{n:Nat}{v:SV}{u:Value},RV F ω v u->cln L n v=true->RV F ψ v u
 |0,_,_,_,q=>by cases q
 | n + 1,v,u,hr,q=>by
   have hl:∀{l:List SV}{U:List Value},RVL F ω l U->l.all (cln L n)=true->RVL F ψ l U:=fun {l U} a b=>a.of_get fun v u hv hr=>ybde hL hr (List.all_eq_true.1 b v hv);cases hr with
   |i=>exact .i
   |b=>exact .b
   |a h'=>exact .a h'
   |sl0 h'=>exact .sl0 h'
   |sl a1 a2 a3 a4 a5 a6 a7=>exact .sl a1 a2 a3 a4 a5 a6 a7
   |rf a1 a2 a3 a4 a5=>exact .rf a1 a2 a3 a4 a5
   |ex a1 a2 a3=>exact .ex a1 a2 a3
   |ag a=>exact .ag (hl a q)
   |tp a=>exact .tp (hl a q)
   | fn a b =>
     have q:(_&&_)=true:=q;rw[zA]at q;exact .fn (hl a q.1) (hl b q.2)
   |pt hk=>exact .pt (hL _ _ q hk)
   |os hk hb=>exact .os (hL _ _ q hk) hb
   |os0 hk=>exact .os0 (hL _ _ q hk)
open Classical in
noncomputable def frzF(ω:Om)(fr:List Nm)(m:Mem)(F:AM):AM:=fun x=>if ∃β∈fr,∃z,ω β=some (some (x,z))then m.b.get x else F x
theorem ybqx:frzF ω [] m F=F:=by
 funext x;unfold frzF;rw[if_neg (by simp)]
theorem yjo(hc:Conc lo F ω s f m)(fr:List Nm):Le F (frzF ω fr m F):=fun x b h=>by
 unfold frzF;split
 ·exact hc.sub x b h
 ·exact h
theorem ybri(hc:Conc lo F ω s f m)(fr:List Nm):∀x b,frzF ω fr m F x=some b->F x=some b\/lo<=x:=fun x b h=>by
 unfold frzF at h;split at h
 ·rename_i q;obtain⟨β,_,z,hk⟩:=q;exact .inr (hc.apart β x z hk).2.1
 ·exact .inl h
theorem ybdq{l:List SV}{U:List Value}(h:l.any (owned 5)=false)(hl:RVL F ω l U):RVL F om0 l U:=hl.of_get fun v u hv hr=>ydp (n:=5) (by
 cases hq:owned 5 v with
 |false=>rfl
 |true=>rw[List.any_eq_true.2 ⟨v,hv,hq⟩]at h;cases h) hr
theorem yjx(hc:Conc lo F ω s f m){fr:List Nm}(hfr:ytk s.o fr):∀{n:Nat}{v:SV}{u:Value},RV F ω v u->pok fr s.o n v->RV (frzF ω fr m F) ω (yct fr s.o n v) u
 |0,_,_,h,_=>h.mono (yjo hc fr) (Om.le_refl _)
 | n + 1,v,u,hr,hv=>by
   cases hr with
   |i=>exact .i
   |b=>exact .b
   |a h=>exact .a h
   |sl0 h'=>exact .sl0 h'
   |sl a1 a2 a3 a4 a5 a6 a7=>exact(RV.sl a1 a2 a3 a4 a5 a6 a7:RV F ω _ _).mono (yjo hc fr) (Om.le_refl _)
   |rf a1 a2 a3 a4 a5=>exact(RV.rf a1 a2 a3 a4 a5:RV F ω _ _).mono (yjo hc fr) (Om.le_refl _)
   |ex a1 a2 a3=>exact(RV.ex a1 a2 a3:RV F ω _ _).mono (yjo hc fr) (Om.le_refl _)
   |ag hl=>exact .ag (hl.map_get fun v u hm hr=>yjx hc hfr hr (ydo hv v hm))
   |tp hl=>exact .tp (hl.map_get fun v u hm hr=>yjx hc hfr hr (ydo hv v hm))
   |fn ha hb=>exact .fn (ha.map_get fun v u hm hr=>yjx hc hfr hr (ydo hv.1 v hm)) (hb.map_get fun v u hm hr=>yjx hc hfr hr (ydo hv.2 v hm))
   | pt hk =>
     rename_i β i j k z
     simp only[pok]at hv;simp only[yct];split
     ·rename_i hm
      have hv:=hv hm;obtain⟨b,hb,hown⟩:=yby hfr β (yfy.1 hm);rw[hb]at hv ⊢;obtain⟨v1,v2⟩:=hv;obtain⟨rfl,T,L,g1,g2⟩:=hc.ownAt hb hk;obtain⟨l1,l2,l3,l4⟩:=g2 i v1;have hin:=yht (z:=b.z) v1;refine .rf (L:=(L i).drop j) (show frzF ω fr m F k=some _ by unfold frzF;rw[if_pos ⟨β,yfy.1 hm,_,hk⟩];exact g1) (by simp;omega) (fun q hq=>?_) ((ybdq (hown i v1) l2).mono (yjo hc fr) (Om.le_refl _) |>.drop j) (yis l3 j)
      simp at hq;rw[zS,l4 _ (by omega)]
      simp
     ·exact .pt hk
   | os hk hcu =>
     rename_i β p k ap cp q z
     simp only[pok]at hv;simp only[yct];split
     ·rename_i hm
      have hv:=hv hm;obtain⟨b,hb,hown⟩:=yby hfr β (yfy.1 hm);rw[hb]at hv ⊢;have v1:p+k<=b.n:=hv;obtain⟨rfl,T,L,g1,g2⟩:=hc.ownAt hb hk;refine .sl (L:=fun a=>L (p+a)) (show frzF ω fr m F q=some _ by unfold frzF;rw[if_pos ⟨β,yfy.1 hm,_,hk⟩];exact g1) (by cases b.bx<;>simp) ?_ (fun a ha=>(g2 (p+a) (by omega)).1) (fun a ha j hj=>?_) (fun a ha=>(ybdq (hown (p+a) (by omega)) (g2 (p+a) (by omega)).2.1).mono (yjo hc fr) (Om.le_refl _)) (fun a ha=>(g2 (p+a) (by omega)).2.2.1)
      ·rw[<-zL];exact zO _ v1
      ·rw[<-zL];exact(g2 (p+a) (by omega)).2.2.2 j hj
     ·exact .os hk hcu
   | os0 hk =>
     rename_i β ap
     simp only[pok]at hv;simp only[yct];split
     ·rename_i hm
      obtain⟨b,hb,_⟩:=yby hfr β (yfy.1 hm);rw[hb];exact .sl0 (.inl rfl)
     ·exact .os0 hk
def omTo(ω:Om)(h:Nm->Nm)(vir:List Nat)(o:Own):Om:=fun β=>if live o β=true then(if vir.elem β.1=true then some none else ω (h β))else none
theorem ycec(hc:Conc lo F ω s f m){h:Nm->Nm}{vir:List Nat}{fr:List Nm}{o:Own}(hfr:ytk s.o fr){v w:SV}{u:Value}(ht:Tel h vir fr s.o o v w)(hv:RV F ω v u):RV (frzF ω fr m F) (omTo ω h vir o) w u:=by
 rcases ht with⟨h1,h2,h3⟩|⟨rfl,β,rfl,h1,h2⟩
 ·refine yblc (fun β x hl hx=>?_) (h2 _ _ _ (yjx hc hfr hv h1)) h3;unfold lv at hl;rw[zA,zF]at hl;unfold omTo;rw[if_pos hl.1,if_neg (by rw[hl.2];simp)]
  exact hx
 ·cases hv
  refine .os0 ?_;unfold omTo;rw[if_pos h2,if_pos h1]
theorem ybmf(hc:Conc lo F ω s f m){h:Nm->Nm}{vir:List Nat}{fr:List Nm}{o:Own}(hfr:ytk s.o fr):∀{l k:List SV}{U:List Value},telL h vir fr s.o o l k->RVL F ω l U->l.all one1=true->RVL (frzF ω fr m F) (omTo ω h vir o) k U/\k.all one1=true
 |[],[],_,_,.nil,_=>⟨.nil,rfl⟩
 | v::l,w::k,_,ht,.cons a b,h1=>by
   simp only[zG,zA]at h1;have e:=ycec hc hfr ht.1 a;obtain⟨q1,q2⟩:=ybmf hc hfr ht.2.2 b h1.2;exact⟨.cons e q1,by simp only[zG,zA];exact⟨ht.2.1,q2⟩⟩
 |[],_::_,_,ht,_,_=>ht.elim
 |_::_,[],_,ht,_,_=>ht.elim
theorem ygg{o:Own}{β:Nm}:live o β=true↔∃b,lookO o β=some b:=by
 unfold live;rw[Option.isSome_iff_exists]
theorem WeakBy.yoq{h:Nm->Nm}{vir:List Nat}{fr:List Nm}(hw:WeakBy h vir fr s t){β:Nm}{b:OB}(hb:lookO t.o β=some b):own1 h vir fr t.o s β b:=by
 obtain⟨F,h1,h2⟩:=yea hb;have hm:=yby hw.own _ (ycs h1);rcases ypd h2 with⟨rfl,h3⟩|⟨g,rfl,h3⟩
 ·have:β=(β.1,0):=Prod.ext rfl h3;rw[this];exact hm
 ·exact hm _ _ h3
theorem WeakBy.conc{h:Nm->Nm}{vir:List Nat}{fr:List Nm}(hw:WeakBy h vir fr s t)(hc:Conc lo F ω s f m):Conc lo (frzF ω fr m F) (omTo ω h vir t.o) t f m:=by
 have hreal:∀{β k z},omTo ω h vir t.o β=some (some (k,z))->ω (h β)=some (some (k,z))/\(∃b,lookO t.o β=some b)/\¬(vir.elem β.1=true):=fun {β k z} q=>by
  unfold omTo at q;split at q
  ·rename_i hl
   split at q
   ·cases q
   ·rename_i hv;exact⟨q,ygg.1 hl,hv⟩
  ·cases q
 have hnf:∀{β},(∃b,lookO t.o β=some b)->¬(vir.elem β.1=true)->nmem fr (h β)=false:=fun {β} ⟨b,hb⟩ hv=>by
  have:=hw.yoq hb;unfold own1 at this;rw[if_neg hv]at this;obtain⟨c,_,⟨_,_,_,_,q⟩,_⟩:=this;exact q
 refine⟨hc.wf,hc.low,hc.nxt,fun i b hb=>?_,fun β b hb=>?_,fun β hb=>?_,fun β γ k z k' z' h1 h2 hne=>?_,fun β k z hk=>?_,fun k v hk=>?_⟩
 ·unfold frzF at hb;split at hb
  ·exact hb
  ·exact hc.sub i b hb
 ·have hm:=hw.yoq hb;have hlive:live t.o β=true:=ygg.2 ⟨b,hb⟩;unfold own1 at hm;split at hm
  ·rename_i q
   refine .inr ⟨?_,hm⟩;unfold omTo;rw[if_pos hlive,if_pos q]
  ·rename_i q
   obtain⟨c,h1,⟨h2,h3,h4,h5,h7⟩,h6⟩:=hm;have hom:omTo ω h vir t.o β=ω (h β):=by unfold omTo;rw[if_pos hlive,if_neg q]
   rcases hc.own _ c h1 with⟨k,T,L,g1,g0,g2,g3⟩|⟨g1,g2,g3⟩
   ·left
    rw[h4]at g1;refine⟨k,T,L,by rw[hom];exact g1,by rw[<-h2];exact g0,by rw[h2,h3,h4,h5]at g2;exact g2,fun i hi=>?_⟩
    obtain⟨l1,l2,l3,l4⟩:=g3 i (by rw[h5];exact hi)
    rw[h4]at l1 l4;obtain⟨e1,e2⟩:=ybmf hc hw.frz (h6 i hi) l2 l3;exact⟨l1,e1,e2,l4⟩
   ·exact .inr ⟨by rw[hom];exact g1,by rw[<-h5];exact g2,by rw[<-h3];exact g3⟩
 ·unfold omTo;rw[if_neg];intro q;obtain⟨b,hb'⟩:=ygg.1 q;exact yrs hb' hb
 ·obtain⟨a1,⟨b1,a2⟩,a3⟩:=hreal h1;obtain⟨c1,⟨b2,c2⟩,c3⟩:=hreal h2;refine hc.inj _ _ k z k' z' a1 c1 fun e=>hne ?_;obtain⟨F1,d1,d2⟩:=yea a2;obtain⟨F2,e1,e2⟩:=yea c2;have q1:=yby hw.inj _ (ycs d1);have q2:=yby (q1.resolve_left a3) _ (ycs e1);have q3:=ybop (ybop (q2.resolve_left c3) d2) e2 e;exact Prod.ext q3.1 q3.2
 ·obtain⟨a1,a2,a3⟩:=hreal hk;obtain⟨b1,b2,b3⟩:=hc.apart _ k z a1;refine⟨?_,b2,b3⟩;unfold frzF;rw[if_neg]
  ·exact b1
  ·rintro⟨γ,hγ,z',hk'⟩;have hne:γ≠h β:=fun e=>by have:=hnf a2 a3;rw[<-e,yfy.2 hγ]at this;cases this
   exact hc.inj γ (h β) k z' k z hk' a1 hne rfl
 ·obtain⟨v',e1,e2⟩:=yby hw.slot _ (ycs hk);obtain⟨u,g1,g2⟩:=hc.fr k v' e1;exact⟨u,g1,ycec hc hw.frz e2 g2⟩
def Weak(pr:List Nm)(s t:SS):Prop:=∀lo F ω f m,Conc lo F ω s f m->∃ω' F',Le F F'/\(∀x b,F' x=some b->F x=some b\/lo<=x)/\Conc lo F' ω' t f m/\∀β∈pr,∀x,ω β=some x->ω' β=some x
theorem Weak.trans{pr:List Nm}{s t u:SS}(a:Weak pr s t)(b:Weak pr t u):Weak pr s u:=fun lo F ω f m hc=>by
 obtain⟨ω1,F1,h1,h2,h3,h4⟩:=a lo F ω f m hc;obtain⟨ω2,F2,k1,k2,k3,k4⟩:=b lo F1 ω1 f m h3;exact⟨ω2,F2,h1.trans k1,fun x b h=>(k2 x b h).elim (h2 x b) .inr,k3,fun β hβ x hx=>k4 β hβ x (h4 β hβ x hx)⟩
theorem WeakBy.weak{pr:List Nm}{h:Nm->Nm}{vir:List Nat}{fr:List Nm}(hw:WeakBy h vir fr s t)(hp:allQ (fun β=>live t.o β=true/\vir.elem β.1=false/\h β=β) pr):Weak pr s t:=fun lo F ω f m hc=>by
 refine⟨_,_,yjo hc fr,ybri hc fr,hw.conc hc,fun β hβ x hx=>?_⟩;obtain⟨p1,p2,p3⟩:=yby hp β hβ;unfold omTo;rw[if_pos p1,if_neg (by rw[p2];simp),p3]
 exact hx
end
end Sh
end
section
namespace Ev
open Go Go.RowKit
structure It where
 n:Nat
 el:Nat->List Value
 pre:Nat->Mem->Prop
 adv:Nat->Mem->Mem
 step:Nat->Phi->AM->World->AM->World->Prop
structure ItOk(P:Program)(g:FuncId)(cap:List Value)(S:It):Prop where
 enter:∀args w,(callFunc g args).run P w = .ok (.enter g args) w
 grow:∀k m,k<S.n->Wf m->S.pre k m->Grow m (S.adv k m)
 good:∀k φ M w m M' w',k<S.n->Wf m->Rel φ M w->Sub m M->S.pre k m->S.step k φ M w M' w'->Good φ M w m (S.adv k m) φ M' w'
 calls:∀(l:Nat) (St:Nat->Phi->AM->World->Prop) (Stop:World->Prop) (φ:Phi) (M:AM) (w:World) (cap':List Value),
  (∀k φ' M' w',St k φ' M' w'->φ.le φ'/\∃m,Rel φ' M' w'/\Sub m M'/\S.pre k m) ->
  (∀k φ' M' w' w'',St k φ' M' w'->Below w'.heap.size w' w''->St k φ' M' w'') ->
  (∀k φ' M' w' el',k<S.n->St k φ' M' w'->VRL φ' (S.el k) el'->YieldAt Fence.wide 0 P l el'.toArray w' fun e w'' =>
    (e = .returned (.bool true)/\∃φ'' M'',φ'.le φ''/\(∃m,Rel φ'' M'' w''/\Sub m M''/\S.pre k m)/\∀M3 w3,S.step k φ'' M'' w'' M3 w3->St (k+1) φ'' M3 w3)\/(e = .returned (.bool false)/\Stop w'')) ->
  St 0 φ M w->VRL φ cap cap' ->
  CallsIn Fence.wide 0 P g (#[.func (.yield l) #[] #[]]++cap'.toArray) w fun e w'=>(∃v,e = .returned v)/\((∃φ' M',St S.n φ' M' w')\/Stop w')
noncomputable def ybao:List Value->List Nat->Fr->Option Fr
 | [],ps=>match ps with
   |[]=>fun f=>some f
   |_::_=>fun _=>none
 | v::vs,ps=>match ps with
   |[]=>fun _=>none
   |p::ps=>fun f=>(Fr.putD v p f).bind (ybao vs ps)
inductive RRounds (P:Program) (f:Fr) (ps:List Nat) (assign body:Code) (S:It):Nat->Mem->Exit->Mem->Prop
 |done {m} (hp:S.pre S.n m):RRounds P f ps assign body S S.n m .normal m
 | next {k m f1 f3 m1 f4 m2 e m'} (hk:k<S.n) (hp:S.pre k m) (h1:ybao (S.el k) ps f=some f1) (h2:ycc P assign f1 m .normal f3 m1) (h3:ycc P body f3 m1 .normal f4 m2) (hp2:S.pre k m2)
    (h:RRounds P f ps assign body S (k+1) (S.adv k m2) e m'):RRounds P f ps assign body S k m e m'
 | stop {k m f1 f3 m1 e f4 m2} (hk:k<S.n) (hp:S.pre k m) (h1:ybao (S.el k) ps f=some f1) (h2:ycc P assign f1 m .normal f3 m1) (he:e = .ret\/∃id,e = .exit id) (h3:ycc P body f3 m1 e f4 m2) :
    RRounds P f ps assign body S k m e m2
section
variable {P:Program}{φ φ':Phi}{M M':AM}{w w':World}{f f':Fr}{m m' m'':Mem}{a:Act}{S:It}{ps:List Nat}{assign body:Code}{k:Nat}{e:Exit}
theorem RRounds.pre(h:RRounds P f ps assign body S k m e m'):S.pre k m:=by
 cases h with
 |done hp=>exact hp
 |next _ hp=>exact hp
 |stop _ hp=>exact hp
theorem RRounds.grow{g:FuncId}{cap:List Value}(hit:ItOk P g cap S)(h:RRounds P f ps assign body S k m e m'):Wf m->Grow m m':=by
 induction h with
 |done=>exact fun hw=>Grow.refl hw
 | next hk hp h1 h2 h3 hp2 h ih =>
   intro hw;have g1:=h2.1.trans h3.1;have g2:=hit.grow _ _ hk g1.ext.wf hp2;exact g1.trans (g2.trans (ih g2.ext.wf))
 |stop hk hp h1 h2 he h3=>exact fun _=>h2.1.trans h3.1
theorem RRounds.at_end(h:RRounds P f ps assign body S S.n m e m'):e = .normal/\m'=m:=by
 generalize hn:S.n=n at h
 cases h with
 |done=>exact⟨rfl,rfl⟩
 |next hk=>omega
 |stop hk=>omega
theorem ywd:∀{vs vs':List Value}{ps:List Nat}{f f1:Fr}{a:Act},FrR φ f a->ybao vs ps f=some f1->VRL φ vs vs'->FrR φ f1 { a with tmps:=(ps.zip vs').foldl (fun tmps (t,x)=>tmps.setIfInBounds t x) a.tmps }
 | [],_,[],f,f1,a,hf,h,.nil=>by
   cases h
   exact⟨hf.size,hf.get⟩
 | v::vs,_,p::ps,f,f1,a,hf,h,.cons (v':=v') (l':=vs') hv hvs=>by
   obtain⟨f2,h1,h2⟩:=Option.bind_eq_some_iff.1 h;have:=ywd (hf.putD h1 hv) h2 hvs;have e:(a.put (some p) v').tmps=a.tmps.setIfInBounds p v':=by simp[Act.put]
   exact⟨by simpa[e]using this.size,by simpa[e]using this.get⟩
 |[],_,_::_,_,_,_,_,h,_=>by cases h
 |_::_,_,[],_,_,_,_,h,_=>by cases h
theorem yqk(ps:Array Tmp)(l:List Value):(ps.zip l.toArray).foldl (fun tmps (t,a)=>tmps.setIfInBounds t a) a.tmps=(ps.toList.zip l).foldl (fun tmps (t,x)=>tmps.setIfInBounds t x) a.tmps:=by
 rw[<-Array.foldl_toList,Array.toList_zip]
set_option maxHeartbeats 1000000 in
theorem ybuf {g:FuncId}{cap:List Value}(hit:ItOk P g cap S) {gx:Operand}{ps:Array Tmp}{e0:Exit}{mf:Mem}(hv:f.get gx=some (.func (.func g) #[] cap.toArray)) (hna:noRF assign=true) (hnb:noRF body=true)
 (hw:Wf m) (h3:RRounds P f ps.toList assign body S 0 m e0 mf):ycc P (.rangeFunc gx ps assign body) f m e0 f mf:=by
 refine⟨h3.grow hit hw,fun φ M w a r hnr hR hs hf hfr=>?_⟩
 obtain rfl:r=none:=by
  cases r with
  |none=>rfl
  |some l=>exact absurd (hnr rfl) (by simp[noRF])
 have hvr:=ygv (a:=a) (fun t v _ ht=>hf.get t v ht) hv;obtain⟨x',y',e1,e2,e3⟩:=hvr.func_inv;cases e2
 have e3:VRL φ cap y':=by simpa using e3
 refine wpIn_rangeFunc ?_;intro fn _;obtain⟨rec,hrec⟩:∃rec:LoopState->Option Code->Loop,rec=fun st pe=>{ state:=st,pending:=pe,fn,tmps:=a.tmps,params:=ps,assign,body,defers:=w.heap.size }:=⟨_,rfl⟩;obtain⟨W1,hW1⟩:∃W1,(w.alloc (.deferred (some []))).alloc (.loop (rec .ready none))=W1:=⟨_,rfl⟩
 have hL1:W1.heap[w.heap.size+1]?=some (.loop (rec .ready none)):=by
  rw[<-hW1];have:=World.alloc_heap_new (w.alloc (.deferred (some []))) (.loop (rec .ready none));rwa [World.size_alloc]at this
 have hK1:W1.heap[w.heap.size]?=some (.deferred (some [])):=by
  rw[<-hW1];exact(Below.heap_alloc _ _ _ (by simp)).trans (World.alloc_heap_new w _)
 have hb1:Below w.heap.size w W1:=by
  rw[<-hW1];exact((Below.refl _ w).alloc (zI _) _).alloc (by simp) _
 refine⟨w.heap.size+1,[{ target:=.collected w.heap.size,args:=#[] }],W1,{ target:=.fn (.func g) y'.toArray,args:=#[.func (.yield (w.heap.size+1)) #[] #[]] },W1,g,
  #[.func (.yield (w.heap.size+1)) #[] #[]]++y'.toArray,W1,?_,?_,fun _ _=>trivial,?_,fun q=>(by cases q),?_⟩
 ·rw[<-hW1,hrec];exact run_enterLoop_outer _ _ _ _ _
 ·simp only[resolve,e1];simp[go_sem]
 ·simp[invoke,go_sem,hit.enter]
 ·let St:Nat->Phi->AM->World->Prop:=fun k φ' M' W=>k<=S.n/\∃mi,RRounds P f ps.toList assign body S k mi e0 mf/\Grow m mi/\Good φ M w m mi φ' M' W /\
   W.heap[w.heap.size+1]?=some (.loop (rec .ready none))/\W.heap[w.heap.size]?=some (.deferred (some []))
  let Stop:World->Prop:=fun W=>∃c φ' M',((c=Code.ret/\e0 = .ret)\/∃id,c = .exit id/\e0 = .exit id)/\Good φ M w m mf φ' M' W /\
   W.heap[w.heap.size+1]?=some (.loop (rec .done (some c)))/\W.heap[w.heap.size]?=some (.deferred (some []))
  refine CallsIn.mono (hit.calls (w.heap.size+1) St Stop φ M W1 y' ?_ ?_ ?_ ?_ e3) ?_
  ·rintro k φ' M' W ⟨_,mi,k2,_,k4,_⟩;exact⟨k4.le,mi,k4.rel,k4.sub,k2.pre⟩
  ·rintro k φ' M' W W' ⟨k0,mi,k2,k3,k4,k5,k6⟩ hb;exact⟨k0,mi,k2,k3,k4.below hb,(hb.block _ (Array.getElem?_eq_some_iff.1 k5).1).trans k5,(hb.block _ (Array.getElem?_eq_some_iff.1 k6).1).trans k6⟩
  ·rintro k φ' M' W el' hkn ⟨_,mi,k2,k3,hgd,hl,hd⟩ hel
   have round:∀{f1 f3:Fr}{m1:Mem}{f4:Fr}{m2:Mem}{eb:Exit},ybao (S.el k) ps.toList f=some f1->ycc P assign f1 mi .normal f3 m1->ycc P body f3 m1 eb f4 m2->m2.next<=mf.next ->
    ∀ (QQ:Ending->World->Prop),(∀(φ2:Phi) (M2:AM) (w2:World) (jump:Option Code),(jump=none/\eb = .normal\/(jump=some .ret/\eb = .ret)\/∃id,jump=some (.exit id)/\eb = .exit id)->φ'.le φ2->Grow m m2->Good φ M w m m2 φ2 M2 w2 ->
      w2.heap[w.heap.size+1]?=some (.loop (rec (if jump.isNone then .ready else .done) jump))->w2.heap[w.heap.size]?=some (.deferred (some []))->QQ (.returned (.bool jump.isNone)) w2)->(eb = .normal\/eb = .ret\/∃id,eb = .exit id) ->
    YieldAt Fence.wide 0 P (w.heap.size+1) el'.toArray W QQ:=by
    intro f1 f3 m1 f4 m2 eb p1 s1 s2 hm2 QQ hQQ hex;have hfr1:yex φ' mi.next mf.next:=hgd.fresh k3.ext hfr
    have hlt:w.heap.size+1<W.heap.size:=(Array.getElem?_eq_some_iff.1 hl).1
    have hsz:ps.size=el'.toArray.size:=by
     have h1:∀{vs:List Value}{qs:List Nat}{f f':Fr},ybao vs qs f=some f'->vs.length=qs.length:=by
      intro vs
      induction vs with
      | nil=>intro qs f f' h;cases qs with
        |nil=>rfl
        |cons=>cases h
      | cons v vs ih=>intro qs f f' h;cases qs with
        |nil=>cases h
        | cons q qs =>
          obtain⟨f2,_,h2⟩:=Option.bind_eq_some_iff.1 h;simp[ih h2]
     have:=h1 p1;have h2:=hel.length;simp at this ⊢;omega
    have hy:=run_yield (P:=P) (args:=el'.toArray) hl (by rw[hrec];exact hsz.symm)
    rw[hrec]at hy;refine⟨fn,_,assign,body,hy,roundIn_of_wpIn (F:=Fence.wide) (n:=0) trivial ?_⟩;have hfr0:=ywd (hf.mono hgd.le) p1 hel
    have hfr2:FrR φ' f1 { tmps:=(ps.zip el'.toArray).foldl (fun tmps (t,a)=>tmps.setIfInBounds t a) a.tmps,defers:=[] }:=by
     rw[yqk];exact⟨hfr0.size,hfr0.get⟩
    refine wpIn_mono (s1.2 φ' M' W _ (some (w.heap.size+1)) (fun _=>hna) hgd.rel hgd.sub hfr2 (hfr1.left (zB s2.1.ext.next hm2))) ?_
    rintro e' a1 w1 ⟨rfl,φ1,M1,hg1,hf1,_⟩;have hl1:w1.heap[w.heap.size+1]?=some (.loop (rec .ready none)):=(hg1.wg.keep _ hlt (Img.not_loop hgd.rel hl)).trans hl;have hd1:w1.heap[w.heap.size]?=some (.deferred (some [])):=(hg1.wg.keep _ (by omega) (Img.not_deferred hgd.rel hd)).trans hd
    have hlt1:w.heap.size+1<w1.heap.size:=(Array.getElem?_eq_some_iff.1 hl1).1;refine⟨_,run_beginRound hl1 (by rw[hrec]),?_⟩
    have G1:Good φ M w m m1 φ1 M1 w1:=Good.trans k3.ext s1.1.ext s1.1.low hgd hg1;have G1':=G1.put (l:=w.heap.size+1) (x:=.loop { rec .ready none with state:=.busy }) ⟨_,hl1⟩ (by omega)
    have hlb:(w1.putObj (w.heap.size+1) (.loop { rec .ready none with state:=.busy })).heap[w.heap.size+1]?=some (.loop { rec .ready none with state:=.busy }):=World.putObj_heap_same hlt1;have hdb:(w1.putObj (w.heap.size+1) (.loop { rec .ready none with state:=.busy })).heap[w.heap.size]?=some (.deferred (some [])):=(World.putObj_heap_other (by omega)).trans hd1
    refine wpIn_mono (s2.2 φ1 M1 _ a1 (some (w.heap.size+1)) (fun _=>hnb) G1'.rel G1'.sub hf1 ((hg1.fresh s1.1.ext hfr1).left hm2)) ?_;rintro e' a2 w2 ⟨rfl,φ2,M2,hg2,_,_⟩;have hltb:w.heap.size+1<(w1.putObj (w.heap.size+1) (.loop { rec .ready none with state:=.busy })).heap.size:=(Array.getElem?_eq_some_iff.1 hlb).1;have hl2:=(hg2.wg.keep _ hltb (Img.not_loop G1'.rel hlb)).trans hlb;have hd2:=(hg2.wg.keep _ (Array.getElem?_eq_some_iff.1 hdb).1 (Img.not_deferred G1'.rel hdb)).trans hdb
    have hlt2:w.heap.size+1<w2.heap.size:=(Array.getElem?_eq_some_iff.1 hl2).1;have G2:Good φ M w m m2 φ2 M2 w2:=Good.trans (k3.trans s1.1).ext s2.1.ext s2.1.low G1' hg2;have hle2:φ'.le φ2:=Phi.le_trans hg1.le hg2.le
    have fin:∀(jump:Option Code),(w2.putObj (w.heap.size+1) (.loop (rec (if jump.isNone then .ready else .done) jump))).heap[w.heap.size+1]?=some (.loop (rec (if jump.isNone then .ready else .done) jump)) /\
     (w2.putObj (w.heap.size+1) (.loop (rec (if jump.isNone then .ready else .done) jump))).heap[w.heap.size]?=some (.deferred (some []))/\Good φ M w m m2 φ2 M2 (w2.putObj (w.heap.size+1) (.loop (rec (if jump.isNone then .ready else .done) jump))) /\
     (Instr.endRound (w.heap.size+1) jump).run P w2 = .ok (.bool jump.isNone) (w2.putObj (w.heap.size+1) (.loop (rec (if jump.isNone then .ready else .done) jump))):=fun jump=>by
     refine⟨World.putObj_heap_same hlt2,(World.putObj_heap_other (by omega)).trans hd2,G2.put ⟨_,hl2⟩ (by omega),?_⟩
     have:=run_endRound (P:=P) jump hl2;rw[hrec]at this ⊢;exact this
    have hgm:=(k3.trans s1.1).trans s2.1;rcases hex with rfl|rfl|⟨id,rfl⟩
    ·obtain⟨a1',a2',a3',a4'⟩:=fin none;exact⟨_,_,a4',hQQ φ2 M2 _ none (.inl ⟨rfl,rfl⟩) hle2 hgm a3' a1' a2'⟩
    ·obtain⟨a1',a2',a3',a4'⟩:=fin (some .ret);exact⟨_,_,a4',hQQ φ2 M2 _ (some .ret) (.inr (.inl ⟨rfl,rfl⟩)) hle2 hgm a3' a1' a2'⟩
    ·obtain⟨a1',a2',a3',a4'⟩:=fin (some (.exit id));exact⟨_,_,a4',hQQ φ2 M2 _ (some (.exit id)) (.inr (.inr ⟨id,rfl,rfl⟩)) hle2 hgm a3' a1' a2'⟩
   generalize hk':k=k' at k2
   cases k2 with
   |done=>omega
   | next hk hp p1 s1 s2 hp2 hrest =>
     subst hk';have g2:=(k3.trans s1.1).trans s2.1;have g3:=hit.grow _ _ hkn g2.ext.wf hp2;refine round p1 s1 s2 (zB g3.ext.next (hrest.grow hit g3.ext.wf).ext.next) _ ?_ (.inl rfl)
     rintro φ2 M2 w2 jump hj hle2 hgm G2 hl2 hd2;rcases hj with⟨rfl,_⟩|⟨_,hq⟩|⟨_,_,hq⟩
     ·refine .inl ⟨rfl,φ2,M2,hle2,⟨_,G2.rel,G2.sub,hp2⟩,fun M3 w3 hst=>?_⟩;have hg3:=hit.good _ _ _ _ _ _ _ hkn g2.ext.wf G2.rel G2.sub hp2 hst;have hlt2:=(Array.getElem?_eq_some_iff.1 hl2).1;exact⟨hkn,_,hrest,hgm.trans g3,Good.trans hgm.ext g3.ext g3.low G2 hg3,(hg3.wg.keep _ hlt2 (Img.not_loop G2.rel hl2)).trans hl2,(hg3.wg.keep _ (by omega) (Img.not_deferred G2.rel hd2)).trans hd2⟩
     ·cases hq
     ·cases hq
   | stop hk hp p1 s1 he s2 =>
     subst hk';refine round p1 s1 s2 (zI _) _ ?_ (.inr he);rintro φ2 M2 w2 jump hj hle2 hgm G2 hl2 hd2;rcases hj with⟨_,rfl⟩|⟨rfl,rfl⟩|⟨id,rfl,rfl⟩
     ·rcases he with h|⟨_,h⟩<;>cases h
     ·exact .inr ⟨rfl,.ret,φ2,M2,.inl ⟨rfl,rfl⟩,G2,hl2,hd2⟩
     ·exact .inr ⟨rfl,.exit id,φ2,M2,.inr ⟨id,rfl,rfl⟩,G2,hl2,hd2⟩
  ·refine⟨Nat.zero_le _,m,h3,Grow.refl hw,(Good.refl hR hs).below hb1,hL1,hK1⟩
  ·have fin:∀{φ' M' W c st},st ≠ .busy->Good φ M w m mf φ' M' W->W.heap[w.heap.size+1]?=some (.loop (rec st c))->W.heap[w.heap.size]?=some (.deferred (some [])) ->
    ∃ w4,(Instr.endLoop (w.heap.size+1)).run P W = .ok c w4/\Good φ M w m mf φ' M' w4/\FrR φ' f { a with defers:=[{ target:=.collected w.heap.size,args:=#[] }]++a.defers } /\
      Df w w4 a { a with defers:=[{ target:=.collected w.heap.size,args:=#[] }]++a.defers }:=by
    intro φ' M' W c st hst hgd hl hd;have hlt:w.heap.size+1<W.heap.size:=(Array.getElem?_eq_some_iff.1 hl).1;have hrun:=run_endLoop (P:=P) hl (by rw[hrec];exact hst)
    have hpend:(rec st c).pending=c:=by rw[hrec]
    rw[hpend]at hrun;refine⟨_,hrun,hgd.put ⟨_,hl⟩ (by omega),⟨(hf.mono hgd.le).size,(hf.mono hgd.le).get⟩,[{ target:=.collected w.heap.size,args:=#[] }],rfl,?_,fun d hd'=>?_⟩
    ·exact List.pairwise_singleton _ _
    ·rw[List.mem_singleton]at hd';subst hd';exact⟨w.heap.size,zI _,rfl,(World.putObj_heap_other (by omega)).trans hd⟩
   rintro e W ⟨⟨v,rfl⟩,(⟨φ',M',_,mi,k2,k3,hgd,hl,hd⟩|⟨c,φ',M',hc,hgd,hl,hd⟩)⟩
   ·obtain⟨rfl,rfl⟩:=k2.at_end;obtain⟨w4,r1,r2,r3,r4⟩:=fin (by simp) hgd hl hd
    exact⟨none,w4,r1,rfl,φ',M',r2,r3,r4⟩
   ·obtain⟨w4,r1,r2,r3,r4⟩:=fin (by simp) hgd hl hd
    rcases hc with⟨rfl,rfl⟩|⟨id,rfl,rfl⟩
    ·exact⟨some .ret,w4,r1,wpIn_ret ⟨rfl,φ',M',r2,r3,r4⟩⟩
    ·exact⟨some (.exit id),w4,r1,wpIn_exit ⟨rfl,φ',M',r2,r3,r4⟩⟩
end
end Ev
end
section
namespace Sh
open Go Ev
def Cm(P:Program)(g:FuncId)(pr:List Nm)(o:Own)(args:List SV)(Q:SV->Own->Prop):Prop :=
 ∀ lo (G:AM) (ω:Om) (f:Fr) (m:Mem) (us:List Value),Conc lo G ω ⟨[],o⟩ f m->RVL G ω args us ->
   ∃ v m' r o' G' ω',ybl P (.call g us m) (.call v m')/\Conc lo G' ω' ⟨[],o'⟩ f m'/\RV G' ω' r v/\Le G G'/\(∀x b,G' x=some b->G x=some b\/lo<=x)/\(∀β∈pr,∀x,ω β=some x->ω' β=some x) /\
     (cln (live o') 5 r=true/\allQ (fun p=>ydh (live o') p.2) o'/\allQ (fun β=>live o' β=true) pr)/\Q r o'
theorem Cm.mono{P:Program}{g:FuncId}{pr:List Nm}{o:Own}{args:List SV}{Q R:SV->Own->Prop}(h:Cm P g pr o args Q)(hq:∀r o',Q r o'->R r o'):Cm P g pr o args R:=fun lo G ω f m us h1 h2=>by
 obtain⟨v,m',r,o',G',ω',a1,a2,a3,a4,a5,a6,a7,a8⟩:=h lo G ω f m us h1 h2;exact⟨v,m',r,o',G',ω',a1,a2,a3,a4,a5,a6,a7,hq r o' a8⟩
def ItC(P:Program)(g:FuncId)(caps:List SV)(S:ItS):Prop :=
 ∀ lo (F:AM) (ω:Om) (s:SS) (f:Fr) (m:Mem) (us:List Value),Conc lo F ω s f m->RVL F ω caps us->S.own 0 s.o->∃T:It,ItOk P g us T/\T.n=S.n /\
   ∀ (F':AM) (ω':Om) (s':SS) (f':Fr) (m':Mem) (k:Nat),Le F F'->(∀β∈S.pr,∀x,ω β=some x->ω' β=some x)->Conc lo F' ω' s' f' m'->k<=S.n->S.own k s'.o ->
     T.pre k m'/\(k<S.n->RVL F' ω' (S.el k) (T.el k)/\Conc lo F' ω' ⟨s'.f,S.adv k s'.o⟩ f' (T.adv k m'))
noncomputable def Mem.rest(m' m:Mem)(ft:List Nat):Mem:=⟨m'.next,yfu m'.b (T.filt m.b fun i=>!(ft.elem i)),m'.low⟩
section
variable {P:Program}{lo:Nat}{F G:AM}{ω ψ:Om}{s t:SS}{f:Fr}{m:Mem}{o:Oper}
theorem ygb{m' m:Mem}{ft:List Nat}{i:Nat}{b:ABlk}:(Mem.rest m' m ft).b.get i=some b↔m'.b.get i=some b\/(m'.b.get i=none/\i∉ft/\m.b.get i=some b):=by
 show(yfu m'.b (T.filt m.b fun i=>!(ft.elem i))).get i=some b↔_;rw[yco];cases h:m'.b.get i with
 |some x=>simp
 |none=>simp only[T.filt_get];simp
theorem ybl.relow{g:FuncId}{us:List Value}{v:Value}{m':Mem}{n l l':Nat}{b:Ev.T ABlk}(h:ybl P (.call g us ⟨n,b,l⟩) (.call v m')):ybl P (.call g us ⟨n,b,l'⟩) (.call v m'):=by
 intro hw;obtain⟨e,h2⟩:=h hw;refine⟨⟨e.next,e.dom,e.old,e.wf⟩,fun φ M w args' hR hs ha hf=>(h2 φ M w args' hR hs ha hf).mono ?_⟩
 rintro e' w' ⟨v',rfl,φ',M',hg,hv⟩;exact⟨v',rfl,φ',M',⟨hg.le,hg.out,hg.rel,hg.sub,hg.frame,hg.wg⟩,hv⟩
theorem ybl.rest{g:FuncId}{us:List Value}{v:Value}{m':Mem}{ft:List Nat}(hw:Wf m)(h:ybl P (.call g us (m.only ft)) (.call v m')):ybl P (.call g us m) (.call v (Mem.rest m' m ft)):=by
 intro _;obtain⟨e,h2⟩:=h (yez hw);have hnx:m.next<=m'.next:=e.next
 refine⟨⟨e.next,fun i b hb=>?_,fun i b h1 h3 hb=>?_,fun i b hb=>?_⟩,fun φ M w args' hR hs ha hf=>?_⟩
 ·rcases ygb.1 hb with hb|⟨_,_,hb⟩
  ·rcases e.dom i b hb with⟨x,hx⟩|q
   ·exact .inl ⟨x,(ycm.1 hx).2⟩
   ·exact .inr q
  ·exact .inl ⟨b,hb⟩
 ·rcases ygb.1 hb with hb|⟨_,_,hb⟩
  ·exact(ycm.1 (e.old i b h1 h3 hb)).2
  ·exact hb
 ·rcases ygb.1 hb with hb|⟨_,_,hb⟩
  ·exact e.wf i b hb
  ·exact zC (hw i b hb) hnx
 ·refine(h2 φ M w args' hR (fun i b hb=>hs i b (ycm.1 hb).2) ha hf).mono ?_;rintro e' w' ⟨v',rfl,φ',M',hg,hv⟩
  have hfr:∀i,¬(m.next<=i/\i<m'.next)->(i∉ft\/m.b.get i=none\/i<m'.low)->M' i=M i:=fun i hi hn=>hg.frame i hi (by
   rcases hn with q|q|q
   ·left
    cases hq:(m.only ft).b.get i with
    |none=>rfl
    |some x=>exact absurd (ycm.1 hq).1 q
   ·left
    cases hq:(m.only ft).b.get i with
    |none=>rfl
    |some x=>rw[(ycm.1 hq).2]at q;cases q
   ·exact .inr q)
  refine⟨v',rfl,φ',M',⟨hg.le,hg.out,hg.rel,fun i b hb=>?_,fun i hi hn=>hfr i hi (.inr hn),hg.wg⟩,hv⟩;rcases ygb.1 hb with hb|⟨_,q,hb⟩
  ·exact hg.sub i b hb
  ·rw[hfr i (fun z=>by have:=hw i b hb;omega) (.inl q)]
   exact hs i b hb
theorem RVL.of_slots:∀{as:List SV}{us:List Value},as.length=us.length->(∀(k:Nat) v,as[k]?=some v->∃u,us[k]?=some u/\RV F ω v u)->RVL F ω as us
 |[],[],_,_=>.nil
 | v::as,u::us,h,k=>by
   obtain⟨u',h1,h2⟩:=k 0 v rfl;cases h1
   exact .cons h2 (RVL.of_slots (by simpa using h) fun j w hj=>k (j+1) w (by simpa using hj))
 |[],_::_,h,_=>by simp at h
 |_::_,[],h,_=>by simp at h
theorem yrg{l:List (Nat×SV)}{ks:List Nat}{t:Nat}{v:SV}(h:look (yey l ks) t=some v):look l t=some v:=by
 induction ks with
 |nil=>cases h
 | cons k ks ih =>
   unfold yey at h;split at h
   ·rename_i x hx
    have h':(if k=t then some x else look (yey l ks) t)=some v:=h
    clear h
    split at h'
    ·rename_i q;subst q;rw[hx];exact h'
    ·exact ih h'
   ·exact ih h
theorem ylj{l:Own}{ks:List Nat}{t:Nat}:look (yeg l ks) t=if t∈ks then look l t else none:=by
 induction ks with
 |nil=>simp[yeg,look]
 | cons k ks ih =>
   unfold yeg;split
   ·rename_i x hx
    show(if k=t then some x else look (yeg l ks) t)=_
    by_cases q:k=t
    ·subst q;rw[if_pos rfl,if_pos zD,hx]
    ·rw[if_neg q,ih];simp[Ne.symm q]
   ·rename_i hx
    rw[ih]
    by_cases q:t=k
    ·subst q;simp[hx]
    ·simp[q]
theorem ypt{α:Type}{a b:List (Nat×α)}{t:Nat}:look (a++b) t=match look a t with|some v=>some v|none=>look b t:=by
 induction a with
 |nil=>rfl
 | cons x a ih =>
   show(if x.1=t then some x.2 else look (a++b) t)=match (if x.1=t then some x.2 else look a t)with|some v=>some v|none=>look b t
   split
   ·rfl
   ·exact ih
theorem ybcp{α:Type}{k:Nat->Nat}{r:Nat->α->α}:∀{o:List (Nat×α)},difN (o.map fun p=>k p.1)=true->∀{c:Nat}{G:α},look (o.map fun p=>(k p.1,r p.1 p.2)) c=some G->∃b F,look o b=some F/\k b=c/\G=r b F
 |[],_,_,_,h=>by cases h
 | (b,F)::o,hd,c,G,h=>by
   have h:(if k b=c then some (r b F)else look (o.map fun p=>(k p.1,r p.1 p.2)) c)=some G:=h
   have hd:(!(zK (k b) (o.map fun p=>k p.1))&&difN (o.map fun p=>k p.1))=true:=hd;rw[zA,zF]at hd;split at h
   ·rename_i q;cases h;exact⟨b,F,by show(if b=b then some F else _)=_;rw[if_pos rfl],q,rfl⟩
   ·obtain⟨b',F',h1,h2,h3⟩:=ybcp hd.2 h;refine⟨b',F',?_,h2,h3⟩;show(if b=b' then some F else look o b')=_
    rw[if_neg]
    ·exact h1
    ·rintro rfl;exact elem_false' hd.1 (List.mem_map.2 ⟨(b,F'),ycs h1,rfl⟩)
where elem_false' {l:List Nat}{x:Nat}(h:l.elem x=false):x∉l:=by simpa using h
theorem ybcw{k:Nat->Nat}{α:Type}:∀{o:List (Nat×α)},difN (o.map fun p=>k p.1)=true->∀{b c:Nat}{F G:α},look o b=some F->look o c=some G->k b=k c->b=c
 |[],_,_,_,_,_,h,_,_=>by cases h
 | (a,A)::o,hd,b,c,F,G,h1,h2,he=>by
   have hd:(!(zK (k a) (o.map fun p=>k p.1))&&difN (o.map fun p=>k p.1))=true:=hd;rw[zA,zF]at hd
   have no:∀{x:Nat}{X:α},look o x=some X->k a≠k x:=fun {x X} hx e=>by
    have:k a∉o.map fun p=>k p.1:=by simpa using hd.1
    exact this (List.mem_map.2 ⟨(x,X),ycs hx,e.symm⟩)
   have h1:(if a=b then some A else look o b)=some F:=h1
   have h2:(if a=c then some A else look o c)=some G:=h2
   split at h1<;>split at h2
   ·rename_i p q;rw[<-p,<-q]
   ·rename_i p q;rw[<-p]at he;exact absurd he (no h2)
   ·rename_i p q;rw[<-q]at he;exact absurd he.symm (no h1)
   ·exact ybcw hd.2 h1 h2 he
theorem ybds{α:Type}{k:Nat->Nat}{r:Nat->α->α}:∀{o:List (Nat×α)},difN (o.map fun p=>k p.1)=true->∀{b:Nat}{F:α},look o b=some F->look (o.map fun p=>(k p.1,r p.1 p.2)) (k b)=some (r b F)
 |[],_,_,_,h=>by cases h
 | (a,A)::o,hd,b,F,h=>by
   have hd':(!(zK (k a) (o.map fun p=>k p.1))&&difN (o.map fun p=>k p.1))=true:=hd;rw[zA,zF]at hd';have h':(if a=b then some A else look o b)=some F:=h
   clear h
   show(if k a=k b then some (r a A)else look (o.map fun p=>(k p.1,r p.1 p.2)) (k b))=some (r b F)
   split at h'
   ·rename_i q;subst q;cases h';rw[if_pos rfl]
   ·rename_i q
    rw[if_neg]
    ·exact ybds hd'.2 h'
    ·intro e;have:k a∉o.map fun p=>k p.1:=by simpa using hd'.1
     exact this (List.mem_map.2 ⟨(b,F),ycs h',e.symm⟩)
open Classical in
noncomputable def yqe(ω ω':Om)(ρ:List (Nat×Nat))(base:Nat)(kb:List Nat)(o:Own):Om:=fun γ=>if kb.elem γ.1=true then ω γ else
 if h:∃b,(∃F,look o b=some F)/\nuF ρ base b=γ.1/\live o (b,γ.2)=true then ω' (zJ h,γ.2)else none
theorem yiy{ω':Om}{ρ:List (Nat×Nat)}{base:Nat}{kb:List Nat}{o':Own}(hd:difN (o'.map fun p=>nuF ρ base p.1)=true)(hk:(o'.all fun p=>!(kb.elem (nuF ρ base p.1)))=true){β:Nm}(hl:live o' β=true):yqe ω ω' ρ base kb o' (nu ρ base β)=ω' β:=by
 obtain⟨b,hb⟩:=ygg.1 hl;obtain⟨F,h1,h2⟩:=yea hb
 have hkb:kb.elem (nuF ρ base β.1)=false:=by
  have:=List.all_eq_true.1 hk _ (ycs h1)
  simpa using this
 unfold yqe;rw[if_neg (by show ¬kb.elem (nuF ρ base β.1)=true;rw[hkb];simp)]
 have hex:∃b,(∃F,look o' b=some F)/\nuF ρ base b=(nu ρ base β).1/\live o' (b,(nu ρ base β).2)=true:=⟨β.1,⟨F,h1⟩,rfl,hl⟩;rw[dif_pos hex];obtain⟨⟨F',q1⟩,q2,q3⟩:=zN hex;have:zJ hex=β.1:=ybcw hd q1 h1 q2;rw[this];rfl
theorem yso{ω':Om}{ρ:List (Nat×Nat)}{base:Nat}{kb:List Nat}{o':Own}{γ:Nm}(h:kb.elem γ.1=true):yqe ω ω' ρ base kb o' γ=ω γ:=by
 unfold yqe;rw[if_pos h]
theorem yit{ω':Om}{ρ:List (Nat×Nat)}{base:Nat}{kb:List Nat}{o':Own}{γ:Nm}{x:Option (Nat×Nat)}(h:yqe ω ω' ρ base kb o' γ=some x):(kb.elem γ.1=true/\ω γ=some x)\/(kb.elem γ.1=false/\∃β,live o' β=true/\nu ρ base β=γ/\ω' β=some x):=by
 unfold yqe at h;split at h
 ·rename_i q;exact .inl ⟨q,h⟩
 ·rename_i q
  split at h
  ·rename_i hex
   obtain⟨_,q2,q3⟩:=zN hex;exact .inr ⟨by simpa using q,(zJ hex,γ.2),q3,Prod.ext q2 rfl,h⟩
  ·cases h
theorem ybkl (hc:Conc lo F ω s f m) {fx:Operand}{args:Array Operand}{ats:Array TypeId}(hop:o.op = .call { callee:=.value fx,args:=args,argTypes:=ats }) {g:FuncId}{a b xs:List SV}(hf:s.get fx=some (.fn g a b)) (hx:s.gets args.toList=some xs)
 {pc:List Nm}{ρ:List (Nat×Nat)}{base:Nat}{keep kb:List Nat}{pr:List Nm}{o0:Own}{as:List SV}{Q:SV->Own->Prop}(hlen:(a++xs++b).length=as.length) (hw:WeakBy (to1 ρ) [] [] ⟨slots (a++xs++b) 0,s.o⟩ ⟨slots as 0,o0⟩)
 (hdom:∀p∈o0,(look ρ p.1).isSome=true) (hk:Kept pc s ρ pr o0 keep kb) (hct:Cm P g pr o0 as Q) :
 ∃ r2 F' ω'' rv o',One P f o m r2/\Q rv o'/\((difN (o'.map fun p=>nuF ρ base p.1)=true/\(o'.all fun p=>!(kb.elem (nuF ρ base p.1)))=true)->Conc lo F' ω'' (ynl s ρ base keep kb o') f r2.m/\RV F' ω'' (ren (nu ρ base) 5 rv) r2.v) /\
   m.next<=r2.m.next/\Le F F'/\(∀x b,F' x=some b->F x=some b\/lo<=x)/\((difN (o'.map fun p=>nuF ρ base p.1)=true/\(o'.all fun p=>!(kb.elem (nuF ρ base p.1)))=true)->∀β∈pc,∀x,ω β=some x->ω'' β=some x)/\r2.foot=none/\(o0=[]->r2.mods=some []):=by
 classical
 obtain⟨uf,e1,r1⟩:=hc.get hf;obtain⟨us,e2,r2⟩:=hc.gets hx
 obtain⟨A,B,rfl,rA,rB⟩:∃A B:List Value,uf = .func (.func g) A.toArray B.toArray/\RVL F ω a A/\RVL F ω b B:=by
  cases r1 with
  |fn h1 h2=>exact⟨_,_,rfl,h1,h2⟩
 have hall:RVL F ω (a++xs++b) (A++us++B):=(rA.append r2).append rB
 let f0:Fr:=⟨0,tOf (A++us++B)⟩
 have hc1:Conc lo F ω ⟨slots (a++xs++b) 0,s.o⟩ f0 m:=⟨hc.wf,hc.low,hc.nxt,hc.sub,hc.own,hc.dom,hc.inj,hc.apart,fun t v hv=>by
  obtain⟨_,h2⟩:=yjb hv;obtain⟨u,h3,h4⟩:=hall.get h2;exact⟨u,by show(tOf (A++us++B)).get t=some u;rw[ych];simpa using h3,h4⟩⟩
 have hc2:=hw.conc hc1;rw[ybqx]at hc2
 let ω0:Om:=omTo ω (to1 ρ) [] o0
 have hargs:RVL F ω0 as (A++us++B):=RVL.of_slots (hlen.symm.trans hall.length) fun k v hv=>by
  obtain⟨u,h1,h2⟩:=hc2.fr (0+k) v (ybdb hv);rw[Nat.zero_add]at h1;have h1:(tOf (A++us++B)).get k=some u:=h1;rw[ych]at h1;exact⟨u,h1,h2⟩
 have hc3:Conc lo F ω0 ⟨[],o0⟩ f m:=⟨hc2.wf,hc2.low,hc2.nxt,hc2.sub,hc2.own,hc2.dom,hc2.inj,hc2.apart,fun t v hv=>by cases hv⟩
 obtain⟨ft,k1,k2,k3⟩:=hc3.only
 have hc4:Conc lo F ω0 ⟨[],o0⟩ f (m.only ft):=⟨yez hc.wf,hc.low,hc.nxt,k2,fun β b hb=>by
  rcases hc3.own β b hb with⟨k,T,L,h1,h0,h2,h3⟩|h
  ·exact .inl ⟨k,T,L,h1,h0,k3 β k _ h1 _ h2,h3⟩
  ·exact .inr h,hc3.dom,hc3.inj,hc3.apart,fun t v hv=>by cases hv⟩
 have hct2:∃v m' r o' G' ω',ybl P (.call g (A++us++B) (m.only ft)) (.call v m')/\Conc lo G' ω' ⟨[],o'⟩ f m'/\RV G' ω' r v/\Le F G'/\(∀x b,G' x=some b->F x=some b\/lo<=x)/\(∀β∈pr,∀x,ω0 β=some x->ω' β=some x) /\
  (cln (live o') 5 r=true/\allQ (fun p=>ydh (live o') p.2) o'/\allQ (fun β=>live o' β=true) pr)/\Q r o'/\(o0=[]->m.next<=m'.low):=by
  by_cases h0:o0=[]
  ·subst h0
   have hω00:∀β,ω0 β=none:=fun β=>by
    show(if live [] β=true then _ else none)=none
    rw[if_neg (by intro q;cases q)]
   have hc5:Conc m.next F ω0 ⟨[],[]⟩ f ⟨m.next,(m.only ft).b,m.next⟩:=⟨yez hc.wf,zI _,zI _,k2,fun β b hb=>(by cases hb),fun β _=>hω00 β,fun β γ k z k' z' h1=>(by rw[hω00 β]at h1;cases h1),fun β k z h1=>(by rw[hω00 β]at h1;cases h1),fun t v hv=>(by cases hv)⟩
   obtain⟨v,m',r,o',G',ω',s1,c',rv,hle,hnew,hpr,hcl,hq⟩:=hct m.next F ω0 f _ _ hc5 hargs
   have hlo:lo<=m.next:=hc.nxt
   exact⟨v,m',r,o',G',ω',ybl.relow (b:=(m.only ft).b) s1,⟨c'.wf,zB hlo c'.low,zB hlo c'.nxt,c'.sub,c'.own,c'.dom,c'.inj,fun β k z h=>⟨(c'.apart β k z h).1,zB hlo (c'.apart β k z h).2.1,(c'.apart β k z h).2.2⟩,c'.fr⟩,rv,hle,fun x b h=>(hnew x b h).imp id (zB hlo),hpr,hcl,hq,fun _=>c'.low⟩
  ·obtain⟨v,m',r,o',G',ω',s1,c',rv,hle,hnew,hpr,hcl,hq⟩:=hct lo F ω0 f (m.only ft) _ hc4 hargs;exact⟨v,m',r,o',G',ω',s1,c',rv,hle,hnew,hpr,hcl,hq,fun e=>absurd e h0⟩
 obtain⟨v,m',r,o',G',ω',s1,c',rv,hle,hnew,hpr,⟨cl1,cl2,cl3⟩,hq,hlow0⟩:=hct2;have hs:=ybl.rest hc.wf s1;have hext:=(s1 (yez hc.wf)).1;have hnext:m.next<=m'.next:=hext.next
 have hft:∀{i x},m'.b.get i=some x->i<m.next->i∈ft:=fun {i x} q h=>by
  rcases hext.dom i x q with⟨y,hy⟩|q2
  ·exact(ycm.1 hy).1
  ·exact absurd q2.1 (Nat.not_le.2 h)
 have hω0:∀{β x},ω0 β=some x->live o0 β=true/\ω (to1 ρ β)=some x:=fun {β x} q=>by
  have q:(if live o0 β=true then(if zK β.1 []=true then some none else ω (to1 ρ β))else none)=some x:=q
  split at q
  ·rename_i hl;rw[if_neg (by simp)]at q;exact⟨hl,q⟩
  ·cases q
 have hto:∀{β},live o0 β=true->∃c,look ρ β.1=some c/\to1 ρ β=(c,β.2):=fun {β} hl=>by
  obtain⟨b,hb⟩:=ygg.1 hl;obtain⟨F1,h1,_⟩:=yea hb;obtain⟨c,hcc⟩:=Option.isSome_iff_exists.1 (hdom _ (ycs h1));have hcc:look ρ β.1=some c:=hcc;exact⟨c,hcc,by unfold to1;rw[hcc]⟩
 have hkeep:∀{γ k z},ω γ=some (some (k,z))->kb.elem γ.1=true->k∉ft:=fun {γ k z} hk1 hkb hm=>by
  rcases(k1 k hm).2 with⟨x,hx⟩|⟨β,z',hb⟩
  ·rw[(hc.apart γ k z hk1).1]at hx;cases hx
  ·obtain⟨q1,q2⟩:=hω0 hb;obtain⟨c,q3,q4⟩:=hto q1
   have hne:γ≠to1 ρ β:=fun e=>by
    have:=hk.apart _ (ycs q3);rw[e,q4]at hkb;rw[this]at hkb;cases hkb
   exact hc.inj γ _ k z k z' hk1 q2 hne rfl
 have hback:backM m.low (Mem.rest m' m ft)=⟨m'.next,(Mem.rest m' m ft).b,zT m.low m'.low⟩:=ycx _ _
 let ω'':=yqe ω ω' ρ base kb o'
 have hmean:((difN (o'.map fun p=>nuF ρ base p.1)=true/\(o'.all fun p=>!(kb.elem (nuF ρ base p.1)))=true)->∀β x,okN ρ pr kb β=true->ω β=some x->ω'' β=some x):=fun hd β x hok hx=>by
  unfold okN at hok;rw[Bool.or_eq_true]at hok;rcases hok with h|h
  ·exact(yso h).trans hx
  ·obtain⟨q,hq1,hq2⟩:=List.any_eq_true.1 h;rw[zA]at hq2;have hlo0:=yby hk.prl q hq1;obtain⟨c,q3,q4⟩:=hto hlo0;rw[q3]at hq2
   have e:β=nu ρ base q:=by
    have h1:=of_decide_eq_true hq2.1;have h2:=of_decide_eq_true hq2.2;refine Prod.ext ?_ h2.symm;show β.1=nuF ρ base q.1;unfold nuF;rw[q3];exact h1.symm
   have e':β=to1 ρ q:=by
    rw[q4];exact Prod.ext (of_decide_eq_true hq2.1).symm (of_decide_eq_true hq2.2).symm
   have h0:ω0 q=some x:=by
    show(if live o0 q=true then(if zK q.1 []=true then some none else ω (to1 ρ q))else none)=some x
    rw[if_pos hlo0,if_neg (by simp),<-e'];exact hx
   have hl':=yby cl3 q hq1;rw[e];exact(yiy hd.1 hd.2 hl').trans (hpr q hq1 x h0)
 have hself:ydn P (fun t=>if t = .call g (A++us++B) m then some (.call v (Mem.rest m' m ft))else none):=by
  intro t out h;simp only at h;split at h
  ·rename_i e;subst e;cases h;exact hs
  ·cases h
 refine⟨⟨v,backM m.low (Mem.rest m' m ft),none,iteB (zU m.next (Mem.rest m' m ft).low) (some []) none⟩,G',ω'',r,o',.inl ⟨_,hself,?_⟩,hq,fun hd=>⟨?_,?_⟩,by rw[hback];exact hnext,hle,hnew,fun hd β hβ x hx=>hmean hd β x (yby hk.pin β hβ) hx,rfl,fun e=>?_⟩
 ·unfold evOne evOne1;rw[hop];show(ob (f.get fx) fun g=>ob (valsA f args.toList) fun vs=>evCall _ m vs g)=_;rw[e1];show(ob (valsA f args.toList) fun vs=>evCall _ m vs _)=_;rw[e2];show ob ((fun t=>if t=Task.call g (A++us++B) m then some (Out.call v (Mem.rest m' m ft))else none) (.call g (A.toArray.toList++us++B.toArray.toList) m)) (afterCall m)=_
  simp only[if_true];rfl
 ·-- the state behind
  show Conc lo G' ω'' _ f (backM m.low (Mem.rest m' m ft));rw[hback]
  have hnewAt:∀{γ ob},lookO (o'.map (fun p=>(nuF ρ base p.1,p.2.ren (nu ρ base)))) γ=some ob->∃β ob0,nu ρ base β=γ/\lookO o' β=some ob0/\ob=ob0.ren (nu ρ base):=fun {γ ob} h=>by
   obtain⟨Fm,h1,h2⟩:=yea h;obtain⟨b',F',q1,q2,q3⟩:=ybcp (r:=fun _ F=>F.ren (nu ρ base)) hd.1 h1;subst q3;refine⟨(b',γ.2),?_⟩;rcases ypd h2 with⟨e,hz⟩|⟨gg,e,hg⟩
   ·cases F' with
    | one x =>
      cases x with
      |none=>cases e
      | some ob0 =>
        simp only[Fam.ren]at e;cases e
        refine⟨ob0,Prod.ext q2 rfl,?_,rfl⟩;unfold lookO;simp only[q1,Fam.at,hz,if_true]
    |many _=>cases e
   ·cases F' with
    |one x=>cases x<;>cases e
    | many g0 =>
      simp only[Fam.ren]at e;cases e
      simp only at hg;split at hg
      ·rename_i ob0 hg0
       cases hg
       refine⟨ob0,Prod.ext q2 rfl,?_,rfl⟩;unfold lookO;simp only[q1,Fam.at];exact hg0
      ·cases hg
  have hbk:∀{γ ob},lookO (ynl s ρ base keep kb o').o γ=some ob->(∃β ob0,nu ρ base β=γ/\lookO o' β=some ob0/\ob=ob0.ren (nu ρ base))\/(kb.elem γ.1=true/\lookO s.o γ=some ob):=fun {γ ob} h=>by
   have h:(match look (o'.map (fun p=>(nuF ρ base p.1,p.2.ren (nu ρ base)))++yeg s.o kb) γ.1 with|some F=>F.at γ.2|none=>none)=some ob:=h
   rw[ypt]at h;cases hl:look (o'.map (fun p=>(nuF ρ base p.1,p.2.ren (nu ρ base)))) γ.1 with
   | some Fm =>
     rw[hl]at h;exact .inl (hnewAt (by unfold lookO;rw[hl];exact h))
   | none =>
     rw[hl]at h;simp only[ylj]at h
     by_cases hm:γ.1∈kb
     ·rw[if_pos hm]at h;exact .inr ⟨by simpa using hm,h⟩
     ·rw[if_neg hm]at h;cases h
  refine⟨fun i x hx=>?_,?_,zB hc.nxt hnext,fun i x hx=>ygb.2 (.inl (c'.sub i x hx)),fun γ ob hob=>?_,fun γ hγ=>?_,fun γ δ k z k' z' h1 h2 hne=>?_,fun γ k z h1=>?_,fun t w hw'=>?_⟩
  ·rcases ygb.1 hx with q|⟨_,_,q⟩
   ·exact c'.wf i x q
   ·exact zC (hc.wf i x q) hnext
  ·show lo<=zT m.low m'.low;have:=hc.low;have:=c'.low;rw[zV];omega
  ·rcases hbk hob with⟨β,ob0,rfl,h2,rfl⟩|⟨h1,h2⟩
   ·have hlive:live o' β=true:=ygg.2 ⟨_,h2⟩
    have hcln:yho (live o') ob0:=by
     obtain⟨Fm,q1,q2⟩:=yea h2;have:=yby cl2 _ (ycs q1);rcases ypd q2 with⟨rfl,_⟩|⟨gg,rfl,hg⟩
     ·exact this
     ·exact this _ _ hg
    have hom:ω'' (nu ρ base β)=ω' β:=yiy hd.1 hd.2 hlive;rcases c'.own β ob0 h2 with⟨k,T,L,g1,g0,g2,g3⟩|⟨g1,g2,g3⟩
    ·refine .inl ⟨k,T,L,hom.trans g1,g0,ygb.2 (.inl g2),fun i hi=>?_⟩;obtain⟨l1,l2,l3,l4⟩:=g3 i hi;exact⟨l1,l2.map_get fun v u hv hr=>yyu (fun β x hl hx=>(yiy hd.1 hd.2 hl).trans hx) hr (List.all_eq_true.1 (hcln i hi) v hv),yyq (ybse _ _) l3,l4⟩
    ·exact .inr ⟨hom.trans g1,g2,g3⟩
   ·have hom:ω'' γ=ω γ:=yso h1
    have hcln:yho (okN ρ pr kb) ob:=by
     obtain⟨Fm,q1,q2⟩:=yea h2;have hmem:look (yeg s.o kb) γ.1=some Fm:=by rw[ylj,if_pos (by simpa using h1)];exact q1
     have:=yby hk.own _ (ycs hmem);rcases ypd q2 with⟨rfl,_⟩|⟨gg,rfl,hg⟩
     ·exact this
     ·exact this _ _ hg
    rcases hc.own γ ob h2 with⟨k,T,L,g1,g0,g2,g3⟩|⟨g1,g2,g3⟩
    ·have hkft:=hkeep g1 h1;have hlt:=(hc.apart γ k _ g1).2.2;refine .inl ⟨k,T,L,hom.trans g1,g0,ygb.2 (.inr ⟨?_,hkft,g2⟩),fun i hi=>?_⟩
     ·cases hq':m'.b.get k with
      |none=>rfl
      |some y=>exact absurd (hft hq' hlt) hkft
     ·obtain⟨l1,l2,l3,l4⟩:=g3 i hi;exact⟨l1,(l2.of_get fun v u hv hr=>ybde (hmean hd) hr (List.all_eq_true.1 (hcln i hi) v hv)).mono hle (Om.le_refl _),l3,l4⟩
    ·exact .inr ⟨hom.trans g1,g2,g3⟩
  ·have hγ:look (o'.map (fun p=>(nuF ρ base p.1,p.2.ren (nu ρ base)))++yeg s.o kb) γ.1=none:=hγ;rw[ypt]at hγ;cases hw2:ω'' γ with
   |none=>rfl
   | some x =>
     exfalso
     rcases yit hw2 with⟨h1,h2⟩|⟨_,β,h1,rfl,_⟩
     ·cases hl:look (o'.map (fun p=>(nuF ρ base p.1,p.2.ren (nu ρ base)))) γ.1 with
      |some Fm=>rw[hl]at hγ;cases hγ
      | none =>
        rw[hl,ylj,if_pos (by simpa using h1)]at hγ
        rw[hc.dom γ hγ]at h2;cases h2
     ·obtain⟨b,hb⟩:=ygg.1 h1;obtain⟨Fm,q1,_⟩:=yea hb;have:=ybds (r:=fun _ F=>F.ren (nu ρ base)) hd.1 q1;have e:(nu ρ base β).1=nuF ρ base β.1:=rfl;rw[e,this]at hγ;cases hγ
  ·have key:∀{γ k z},ω γ=some (some (k,z))->kb.elem γ.1=true->∀{β z'},live o' β=true->ω' β=some (some (k,z'))->False:=fun {γ k z} hk1 hkb {β z'} hl hk2=>by
    obtain⟨ob,hb⟩:=ygg.1 hl;obtain⟨rfl,T,L,g1,_⟩:=c'.ownAt hb hk2;exact hkeep hk1 hkb (hft g1 (hc.apart γ k z hk1).2.2)
   intro e;subst e;rcases yit h1 with⟨a1,a2⟩|⟨a1,β,a2,a3,a4⟩<;>rcases yit h2 with⟨b1,b2⟩|⟨b1,β',b2,b3,b4⟩
   ·exact hc.inj γ δ k z k z' a2 b2 hne rfl
   ·exact key a2 a1 b2 b4
   ·exact key b2 b1 a2 a4
   ·exact c'.inj β β' k z k z' a4 b4 (fun e=>hne (by rw[<-a3,<-b3,e])) rfl
  ·rcases yit h1 with⟨a1,a2⟩|⟨a1,β,a2,a3,a4⟩
   ·obtain⟨q1,q2,q3⟩:=hc.apart γ k z a2;refine⟨?_,q2,zC q3 hnext⟩;cases hG:G' k with
    |none=>rfl
    |some y=>exact absurd (hft (c'.sub _ _ hG) q3) (hkeep a2 a1)
   ·exact c'.apart β k z a4
  ·have hw':look (yey s.f keep) t=some w:=hw';obtain⟨u,g1,g2⟩:=hc.fr t w (yrg hw');exact⟨u,g1,(ybde (hmean hd) g2 (yby hk.slot _ (ycs hw'))).mono hle (Om.le_refl _)⟩
 ·exact yyu (fun β x hl hx=>(yiy hd.1 hd.2 hl).trans hx) rv cl1
 ·show iteB (zU m.next m'.low) (some []) none=some []
  rw[yba,if_pos (zM (hlow0 e))]
end
end Sh
end
end Go.Proofs.YtiejahgklcjhkaaGreat
