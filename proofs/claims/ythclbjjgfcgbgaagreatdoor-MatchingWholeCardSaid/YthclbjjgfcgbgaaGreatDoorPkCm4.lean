/- Joined. -/
import Derived.Test.YthclbjjgfcgbgaaGreatDoorPkCm3
set_option linter.unusedSimpArgs false
set_option linter.unusedVariables false
open Nat renaming ble_eq_true_of_le->zA,succ->zB,eq_of_beq_eq_true->zC,beq->zD,beq_refl->zF,add_mul->zK,zero_add->zM,mul_le_mul_right->zQ,lt_irrefl->zT,mul_comm->zW,le_refl->zY,div_lt_of_lt_mul->zZ,succ_mul->zAB,ble->zAD,min->zAE,min_eq_left->zAG,not_lt_zero->zAI,div_add_mod->zAJ,sub->zAK,add_assoc->zAL,zero_mul->zAM,add_zero->zAN,le_min->zAP,mod_lt->zAQ
open Option renaming getD_some->zG,bind_assoc->zU
open Bool renaming and_eq_true->zH
open List renaming getElem?_append_right->zI,getElem?_append_left->zJ,all_append->zL,all_cons->zN,length_map->zO,length_append->zS,append_assoc->zV,mem_cons_of_mem->zAA,getElem?_drop->zAC,length_take->zAF,forIn_cons->zAH,range'->zAO
open Int renaming eq_ofNat_of_zero_le->zX
open Go
namespace Go.Proofs.YthclbjjgfcgbgaaGreatDoor
section
namespace Sh
open Go Ev
section
variable {P:Program}{lo:Nat}{F:AM}{ω:Om}{s:SS}{f:Fr}{m:Mem}{o:Oper}{c:Prop}{r:SRec}
theorem wrap_in{k:IntKind}{n:Int}(h:inK k n):k.wrap n=n:=by
 obtain⟨h1,h2⟩:=h;unfold IntKind.wrap;cases k<;>simp[IntKind.min,IntKind.max,IntKind.bits,IntKind.signed]at *<;>omega
theorem yw{α β:Type}(P:Program)(k:α->Sem β):∀{S:Sem α}{a:α},runPure P S=some a->runPure P (S >>= k)=runPure P (k a):=by
 intro S
 induction S with
 |pure x=>intro a h;cases h;rfl
 |program j ih=>intro a h;exact ih P h
 |_=>intro a h;cases h
theorem yhc{u:Value}{us:List Value}(hus:valsA f o.op.operands.toList=some us)(ha:us.all atomA=true)(hr:runPure P (execOp (fun x=>(f.get x).getD undef) o)=some (.value u))(hu:atomA u=true):pureA P f o=some ⟨u,.none,[]⟩:=by
 unfold pureA;rw[hus];simp only[ha,cond_true];rw[hr];simp only[hu,cond_true]
theorem ybam{x y:Operand}{a b:Value}(hx:f.get x=some a)(hy:f.get y=some b):valsA f [x,y]=some [a,b]:=by
 unfold valsA;rw[hx];simp only;unfold valsA;rw[hy];rfl
theorem yclm{x:Operand}{a:Value}(hx:f.get x=some a):valsA f [x]=some [a]:=by
 unfold valsA;rw[hx];rfl
theorem ybo{t:TypeId}{d:TypeDesc}(h:P.underlying t=some d):runPure P (underlying t)=some d:=by
 unfold underlying;show runPure P (match P.underlying t with|some d=>_|none=>_)=_
 rw[h];rfl
theorem ydro(hc:Conc lo F ω s f m){xt yt:TypeId}{x y:Operand}(hop:o.op = .binOp .sub xt x y yt){k:IntKind}{n n':Int}(hx:s.get x=some (.i k n))(hy:s.get y=some (.i k n')):OpS P lo F ω f m o ⟨c,r,.i k (k.wrap (n-n')),s⟩:=by
 obtain⟨a,e1,r1⟩:=hc.get hx;obtain⟨b,e2,r2⟩:=hc.get hy;have hev:evOp P f o m=pureA P f o:=by unfold evOp;rw[hop]
 cases r1.int_inv
 cases r2.int_inv
 have hguard:runPure P (do eqGuard .sub xt x y (.int k n) (.int k n');binOp .sub xt (.int k n) (.int k n'):Sem Value)=some (.int k (k.wrap (n-n'))):=by
  have:runPure P (eqGuard .sub xt x y (.int k n) (.int k n'))=some ():=rfl;refine(yw P (fun _=>binOp .sub xt (.int k n) (.int k n')) this).trans ?_;show runPure P (if k≠k then _ else _)=_
  rw[if_neg (by simp)]
  rfl
 have hrun:runPure P (execOp (fun x=>(f.get x).getD undef) o)=some (.value (.int k (k.wrap (n-n')))):=by
  unfold execOp;rw[hop];simp only[e1,e2,zG];exact(yw P (fun v=>pure (Next.value v)) hguard).trans rfl
 refine OpS.idle hc (u:=.int k (k.wrap (n-n'))) ?_ .i;rw[hev];exact yhc (us:=[.int k n,.int k n']) (by rw[hop];exact ybam e1 e2) rfl hrun rfl
theorem ydxh(hc:Conc lo F ω s f m){xt yt:TypeId}{x y:Operand}(hop:o.op = .binOp .add xt x y yt){k:IntKind}{n n':Int}(hx:s.get x=some (.i k n))(hy:s.get y=some (.i k n')):OpS P lo F ω f m o ⟨c,r,.i k (k.wrap (n+n')),s⟩:=by
 obtain⟨a,e1,r1⟩:=hc.get hx;obtain⟨b,e2,r2⟩:=hc.get hy;have hev:evOp P f o m=pureA P f o:=by unfold evOp;rw[hop]
 cases r1.int_inv
 cases r2.int_inv
 have hguard:runPure P (do eqGuard .add xt x y (.int k n) (.int k n');binOp .add xt (.int k n) (.int k n'):Sem Value)=some (.int k (k.wrap (n+n'))):=by
  have:runPure P (eqGuard .add xt x y (.int k n) (.int k n'))=some ():=rfl;refine(yw P (fun _=>binOp .add xt (.int k n) (.int k n')) this).trans ?_;show runPure P (if k≠k then _ else _)=_
  rw[if_neg (by simp)]
  rfl
 have hrun:runPure P (execOp (fun x=>(f.get x).getD undef) o)=some (.value (.int k (k.wrap (n+n')))):=by
  unfold execOp;rw[hop];simp only[e1,e2,zG];exact(yw P (fun v=>pure (Next.value v)) hguard).trans rfl
 refine OpS.idle hc (u:=.int k (k.wrap (n+n'))) ?_ .i;rw[hev];exact yhc (us:=[.int k n,.int k n']) (by rw[hop];exact ybam e1 e2) rfl hrun rfl
theorem yebr(hc:Conc lo F ω s f m){op:BinOp}{xt yt:TypeId}{x y:Operand}(hop:o.op = .binOp op xt x y yt){v w:SV}(hx:s.get x=some v)(hy:s.get y=some w){q:Prop×SV}(h:xbin op v w=some q)(hq:q.1):OpS P lo F ω f m o ⟨c,r,q.2,s⟩:=by
 obtain⟨a,e1,r1⟩:=hc.get hx;obtain⟨b,e2,r2⟩:=hc.get hy;have hev:evOp P f o m=pureA P f o:=by unfold evOp;rw[hop]
 have main:∀{u:Value},atomA a=true->atomA b=true->atomA u=true->runPure P (execOp (fun x=>(f.get x).getD undef) o)=some (.value u)->RV F ω q.2 u->OpS P lo F ω f m o ⟨c,r,q.2,s⟩:=by
  intro u h1 h2 h3 h4 h5;refine OpS.idle hc (u:=u) ?_ h5;rw[hev];exact yhc (us:=[a,b]) (by rw[hop];exact ybam e1 e2) (by simp[h1,h2]) h4 h3
 unfold xbin at h;split at h
 .rename_i k n k' n'
  cases r1.int_inv
  cases r2.int_inv
  have hrun:∀{u:Value},runPure P (do eqGuard op xt x y (.int k n) (.int k' n');binOp op xt (.int k n) (.int k' n'):Sem Value)=some u->runPure P (execOp (fun x=>(f.get x).getD undef) o)=some (.value u):=by
   intro u hu;unfold execOp;rw[hop];simp only[e1,e2,zG];exact(yw P (fun v=>pure (Next.value v)) hu).trans rfl
  have hguard:∀{S:Sem Value}{u:Value},runPure P S=some u->runPure P (do eqGuard op xt x y (.int k n) (.int k' n');S:Sem Value)=some u:=by
   intro S u hu;have:runPure P (eqGuard op xt x y (.int k n) (.int k' n'))=some ():=by cases op<;>rfl
   exact(yw P (fun _=>S) this).trans hu
  cases op with
  | add =>
    simp only at h;split at h
    .rename_i hk;subst hk;cases h
     refine main rfl rfl rfl (hrun (hguard (u:=.int k (n+n')) ?_)) .i;show runPure P (if k≠k then _ else _)=_
     rw[if_neg (by simp)]
     show some (Value.int k (k.wrap (n+n')))=_;rw[wrap_in hq]
    .cases h
  | sub =>
    simp only at h;split at h
    .rename_i hk;subst hk;cases h
     refine main rfl rfl rfl (hrun (hguard (u:=.int k (n-n')) ?_)) .i;show runPure P (if k≠k then _ else _)=_
     rw[if_neg (by simp)]
     show some (Value.int k (k.wrap (n-n')))=_;rw[wrap_in hq]
    .cases h
  | mul =>
    simp only at h;split at h
    .rename_i hk;subst hk;cases h
     refine main rfl rfl rfl (hrun (hguard (u:=.int k (n*n')) ?_)) .i;show runPure P (if k≠k then _ else _)=_
     rw[if_neg (by simp)]
     show some (Value.int k (k.wrap (n*n')))=_;rw[wrap_in hq]
    .cases h
  | quo =>
    simp only at h;split at h
    .rename_i hk;subst hk;cases h
     refine main rfl rfl rfl (hrun (hguard (u:=.int k (n.tdiv n')) ?_)) .i;show runPure P (if k≠k then _ else _)=_
     rw[if_neg (by simp)]
     show runPure P (if n'=0 then _ else _)=_
     rw[if_neg hq.1];show some (Value.int k (k.wrap (n.tdiv n')))=_;rw[wrap_in hq.2]
    .cases h
  | rem =>
    simp only at h;split at h
    .rename_i hk;subst hk;cases h
     refine main rfl rfl rfl (hrun (hguard (u:=.int k (n.tmod n')) ?_)) .i;show runPure P (if k≠k then _ else _)=_
     rw[if_neg (by simp)]
     show runPure P (if n'=0 then _ else _)=_
     rw[if_neg hq];rfl
    .cases h
  | shl =>
    cases h
    refine main rfl rfl rfl (hrun (hguard (u:=.int k (k.wrap (n*2^n'.toNat))) ?_)) .i;show runPure P (if n'<0 then _ else _)=_
    obtain⟨h0,h1⟩:0<=n'/\n'<k.bits:=hq;rw[if_neg (by omega)]
    show some (Value.int k (k.wrap (n*2^(min n'.toNat k.bits))))=_;rw[zAG (by omega)]
  | shr =>
    cases h
    refine main rfl rfl rfl (hrun (hguard (u:=.int k (n.fdiv (2^n'.toNat))) ?_)) .i;show runPure P (if n'<0 then _ else _)=_
    obtain⟨h0,h1⟩:0<=n'/\n'<k.bits:=hq;rw[if_neg (by omega)]
    show some (Value.int k (n.fdiv (2^(min n'.toNat k.bits))))=_;rw[zAG (by omega)]
  | and|or|xor|andNot =>
    simp only at h;split at h
    .rename_i hk;subst hk;cases h
     refine main rfl rfl rfl (hrun (hguard ?_)) .i;show runPure P (if k≠k then _ else _)=_
     rw[if_neg (by simp)]
     rfl
    .cases h
  | eql|neq|lss|leq|gtr|geq =>
    simp only at h;split at h
    .rename_i hk;subst hk;cases h
     refine main rfl rfl rfl (hrun (hguard ?_)) .b;show runPure P (if k≠k then _ else _)=_
     rw[if_neg (by simp)]
     rfl
    .cases h
 .cases h
theorem ydvd(hc:Conc lo F ω s f m){ne:Bool}{xt yt:TypeId}{x y:Operand}(hop:o.op = .binOp (if ne then .neq else .eql) xt x y yt)(ht:P.underlying xt=some .bool){a b:Bool}(hx:s.get x=some (.b a))(hy:s.get y=some (.b b)):OpS P lo F ω f m o ⟨c,r,.b (if ne then a != b else a==b),s⟩:=by
 obtain⟨u,e1,r1⟩:=hc.get hx;obtain⟨u',e2,r2⟩:=hc.get hy;cases r1.bool_inv
 cases r2.bool_inv
 have hev:evOp P f o m=pureA P f o:=by unfold evOp;rw[hop]
 have heq:runPure P (Op.equal xt (.bool a) (.bool b))=some (a==b):=by
  unfold Op.equal Op.maxDepth Op.equalIn;exact(yw P _ (ybo ht)).trans rfl
 refine OpS.idle hc (u:=.bool (if ne then a != b else a==b)) ?_ .b
 rw[hev];refine yhc (us:=[.bool a,.bool b]) (by rw[hop];exact ybam e1 e2) rfl ?_ rfl
 unfold execOp;rw[hop];simp only[e1,e2,zG];cases ne with
 | true =>
   refine(yw P (fun v=>pure (Next.value v)) (a:=.bool (a != b)) ?_).trans rfl;exact(yw P (fun v=>pure (Value.bool (!v))) heq).trans (by cases a<;>cases b<;>rfl)
 | false =>
   refine(yw P (fun v=>pure (Next.value v)) (a:=.bool (a==b)) ?_).trans rfl;exact(yw P (fun v=>pure (Value.bool v)) heq).trans rfl
theorem ybn{α β:Type}(P:Program)(k:α->Sem β):∀(S:Sem α),runPure P (S >>= k)=(runPure P S).bind fun a=>runPure P (k a):=by
 intro S
 induction S with
 |pure x=>rfl
 |program j ih=>exact ih P
 |_=>rfl
def fsK(P:Program):Nat->List Field->Option (List Bool)
 |_,[]=>some []
 | o, f :: fs => if f.offset = o /\ (f.name == "_") = false then (match P.underlying f.type with
   |some (.int _)=>(fsK P (o+1) fs).map (false :: ·)
   |some .bool=>(fsK P (o+1) fs).map (true :: ·)
   |_=>none)else none
theorem yhy{e:TypeId}{xs:Array Value}{n:Nat}{v:Value}{d:TypeDesc}(hd:P.underlying e=some d)(hs:isAggD d=false)(hv:xs[n]?=some v):runPure P (Go.part e xs n)=some v:=by
 unfold Go.part isAgg;rw[ybn,ybn,ybo hd]
 have h2:runPure P (match d with
  |.struct _ | .array _ _=>pure true
  |_=>pure false)=some false:=by cases d<;>first|rfl|cases hs
 refine(congrArg (fun z=>Option.bind z fun a=>runPure P (if a=true then(fun a=>Value.agg (xs.extract n (n+a))) <$> sizeOf e else match xs[n]? with
  |some v=>pure v
  | none => stuck "part: no such cell")) h2).trans ?_
 show runPure P (if false=true then _ else _)=_
 rw[if_neg (by simp),hv]
 rfl
theorem ygw(d:Nat)(t:TypeId)(xs ys:Array Value){fa:Array Field}(ht:P.underlying t=some (.struct fa))(hp:P.stoodInHeld t=false) :
 runPure P (Op.equalIn (d+1) t (.agg xs) (.agg ys))=runPure P (Op.eqFields d xs ys fa.toList):=by
 unfold Op.equalIn;refine(yw P _ (ybo ht)).trans ?_;show runPure P (program >>= _)=_;refine(yw P _ (a:=P) rfl).trans ?_;simp only[hp,Bool.false_eq_true,if_false];rw[<-Array.forIn_toList]
 generalize fa.toList=fs
 clear ht
 induction fs with
 |nil=>rfl
 | cons f fs ih =>
   simp only[zAH,Op.eqFields];split
   .simp only[ybn,zU];refine congrArg (fun k=>(runPure P (Go.part f.type xs f.offset)).bind k) (funext fun a=>?_);refine congrArg (fun k=>(runPure P (Go.part f.type ys f.offset)).bind k) (funext fun b=>?_);refine congrArg (fun k=>(runPure P (Op.equalIn d f.type a b)).bind k) (funext fun r=>?_);cases r
    .rfl
    .simp only[ybn]at ih;exact ih
   .simp only[ybn,zU]at ih ⊢;exact ih
theorem ybww{ks:List Bool}{l l':List SV}{q:Bool}(h:eqL (false::ks) l l'=some q):∃k n m a b q2,l = .i k n::a/\l' = .i k m::b/\eqL ks a b=some q2/\q=(decide (n=m)&&q2):=by
 match l,l',h with
 | .i k n::a,.i k' m::b,h =>
   simp only[eqL]at h;split at h
   .rename_i e;subst e;obtain⟨q2,hq,rfl⟩:=Option.map_eq_some_iff.1 h;exact⟨k,n,m,a,b,q2,rfl,rfl,hq,rfl⟩
   .cases h
theorem ybnw{ks:List Bool}{l l':List SV}{q:Bool}(h:eqL (true::ks) l l'=some q):∃x y a b q2,l = .b x::a/\l' = .b y::b/\eqL ks a b=some q2/\q=((x==y)&&q2):=by
 match l,l',h with
 | .b x::a,.b y::b,h =>
   simp only[eqL]at h;obtain⟨q2,hq,rfl⟩:=Option.map_eq_some_iff.1 h;exact⟨x,y,a,b,q2,rfl,rfl,hq,rfl⟩
theorem ybuy{l l':List SV}{q:Bool}(h:eqL [] l l'=some q):l=[]/\l'=[]/\q=true:=by
 match l,l',h with
 |[],[],h=>cases h;exact⟨rfl,rfl,rfl⟩
theorem yqd{d:Nat}{xs ys:List Value}:∀(fs:List Field) (ks:List Bool) (k:Nat) (l l':List SV) (q:Bool),fsK P k fs=some ks->eqL ks l l'=some q->RVL F ω l (xs.drop k)->RVL F ω l' (ys.drop k)->runPure P (Op.eqFields (d+1) xs.toArray ys.toArray fs)=some q
 | [],ks,k,l,l',q,h1,h2,_,_=>by
   cases h1
   obtain⟨rfl,rfl,rfl⟩:=ybuy h2;rfl
 | f :: fs,ks,k,l,l',q,h1,h2,h3,h4=>by
   unfold fsK at h1;split at h1
   .rename_i hf
    have main:∀{ks':List Bool}{a b:Value}{la lb:List SV}{q1 q2:Bool}{dd:TypeDesc},P.underlying f.type=some dd->isAggD dd=false->xs.drop k=a::xs.drop (k+1)->ys.drop k=b::ys.drop (k+1)->RVL F ω la (xs.drop (k+1))->RVL F ω lb (ys.drop (k+1)) ->
     runPure P (Op.equalIn (d+1) f.type a b)=some q1->fsK P (k+1) fs=some ks'->eqL ks' la lb=some q2->runPure P (Op.eqFields (d+1) xs.toArray ys.toArray (f::fs))=some (q1&&q2):=by
     intro ks' a b la lb q1 q2 dd hd ha ex ey ra rb he hk hq;have ih:=yqd (d:=d) fs ks' (k+1) la lb q2 hk hq ra rb;unfold Op.eqFields;have hn : f.name ≠ "_" := by simpa using hf.2
     rw[if_pos hn,hf.1]
     have gx:xs.toArray[k]?=some a:=by
      have:=congrArg (fun l=>l[0]?) ex
      simpa using this
     have gy:ys.toArray[k]?=some b:=by
      have:=congrArg (fun l=>l[0]?) ey
      simpa using this
     rw[yw P _ (yhy hd ha gx),yw P _ (yhy hd ha gy),yw P _ he];cases q1
     .rfl
     .exact ih
    have cons:∀{v:SV}{l:List SV}{zs:List Value}{k:Nat},RVL F ω (v::l) (zs.drop k)->∃a,zs.drop k=a::zs.drop (k+1)/\RV F ω v a/\RVL F ω l (zs.drop (k+1)):=by
     intro v l zs k h
     generalize hz:zs.drop k=z at h
     cases h with
     | cons h1 h2 =>
       rename_i u L
       have:zs.drop (k+1)=L:=by have e:=congrArg (List.drop 1) hz;rw[List.drop_drop]at e;exact e
       rw[this];exact⟨_,rfl,h1,h2⟩
    split at h1
    .rename_i kk hd
     obtain⟨ks',hk,rfl⟩:=Option.map_eq_some_iff.1 h1;obtain⟨ik,n,m,la,lb,q2,rfl,rfl,hq,rfl⟩:=ybww h2
     .obtain⟨a,ea,ra,rla⟩:=cons h3;obtain⟨b,eb,rb,rlb⟩:=cons h4;cases ra.int_inv
      cases rb.int_inv
      refine main hd rfl ea eb rla rlb ?_ hk hq;unfold Op.equalIn;refine(yw P _ (ybo hd)).trans ?_;show runPure P (if _ then _ else _)=_
      rw[if_pos rfl];show some _=some _;congr 1
    .rename_i hd
     obtain⟨ks',hk,rfl⟩:=Option.map_eq_some_iff.1 h1;obtain⟨n,m,la,lb,q2,rfl,rfl,hq,rfl⟩:=ybnw h2;obtain⟨a,ea,ra,rla⟩:=cons h3;obtain⟨b,eb,rb,rlb⟩:=cons h4;cases ra.bool_inv
     cases rb.bool_inv
     refine main hd rfl ea eb rla rlb ?_ hk hq;unfold Op.equalIn;exact(yw P _ (ybo hd)).trans rfl
    .cases h1
   .cases h1
theorem ybea{ks:List Bool}:∀{l l':List SV}{q:Bool}{L:List Value},eqL ks l l'=some q->(RVL F ω l L\/RVL F ω l' L)->L.all simple=true:=by
 induction ks with
 | nil =>
   intro l l' q L h hr;obtain⟨rfl,rfl,rfl⟩:=ybuy h;rcases hr with hr|hr<;>cases hr<;>rfl
 | cons b ks ih =>
   intro l l' q L h hr;cases b
   .obtain⟨ik,n,m,la,lb,q2,rfl,rfl,hq,rfl⟩:=ybww h;rcases hr with hr|hr<;>cases hr with
    | cons h1 h2 =>
      cases h1.int_inv
      rw[zN,ih hq (by first|exact .inl h2|exact .inr h2)]
      rfl
   .obtain⟨x,y,la,lb,q2,rfl,rfl,hq,rfl⟩:=ybnw h;rcases hr with hr|hr<;>cases hr with
    | cons h1 h2 =>
      cases h1.bool_inv
      rw[zN,ih hq (by first|exact .inl h2|exact .inr h2)]
      rfl
theorem yvt{e:TypeId}{i:TypeInfo}(h:P.info? e=some i):runPure P (sizeOf e)=some i.size:=by
 have ht:runPure P (typeInfo e)=some i:=by
  unfold typeInfo;show runPure P (match P.info? e with|some i=>_|none=>_)=_
  rw[h];rfl
 unfold sizeOf;exact(yw P _ ht).trans rfl
def arrF (e : TypeId) (n : Nat) : List Field := (zAO 0 n).map fun i => { name := "", type := e, offset := i, embedded := false, tag := "", pkgPath := "", byteOffset := 0 }
theorem yok(d:Nat)(t:TypeId)(xs ys:Array Value){n:Nat}{e:TypeId}{i:TypeInfo}(ht:P.underlying t=some (.array n e))(hi:P.info? e=some i)(h1:i.size=1) :
 runPure P (Op.equalIn (d+1) t (.agg xs) (.agg ys))=runPure P (Op.eqFields d xs ys (arrF e n)):=by
 unfold Op.equalIn;refine(yw P _ (ybo ht)).trans ?_;refine(yw P _ (yvt hi)).trans ?_;have hs:([0:n]:Std.Legacy.Range).size=n:=by simp[Std.Legacy.Range.size]
 simp only[Std.Legacy.Range.forIn_eq_forIn_range',hs,h1,Nat.mul_one];unfold arrF
 generalize zAO 0 n=l
 induction l with
 |nil=>rfl
 | cons k l ih =>
   simp only[zAH,List.map_cons,Op.eqFields];rw[if_pos (by decide)]
   simp only[ybn,zU];refine congrArg (fun k=>(runPure P (Go.part e xs _)).bind k) (funext fun a=>?_);refine congrArg (fun k=>(runPure P (Go.part e ys _)).bind k) (funext fun b=>?_);refine congrArg (fun k=>(runPure P (Op.equalIn d e a b)).bind k) (funext fun r=>?_);cases r
   .rfl
   .simp only[ybn]at ih;exact ih
theorem ycge (hc:Conc lo F ω s f m) {ne:Bool}{xt yt:TypeId}{x y:Operand}(hop:o.op = .binOp (if ne then .neq else .eql) xt x y yt) {fs:List Field}(he:∀xs ys,runPure P (Op.equalIn 10000 xt (.agg xs) (.agg ys))=runPure P (Op.eqFields 9999 xs ys fs)) {ks:List Bool}(hk:fsK P 0 fs=some ks) (hg:P.eqGuardType P.depth xt=false)
 {l l':List SV}{q:Bool}(hx:s.get x=some (.ag l)) (hy:s.get y=some (.ag l')) (hq:eqL ks l l'=some q):OpS P lo F ω f m o ⟨c,r,.b (if ne then !q else q),s⟩:=by
 obtain⟨u,e1,r1⟩:=hc.get hx;obtain⟨u',e2,r2⟩:=hc.get hy;obtain⟨L,rfl,hL⟩:=r1.ag_inv;obtain⟨L',rfl,hL'⟩:=r2.ag_inv;have a1:=ybea hq (.inl hL);have a2:=ybea hq (.inr hL');have hev:evOp P f o m=pureA P f o:=by unfold evOp;rw[hop]
 have heq:runPure P (Op.equal xt (.agg L.toArray) (.agg L'.toArray))=some q:=by
  unfold Op.equal Op.maxDepth;rw[he];exact yqd (d:=9998) fs ks 0 l l' q hk hq hL hL'
 have hgd:∀op:BinOp,runPure P (eqGuard op xt x y (.agg L.toArray) (.agg L'.toArray))=some ():=by
  intro op;cases op<;>simp[eqGuard,runPure,hg,ybn,program]<;>rfl
 refine OpS.idle hc (u:=.bool (if ne then !q else q)) ?_ .b
 rw[hev];refine yhc (us:=[.agg L.toArray,.agg L'.toArray]) (by rw[hop];exact ybam e1 e2) (by simp only[zN,List.all_nil,atomA,a1,a2];rfl) ?_ rfl
 unfold execOp;rw[hop];simp only[e1,e2,zG];cases ne with
 | true =>
   refine(yw P (fun v=>pure (Next.value v)) (a:=.bool (!q)) ?_).trans rfl;refine(yw P _ (hgd _)).trans ?_;exact(yw P (fun v=>pure (Value.bool (!v))) heq).trans rfl
 | false =>
   refine(yw P (fun v=>pure (Next.value v)) (a:=.bool q) ?_).trans rfl;refine(yw P _ (hgd _)).trans ?_;exact(yw P (fun v=>pure (Value.bool v)) heq).trans rfl
theorem ydrc(hc:Conc lo F ω s f m){t:TypeId}{b:ByteArray}{k:Operand}(hop:o.op = .index t (.const (.string b)) k)(ht:P.underlying t=some .string){kk:IntKind}{n:Int}(hx:s.get k=some (.i kk n))(hn:0<=n/\n<((b.data.toList.map UInt8.toNat).length:Int)) :
 OpS P lo F ω f m o ⟨c,r,.i .u8 (((b.data.toList.map UInt8.toNat).getD n.toNat 0:Nat):Int),s⟩:=by
 obtain⟨u,e1,r1⟩:=hc.get hx;cases r1.int_inv
 have hev:evOp P f o m=pureA P f o:=by unfold evOp;rw[hop]
 have e0:f.get (.const (.string b))=some (.string b):=rfl;have hlt:n.toNat<b.data.toList.length:=by have:=hn.2;rw[zO]at this;omega
 have hb:b[n.toNat]?=some (b.data.toList[n.toNat]'hlt):=by
  have h1:n.toNat<b.size:=by simpa using hlt
  exact getElem?_pos b n.toNat h1
 refine OpS.idle hc (u:=.int .u8 (((b.data.toList.map UInt8.toNat).getD n.toNat 0:Nat):Int)) ?_ .i;rw[hev];refine yhc (us:=[.string b,.int kk n]) (by rw[hop];exact ybam e0 e1) rfl ?_ rfl
 unfold execOp;rw[hop];simp only[e0,e1,zG];refine(yw P (fun v=>pure (Next.value v)) (a:=.int .u8 (((b.data.toList.map UInt8.toNat).getD n.toNat 0:Nat):Int)) ?_).trans rfl;unfold Instr.index;refine(yw P _ (a:=(kk,n)) rfl).trans ?_;refine(yw P _ (ybo ht)).trans ?_;show runPure P (match (if 0<=n then b[n.toNat]? else none)with|some b=>pure (Value.int .u8 b.toNat)|none=>boundsPanic kk n b.size .index)=_
 rw[if_pos hn.1,hb];show some _=some _;congr 2;have h1:n.toNat<b.data.size:=by simpa using hlt
 rw[List.getD,List.getElem?_map,List.getElem?_eq_getElem hlt];rfl
theorem s_un(hc:Conc lo F ω s f m){op:UnOp}{xt:TypeId}{x:Operand}(hop:o.op = .unOp op xt x){v:SV}(hx:s.get x=some v){q:Prop×SV}(h:xun op v=some q)(hq:q.1):OpS P lo F ω f m o ⟨c,r,q.2,s⟩:=by
 obtain⟨a,e1,r1⟩:=hc.get hx;have hev:evOp P f o m=pureA P f o:=by unfold evOp;rw[hop]
 have main:∀{u:Value},atomA a=true->atomA u=true->runPure P (Op.unary op a)=some u->RV F ω q.2 u->OpS P lo F ω f m o ⟨c,r,q.2,s⟩:=by
  intro u h1 h3 h4 h5;refine OpS.idle hc (u:=u) ?_ h5;rw[hev];refine yhc (us:=[a]) (by rw[hop];exact yclm e1) (by simp[h1]) ?_ h3
  unfold execOp;rw[hop];simp only[e1,zG];exact(yw P (fun v=>pure (Next.value v)) h4).trans rfl
 unfold xun at h;split at h
 .rename_i k n
  cases r1.int_inv
  cases op with
  | neg =>
    simp only at h;split at h
    .cases h
     refine main rfl rfl (u:=.int k (0-n)) ?_ .i;show some (Value.int k (k.wrap (0-n)))=_;rw[wrap_in hq]
    .cases h
     exact main rfl rfl rfl .i
  |xor=>cases h;exact main rfl rfl rfl .i
  |not=>cases h
  |plus=>cases h
 .rename_i t
  cases r1.bool_inv
  cases op with
  |not=>cases h;exact main rfl rfl rfl .b
  |_=>cases h
 .cases h
end
end Sh
end
section
namespace Sh
open Go Ev
section
variable {P:Program}{lo:Nat}{F:AM}{ω:Om}{s:SS}{f:Fr}{m:Mem}{o:Oper}{c:Prop}{r:SRec}
theorem ydlp(hc:Conc lo F ω s f m){src dst:TypeId}{x:Operand}{d:TypeDesc}{k k':IntKind}{n:Int}(hop:o.op = .convert src dst x)(hs:P.underlying src=some d)(hd:P.underlying dst=some (.int k))(hx:s.get x=some (.i k' n)):OpS P lo F ω f m o ⟨c,r,.i k (k.wrap n),s⟩:=by
 obtain⟨a,e1,r1⟩:=hc.get hx;cases r1.int_inv
 have hev:evOp P f o m=pureA P f o:=by unfold evOp;rw[hop]
 refine OpS.idle hc (u:=.int k (k.wrap n)) ?_ .i;rw[hev];refine yhc (us:=[_]) (by rw[hop];exact yclm e1) rfl ?_ rfl
 unfold execOp;rw[hop];simp only[e1,zG];refine(yw P (fun v=>pure (Next.value v)) (a:=.int k (k.wrap n)) ?_).trans rfl;unfold convert;rw[yw P _ (ybo hs),yw P _ (ybo hd)];rfl
theorem s_mm(hc:Conc lo F ω s f m){mx:Bool}{x y:Operand}{ats:Array TypeId}{k:IntKind}{n n':Int}(hop:o.op = .call { callee:=.builtin (if mx then .max else .min),args:=#[x,y],argTypes:=ats })(hx:s.get x=some (.i k n))(hy:s.get y=some (.i k n')) :
 OpS P lo F ω f m o ⟨c,r,.i k (if mx then max n n' else min n n'),s⟩:=by
 obtain⟨a,e1,r1⟩:=hc.get hx;obtain⟨b,e2,r2⟩:=hc.get hy;cases r1.int_inv
 cases r2.int_inv
 have hev:evOp P f o m=pureA P f o:=by unfold evOp;rw[hop];cases mx<;>rfl
 refine OpS.idle hc (u:=.int k (if mx then max n n' else min n n')) ?_ .i
 rw[hev];refine yhc (us:=[_,_]) (by rw[hop];exact ybam e1 e2) rfl ?_ rfl
 rw[yhx hop];have e:(#[x,y]:Array Operand).map (fun x=>(f.get x).getD undef) = #[.int k n,.int k n']:=by simp[e1,e2]
 rw[e];cases mx
 .show some (Next.value (.int k (if n'<n then n' else n)))=some (Next.value (.int k (min n n')))
  congr 3;rw[Int.min_def];split<;>split<;>omega
 .show some (Next.value (.int k (if n'>n then n' else n)))=some (Next.value (.int k (max n n')))
  congr 3;rw[Int.max_def];split<;>split<;>omega
theorem ydfl (hc:Conc lo F ω s f m) {t elem:TypeId}{x:Operand}{n:Nat}{v:SV}(hop:o.op = .call { callee:=.builtin .len,args:=#[x],argTypes:=#[t] }) (hd:P.underlying t=some (.slice elem)) (hx:s.pget x=some v)
 (hv:(∃z g,v = .sl z n g)\/(∃β p ap,v = .os β p n ap)\/(n=0/\v = .a (.slice none 0 0))):OpS P lo F ω f m o ⟨c,r,.i .i64 n,s⟩:=by
 obtain⟨a,e1,r1⟩:=hc.pget hx
 have:∃A cp,a = .slice A n cp:=by
  rcases hv with⟨z,g,rfl⟩|⟨β,p,cp,rfl⟩|⟨rfl,rfl⟩
  .rcases r1.sl_inv with⟨rfl,rfl|⟨_,_,_,rfl⟩⟩|⟨bk,p,cp,T,N,e,zz,L,rfl,_⟩
   .exact⟨_,_,rfl⟩
   .exact⟨_,_,rfl⟩
   .exact⟨_,_,rfl⟩
  .rcases r1.os_inv with⟨k,z,c',_,rfl,_⟩|⟨_,rfl,rfl,rfl⟩
   .exact⟨_,_,rfl⟩
   .exact⟨_,_,rfl⟩
  .cases r1;exact⟨_,_,rfl⟩
 obtain⟨A,cp,rfl⟩:=this;refine OpS.idle hc (u:=.int .i64 (.ofNat n)) ?_ .i;unfold evOp;rw[hop];show(ob (valsA f [x]) fun vs=>evLen P f o vs [t])=_;rw[yclm e1];show(ob (P.underlying t) _)=_;rw[hd];exact(ybp n fun n=>val (.int .i64 (.ofNat n))).trans rfl
theorem ypb(hc:Conc lo F ω s f m){d:Nat}{x:Option Operand}{n:Int}(h:natX s d x=some n):∃us,valsA f x.toList=some us/\((us=[]/\n=d/\x=none)\/∃k,us=[.int k n]):=by
 unfold natX at h;split at h
 .cases h;exact⟨[],rfl,.inl ⟨rfl,rfl,rfl⟩⟩
 .rename_i y
  split at h
  .rename_i k n' hy
   cases h
   obtain⟨a,e1,r1⟩:=hc.get hy;cases r1.int_inv
   exact⟨[_],yclm e1,.inr ⟨k,rfl⟩⟩
  .cases h
theorem ykx{us:List Value}{n:Int}{d:Nat}(h:(us=[]/\n=d)\/∃k,us=[.int k n]){hi:Nat}(h0:0<=n)(h1:n<=hi):natIn us.head? d hi=some n.toNat:=by
 rcases h with⟨rfl,rfl⟩|⟨k,rfl⟩
 .show some d=_;simp
 .obtain⟨a,rfl⟩:=zX h0;show(bif zAD a hi then some a else none)=_;rw[zA (by omega)]
  simp
theorem ydqg (hc:Conc lo F ω s f m) {t elem:TypeId}{x:Operand}{lo' hi':Option Operand}{i:TypeInfo}(hop:o.op = .slice t x lo' hi' none) (hd:P.underlying t=some (.slice elem)) (hi:P.info? elem=some i)
 {v:SV}{q:XR}(hx:s.pget x=some v) {l h:Int}
 (hv:(∃n g,v = .sl i.size n g/\natX s n hi'=some h/\natX s 0 lo'=some l/\(0<=l/\l<=h/\h<=n/\0<n)/\q=⟨c,⟨[],[],[],true,false,false,false⟩,.sl i.size (h.toNat-l.toNat) (fun k=>g (l.toNat+k)),s⟩) \/
   (∃β p n ap b,v = .os β p n ap/\lookO s.o β=some b/\b.z=i.size/\b.bx=false/\natX s n hi'=some h/\natX s 0 lo'=some l/\(0<=l/\l<=h/\h<=n)/\q=⟨c,⟨[β],[],[],false,false,false,false⟩,.os β (p+l.toNat) (h.toNat-l.toNat) (ap&&hi'.isNone),s⟩)):OpS P lo F ω f m o q:=by
 obtain⟨a,e1,r1⟩:=hc.pget hx
 have hev:∀{us ws:List Value},valsA f lo'.toList=some us->valsA f hi'.toList=some ws->evOp P f o m=sliceA P m us.head? ws.head? (.slice elem) a:=by
  intro us ws h1 h2;unfold evOp;rw[hop];show(ob (f.get x) fun x=>ob (valsA f lo'.toList) fun lo=>ob (valsA f hi'.toList) (evSlice P t m x lo))=_;rw[e1];show(ob (valsA f lo'.toList) fun lo=>ob (valsA f hi'.toList) (evSlice P t m a lo))=_;rw[h1];show(ob (valsA f hi'.toList) (evSlice P t m a us))=_;rw[h2];show ob (P.underlying t) _=_;rw[hd];rfl
 have some1:∀{us ws:List Value}{bk p n cp z:Nat},a = .slice (some ⟨bk,p,none⟩) n cp->natIn ws.head? n n=some h.toNat->natIn us.head? 0 h.toNat=some l.toNat->ob (m.b.get bk) szOf=some z->(z=i.size\/z=0) ->
  sliceA P m us.head? ws.head? (.slice elem) a=some ⟨.slice (some ⟨bk,p+l.toNat*i.size,none⟩) (h.toNat-l.toNat) (capA cp l.toNat),.none,[bk]⟩:=by
  rintro us ws bk p n cp z rfl h1 h2 h3 h4;show(ob (P.info? elem) fun i=>ob (ob (m.b.get bk) szOf) fun z=>sliceA1 ⟨bk,p,none⟩ z i.size n us.head? ws.head? (capA cp))=_;rw[hi];show(ob (ob (m.b.get bk) szOf) fun z=>sliceA1 ⟨bk,p,none⟩ z i.size n us.head? ws.head? (capA cp))=_;rw[h3];show sliceA1 ⟨bk,p,none⟩ z i.size n us.head? ws.head? (capA cp)=_;unfold sliceA1;rw[ybe,if_pos (by rcases h4 with rfl|rfl<;>simp[zF]),h1]
  show(ob (natIn us.head? 0 h.toNat) fun l=>sliceA2 ⟨bk,p,none⟩ l h.toNat i.size (capA cp l))=_;rw[h2];show sliceA2 ⟨bk,p,none⟩ l.toNat h.toNat i.size (capA cp l.toNat)=_;unfold sliceA2;rw[ybp,ybp];rfl
 rcases hv with⟨n,g,rfl,hh,hl,⟨b1,b2,b3,b4⟩,rfl⟩|⟨β,p,n,ap,b,rfl,hb,hz,hbx,hh,hl,⟨b1,b2,b3⟩,rfl⟩
 .obtain⟨us,v1,w1⟩:=ypb hc hl;obtain⟨ws,v2,w2⟩:=ypb hc hh;have n1:natIn ws.head? n n=some h.toNat:=ykx (w2.imp (fun q=>⟨q.1,q.2.1⟩) id) (by omega) b3
  have n2:natIn us.head? 0 h.toNat=some l.toNat:=ykx (w1.imp (fun q=>⟨q.1,q.2.1⟩) id) b1 (by omega)
  rcases r1.sl_inv with⟨rfl,_⟩|⟨bk,p,cp,T,N,e,zz,L,rfl,g1,g2,g3,g4,g5,g6,g7⟩
  .exact absurd b4 (zT _)
  .refine OpS.pure hc ((hev v1 v2).trans (some1 rfl n1 n2 (z:=zz) (by rw[hc.sub _ _ g1];rfl) g2)) ?_ (fun y hy=>by simp at hy;subst hy;exact .inr ⟨rfl,_,g1⟩)
   have hk:∀k,k<h.toNat-l.toNat->l.toNat+k<n:=fun k hk=>by omega
   have hadd:∀k,p+l.toNat*i.size+k*i.size=p+(l.toNat+k)*i.size:=fun k=>by rw[zK];omega
   have hN:p+l.toNat*i.size+(h.toNat-l.toNat)*i.size<=N:=by
    rw[hadd];have:=zQ i.size (show l.toNat+(h.toNat-l.toNat)<=n by omega)
    omega
   exact .sl (L:=fun k=>L (l.toNat+k)) g1 g2 hN (fun k q=>g4 _ (hk k q)) (fun k q j hj=>by rw[hadd];exact g5 _ (hk k q) j hj) (fun k q=>g6 _ (hk k q)) (fun k q=>g7 _ (hk k q))
 .obtain⟨us,v1,w1⟩:=ypb hc hl;obtain⟨ws,v2,w2⟩:=ypb hc hh;have n1:natIn ws.head? n n=some h.toNat:=ykx (w2.imp (fun q=>⟨q.1,q.2.1⟩) id) (by omega) b3
  have n2:natIn us.head? 0 h.toNat=some l.toNat:=ykx (w1.imp (fun q=>⟨q.1,q.2.1⟩) id) b1 (by omega)
  rcases r1.os_inv with⟨k,z,cp,hk,rfl,hcu⟩|⟨hk,rfl,rfl,rfl⟩
  .obtain⟨rfl,T,L,g1,_⟩:=hc.ownAt hb hk (.inr hbx);rw[hbx]at g1;refine OpS.pure hc ((hev v1 v2).trans (some1 rfl n1 n2 (z:=b.z) (by rw[g1];rfl) (.inl hz))) ?_ (fun y hy=>by simp at hy;subst hy;exact .inl ⟨β,_,by simp,hk⟩)
   rw[<-hz,<-zK];refine .os hk fun hap=>?_;rw[zH]at hap
   have hhn:h=n:=by
    rcases w2 with⟨_,q,_⟩|⟨_,q⟩
    .exact q
    .have:hi'=none:=by simpa using hap.2
     rw[this]at v2;cases v2
     cases q
   rcases hcu hap.1 with rfl|⟨rfl,hlt⟩
   .left;show capA CU _=CU;unfold capA;rw[zF];rfl
   .right
    refine⟨?_,by omega⟩
    show capA cp _=_;unfold capA;rw[ybe,if_neg (fun q=>by have:=zC q;omega)]
    show cp-l.toNat=_;rw[hhn];simp
  .have hl0:l=0:=by omega
   have hh0:h=0:=by omega
   subst hl0 hh0;refine OpS.idle hc (u:=.slice none 0 0) ?_ (.os0 hk);rw[hev v1 v2];show(ob (P.info? elem) fun _=>ob (natIn ws.head? 0 0) fun _=>ob (natIn us.head? 0 0) fun _=>(some ⟨.slice none 0 0,.none,[]⟩:Option R))=_;rw[hi,n1];show(ob (natIn us.head? 0 0) fun _=>(some ⟨.slice none 0 0,.none,[]⟩:Option R))=_;rw[show natIn us.head? 0 0=some (Int.toNat 0)from n2]
   rfl
end
end Sh
end
section
namespace Sh
open Go Ev
section
variable {P:Program}{lo:Nat}{F:AM}{ω:Om}{s:SS}{f:Fr}{m:Mem}{o:Oper}{c:Prop}{r:SRec}
theorem ydxv (hc:Conc lo F ω s f m) {t elem:TypeId}{x:Operand}{lo' hi':Option Operand}{i:TypeInfo}{n:Nat}(hop:o.op = .slice t x lo' hi' none) (hd:P.underlying t=some (.array n elem)) (hi:P.info? elem=some i)
 {β:Nm}{b:OB}(hx:s.get x=some (.pt β 0 0)) {l h:Int}(hb:lookO s.o β=some b) (hz:b.z=i.size) (hbx:b.bx=true) (hn0:b.n≠0) (hh:natX s n hi'=some h) (hl:natX s 0 lo'=some l) (hq:0<=l/\l<=h/\h<=n/\n<=1000000) :
 OpS P lo F ω f m o ⟨c,⟨[β],[],[],false,false,false,false⟩,.os β l.toNat (h.toNat-l.toNat) false,s⟩:=by
 obtain⟨a,e1,r1⟩:=hc.get hx;obtain⟨b1,b2,b3,b4⟩:=hq;obtain⟨us,v1,w1⟩:=ypb hc hl;obtain⟨ws,v2,w2⟩:=ypb hc hh;have n1:natIn ws.head? n n=some h.toNat:=ykx (w2.imp (fun q=>⟨q.1,q.2.1⟩) id) (by omega) b3
 have n2:natIn us.head? 0 h.toNat=some l.toNat:=ykx (w1.imp (fun q=>⟨q.1,q.2.1⟩) id) b1 (by omega)
 obtain⟨k,z,hk,rfl⟩:=r1.pt_inv;obtain⟨rfl,T,L,g1,_⟩:=hc.ownAt hb hk (.inl hn0);rw[hbx]at g1;refine OpS.pure hc (u:=.slice (some ⟨k,l.toNat*b.z,none⟩) (h.toNat-l.toNat) (n-l.toNat)) (ft:=[k]) ?_ (RV.os (c:=n-l.toNat) hk (fun q=>by cases q)) (fun y hy=>by simp at hy;subst hy;exact .inl ⟨β,_,by simp,hk⟩)
 unfold evOp;rw[hop];show(ob (f.get x) fun x=>ob (valsA f lo'.toList) fun lo=>ob (valsA f hi'.toList) (evSlice P t m x lo))=_;rw[e1];show(ob (valsA f lo'.toList) fun lo=>ob (valsA f hi'.toList) (evSlice P t m _ lo))=_;rw[v1];show(ob (valsA f hi'.toList) (evSlice P t m _ us))=_;rw[v2];show ob (P.underlying t) _=_;rw[hd];show(ob (P.info? elem) fun i=>ob (ob (m.b.get k) szOf) fun z=>iteB (zD z 0&&zAD n 1000000) (sliceA1 ⟨k,0*b.z+0,none⟩ z i.size n us.head? ws.head? (zAK n)) none)=_
 rw[hi,g1];show iteB (zD 0 0&&zAD n 1000000) (sliceA1 ⟨k,0*b.z+0,none⟩ 0 i.size n us.head? ws.head? (zAK n)) none=_;rw[ybe,if_pos (by rw[zA b4];rfl)]
 unfold sliceA1;rw[ybe,if_pos (by simp),n1]
 show(ob (natIn us.head? 0 h.toNat) fun l=>sliceA2 ⟨k,0*b.z+0,none⟩ l h.toNat i.size (zAK n l))=_;rw[n2];show sliceA2 ⟨k,0*b.z+0,none⟩ l.toNat h.toNat i.size (zAK n l.toNat)=_;unfold sliceA2;rw[ybp,ybp,hz];show some (⟨.slice (some ⟨k,0*i.size+0+l.toNat*i.size,none⟩) _ _,_,_⟩:R)=_;rw[show 0*i.size+0+l.toNat*i.size=l.toNat*i.size by omega]
 rfl
theorem one_cell:∀(v:SV) {ω:Om}{u:Value},RV F ω v u->one1 v=true->u.cells.toList=[u]/\∀L,allGood L=true->allGood (u::L)=true
 |.ex Q w,_,_,.ex _ _ h,h1=>one_cell w h h1
 |.mr _,_,_,.mr _,_=>⟨rfl,fun _ h=>h⟩
 |.i ..,_,_,.i,_=>⟨rfl,fun _ h=>h⟩
 |.b ..,_,_,.b,_=>⟨rfl,fun _ h=>h⟩
 | .a v,_,_,.a hs,_=>by
   cases v<;>first|exact⟨rfl,fun _ h=>h⟩|(exact absurd hs (by simp[Ev.simple]))
 | .sl ..,_,_,.sl0 h0,_=>by
   rcases h0 with rfl|⟨_,_,_,rfl⟩<;>exact⟨rfl,fun _ h=>h⟩
 |.sl ..,_,_,.sl ..,_=>⟨rfl,fun _ h=>h⟩
 |.rf ..,_,_,.rf ..,_=>⟨rfl,fun _ h=>h⟩
 |.fn ..,_,_,.fn ..,_=>⟨rfl,fun _ h=>h⟩
 |.pt ..,_,_,.pt ..,_=>⟨rfl,fun _ h=>h⟩
 |.os ..,_,_,.os ..,_=>⟨rfl,fun _ h=>h⟩
 |.os ..,_,_,.os0 ..,_=>⟨rfl,fun _ h=>h⟩
theorem yos{v:SV}{u:Value}(h:RV F ω v u)(h1:v.cells.all one1=true):RVL F ω v.cells u.cells.toList/\allGood u.cells.toList=true:=by
 have good:∀{l:List SV}{L:List Value},RVL F ω l L->l.all one1=true->allGood L=true:=by
  intro l L hl
  induction L generalizing l with
  |nil=>intro _;rfl
  | cons u L ih =>
    cases hl with
    | cons a b =>
      intro hq;simp only[zN,zH]at hq;exact(one_cell _ a hq.1).2 _ (ih b hq.2)
 have main:RVL F ω v.cells u.cells.toList:=by
  have single:v.cells=[v]->RVL F ω v.cells u.cells.toList:=fun e=>by
   rw[e]at h1 ⊢;simp only[zN,zH]at h1;rw[(one_cell v h h1.1).1];exact .cons h .nil
  cases v with
  |ag c=>obtain⟨L,rfl,hl⟩:=h.ag_inv;simpa[SV.cells,Value.cells]using hl
  |_=>exact single rfl
 exact⟨main,good main h1⟩
theorem yyp(hc:Conc lo F ω s f m){place:Nat->Option (Nat×Nat)}:∀{ps:List (Nat×Operand)}{qs:List (Nat×Nat×Operand)}{l l':List SV}{L:List Value},
 ps.mapM (fun p=>(place p.1).map fun q=>(q.1,q.2,p.2))=some qs->RVL F ω l L->l.all one1=true->fill s l qs=some l' ->
 ∃vs L',partsA f ps=some vs/\fillA place L vs=some L'/\RVL F ω l' L'/\l'.all one1=true
 | [],qs,l,l',L,h,hl,h1,hf=>by
   cases h
   cases hf
   exact⟨[],L,rfl,rfl,hl,h1⟩
 | (j,x) :: ps,qs,l,l',L,h,hl,h1,hf=>by
   rw[List.mapM_cons]at h;cases hp:place j with
   |none=>simp[hp]at h
   | some q =>
     cases hm:ps.mapM (fun p=>(place p.1).map fun q=>(q.1,q.2,p.2))with
     |none=>simp[hp,hm]at h
     | some qs' =>
       simp[hp,hm]at h;subst h;unfold fill at hf;split at hf
       .cases hf
       .rename_i v hv
        split at hf
        .rename_i hq
         obtain⟨u,e1,r1⟩:=hc.get hv;obtain⟨k1,k2⟩:=yos r1 hq.2.2;have hlen:u.cells.toList.length=q.2:=by rw[<-k1.length];exact hq.1
         have hsp:RVL F ω (splice l q.1 v.cells) (L.take q.1++u.cells.toList++L.drop (q.1+q.2)):=by
          unfold splice;rw[hq.1];exact((hl.take _).append k1).append (hl.drop _)
         have hsa:(splice l q.1 v.cells).all one1=true:=by
          unfold splice;rw[zL,zL,yse h1,yla h1,hq.2.2];rfl
         obtain⟨vs,L',t1,t2,t3,t4⟩:=yyp hc hm hsp hsa hf;refine⟨(j,u)::vs,L',?_,?_,t3,t4⟩
         .unfold partsA;rw[e1];simp only[t1]
         .unfold fillA;rw[hp];simp only;rw[hlen,zF,k2,zA (by rw[<-hl.length];exact hq.2.1)]
          exact t2
        .cases hf
end
end Sh
end
section
namespace Sh
open Go Ev
section
variable {P:Program}{lo:Nat}{F:AM}{ω:Om}{s:SS}{f:Fr}{m:Mem}{o:Oper}{c:Prop}{r:SRec}
theorem ybgt(m:Mem)(x:ABlk):m.app (.new x)=⟨m.next+1,T.set (zB m.next) m.b m.next (some x),m.low⟩:=by
 obtain⟨n,b,l⟩:=m;exact yow n b l (.new x)
theorem yzg(m:Mem)(i:Nat)(x:ABlk):m.app (.upd i x)=⟨m.next,T.set (zB i) m.b i (some x),zAE m.low i⟩:=by
 obtain⟨n,b,l⟩:=m;exact yow n b l (.upd i x)
theorem yciz(m:Mem)(i:Nat)(x:ABlk):m.app (.move i x)=⟨m.next+1,T.set (zB m.next) (T.set (zB i) m.b i none) m.next (some x),zAE m.low i⟩:=by
 obtain⟨n,b,l⟩:=m;exact yow n b l (.move i x)
def yfo(ω:Om)(β:Nm)(k z:Nat):Om:=fun γ=>if γ=β then some (some (k,z))else ω γ
theorem yid{β:Nm}{k z:Nat}(h:ω β=none):ω.le (yfo ω β k z):=fun γ x hx=>by
 unfold yfo;split
 .rename_i q;subst q;rw[h]at hx;cases hx
 .exact hx
theorem ych{β:Nm}{k z:Nat}:yfo ω β k z β=some (some (k,z)):=by simp[yfo]
theorem ybly{β γ:Nm}{k z:Nat}(h:γ≠β):yfo ω β k z γ=ω γ:=by simp[yfo,h]
theorem ycjm.mono{ψ:Om}{m':Mem}{β:Nm}{b:OB}(h:ycjm F ω m β b)(hle:ω.le ψ)(hk:∀k z,ω β=some (some (k,z))->m'.b.get k=m.b.get k):ycjm F ψ m' β b:=by
 rcases h with⟨k,T,L,h1,h0,h2,h3⟩|⟨h1,h2⟩|⟨k,es,cl,h1,h2,h3,h4⟩
 .exact .inl ⟨k,T,L,hle _ _ h1,h0,(hk _ _ h1).trans h2,fun i hi=>⟨(h3 i hi).1,(h3 i hi).2.1.mono (Le.refl _) hle,(h3 i hi).2.2⟩⟩
 .exact .inr (.inl ⟨hle _ _ h1,h2⟩)
 .exact .inr (.inr ⟨k,es,cl,hle _ _ h1,h2,(hk _ _ h1).trans h3,h4⟩)
theorem yfh{e β:Nat}(h:ylo s e β=true):look s.o β=none:=by
 have:=(zH _ _▸h:_/\_).1;simpa using this
theorem ypo{e β:Nat}(h:ylo s e β=true):e≠CU:=by
 have:=of_decide_eq_true (zH _ _▸h:_/\_).2;intro q;rw[q]at this;exact absurd this (by decide)
theorem ymz{β:Nm}{b:Option OB}(h:β.2=0\/∃c,lookO s.o β=some c)(γ:Nm):lookO (s.own β b).o γ=if β=γ then b else lookO s.o γ:=by
 obtain⟨b1,b2⟩:=β;obtain⟨c1,c2⟩:=γ;show(match (if b1=c1 then some (yqs (look s.o b1) b2 b)else look s.o c1)with|some F=>F.at c2|none=>none)=_
 by_cases e:b1=c1
 .subst e;rw[if_pos rfl];unfold lookO at h ⊢;simp only at h ⊢;cases hl:look s.o b1 with
  | none =>
    rw[hl]at h;have hz:b2=0:=h.elim id fun⟨c,q⟩=>by cases q
    subst hz;simp only[yqs,Fam.at]
    by_cases q:c2=0
    .subst q;simp
    .rw[if_neg q,if_neg (by simpa using Ne.symm q)]
  | some G =>
    rw[hl]at h;cases G with
    | many g =>
      simp only[yqs,Fam.at]
      by_cases q:c2=b2
      .subst q;simp
      .rw[if_neg q,if_neg (by simpa using Ne.symm q)]
    | one x =>
      have hz:b2=0:=h.elim id fun⟨c,q⟩=>by
       simp only[Fam.at]at q;split at q
       .assumption
       .cases q
      subst hz;simp only[yqs,Fam.at]
      by_cases q:c2=0
      .subst q;simp
      .rw[if_neg q,if_neg (by simpa using Ne.symm q),if_neg q]
 .rw[if_neg e,if_neg (by simp[e])]
  rfl
theorem ykv{β:Nm}{b:Option OB}{c:Nat}(h:look (s.own β b).o c=none):β.1≠c/\look s.o c=none:=by
 have h:(if β.1=c then some (yqs (look s.o β.1) β.2 b)else look s.o c)=none:=h
 split at h
 .cases h
 .rename_i q;exact⟨q,h⟩
theorem Conc.new (hc:Conc lo F ω s f m) {d:Nat}{b:OB}(hn:look s.o d=none) (he:b.e≠CU) {Tb:Ev.T Value}{L:Nat->List Value}
 (hL:∀i,i<b.n->(L i).length=b.z/\RVL F ω (b.g i) (L i)/\(b.g i).all one1=true/\∀j,j<b.z->Tb.get (i*b.z+j)=(L i)[j]?) :
 Conc lo F (yfo ω (d,0) m.next b.z) (s.own (d,0) (some b)) f (m.app (.new (.cells Tb (b.n*b.z) b.e (if b.bx then 0 else b.z)))):=by
 have hω:=hc.dom (d,0) hn;have hle:=yid (k:=m.next) (z:=b.z) hω
 rw[ybgt];have hget:∀i,(T.set (zB m.next) m.b m.next (some (.cells Tb (b.n*b.z) b.e (if b.bx then 0 else b.z)))).get i=if i=m.next then some (.cells Tb (b.n*b.z) b.e (if b.bx then 0 else b.z))else m.b.get i:=fun i=>T.set_at _ _ _ _
 have hold:∀{i x},m.b.get i=some x->i<m.next:=fun {i x} h=>hc.wf i x h
 refine⟨fun i x hx=>?_,hc.low,by show lo<=m.next+1;have:=hc.nxt;omega,fun i x hx=>?_,fun γ dd hd=>?_,fun γ hγ=>?_,?_,?_,fun t v hv=>?_⟩
 .have hx:(T.set (zB m.next) m.b m.next (some (.cells Tb (b.n*b.z) b.e (if b.bx then 0 else b.z)))).get i=some x:=hx
  rw[hget]at hx;show i<m.next+1
  split at hx
  .omega
  .have:=hold hx;omega
 .show(T.set (zB m.next) m.b m.next (some (.cells Tb (b.n*b.z) b.e (if b.bx then 0 else b.z)))).get i=some x
  have:=hc.sub i x hx;rw[hget,if_neg (by have:=hold this;omega)]
  exact this
 .have hd':(if (d,0)=γ then some b else lookO s.o γ)=some dd:=by rw[<-ymz (.inl rfl)];exact hd
  clear hd
  split at hd'
  .rename_i q;subst q;have hd2:=Option.some.inj hd';subst hd2;exact .inl ⟨m.next,Tb,L,ych,he,by show(T.set (zB m.next) m.b m.next _).get m.next=_;rw[hget,if_pos rfl],fun i hi=>⟨(hL i hi).1,(hL i hi).2.1.mono (Le.refl _) hle,(hL i hi).2.2⟩⟩
  .exact(hc.own γ dd hd').mono hle fun k z hk=>by show(T.set (zB m.next) m.b m.next _).get k=_;rw[hget,if_neg (by have:=(hc.apart γ k z hk).2.2;omega)]
 .obtain⟨q1,q2⟩:=ykv hγ;rw[ybly (fun e=>q1 (by rw[e]))];exact hc.dom γ q2
 .intro γ δ k z k' z' h1 h2 hne;unfold yfo at h1 h2;split at h1<;>split at h2
  .rename_i a b;exact absurd (a.trans b.symm) hne
  .cases h1;have:=(hc.apart δ k' z' h2).2.2;omega
  .cases h2;have:=(hc.apart γ k z h1).2.2;omega
  .exact hc.inj γ δ k z k' z' h1 h2 hne
 .intro γ k z h1;unfold yfo at h1;split at h1
  .cases h1
   refine⟨?_,hc.nxt,Nat.lt_succ_self _⟩;cases hF:F m.next with
   |none=>rfl
   |some x=>have:=hold (hc.sub _ _ hF);omega
  .obtain⟨a,b,d⟩:=hc.apart γ k z h1;exact⟨a,b,Nat.lt_succ_of_lt d⟩
 .obtain⟨u,h1,h2⟩:=hc.fr t v hv;exact⟨u,h1,h2.mono (Le.refl _) hle⟩
theorem OpS.new (hc:Conc lo F ω s f m) {d:Nat}{b:OB}(hn:ylo s b.e d=true) {Tb:Ev.T Value}{L:Nat->List Value}{u:Value}{v:SV}
 (hev:evOp P f o m=some ⟨u,.new (.cells Tb (b.n*b.z) b.e (if b.bx then 0 else b.z)),[]⟩)
 (hL:∀i,i<b.n->(L i).length=b.z/\RVL F ω (b.g i) (L i)/\(b.g i).all one1=true/\∀j,j<b.z->Tb.get (i*b.z+j)=(L i)[j]?)
 (hv:RV F (yfo ω (d,0) m.next b.z) v u):OpS P lo F ω f m o ⟨c,⟨[],[],[(d,0)],false,false,false,false⟩,v,s.own (d,0) (some b)⟩:=by
 have hω:=hc.dom (d,0) (yfh hn);refine⟨_,yfo ω (d,0) m.next b.z,hev,yid hω,hc.new (yfh hn) (ypo hn) hL,hv,fun γ k z hk=>?_,fun x hx=>(by cases hx),fun x hx=>(by cases hx),fun q=>(by cases q),fun _=>⟨(d,0),b.z,by simp,ych⟩⟩
 unfold yfo at hk;split at hk
 .cases hk;exact .inr (zY _)
 .exact .inl hk
theorem ydzz(hc:Conc lo F ω s f m){t:TypeId}{x:Operand}{β:Nat}{v:SV}(hop:o.op = .box t x)(hx:s.get x=some v)(hn:ylo s t β=true)(h1:v.cells.all one1=true) :
 OpS P lo F ω f m o ⟨c,⟨[],[],[(β,0)],false,false,false,false⟩,.pt (β,0) 0 0,s.own (β,0) (some ⟨t,true,v.cells.length,1,fun _=>v.cells⟩)⟩:=by
 obtain⟨u,e,hr⟩:=hc.get hx;obtain⟨k1,k2⟩:=yos hr h1;have hlen:=k1.length;refine OpS.new hc (b:=⟨t,true,v.cells.length,1,fun _=>v.cells⟩) hn (Tb:=tOf u.cells.toList) (L:=fun _=>u.cells.toList) (u:=.pointer (some ⟨m.next,0,none⟩)) ?_ (fun i hi=>⟨hlen.symm,k1,h1,fun j _=>?_⟩) ?_
 .unfold evOp;rw[hop];show ob (f.get x) (evBox t m)=_;rw[e];show iteB (allGood u.cells.toList) _ none=_;rw[ybe,if_pos k2];show some (⟨_,.new (.cells (tOf u.cells.toList) u.cells.toList.length t 0),[]⟩:R)=some ⟨_,.new (.cells _ (1*v.cells.length) t 0),[]⟩;rw[Nat.one_mul,hlen]
 .have:i=0:=Nat.lt_one_iff.1 hi;subst this;rw[zAM,zM];exact ydf _ _
 .have:=RV.pt (F:=F) (ω:=yfo ω (β,0) m.next v.cells.length) (i:=0) (j:=0) ych
  simpa using this
theorem yyt(z:List Value):∀(n i j:Nat),i<n->j<z.length->(repl n z)[i*z.length+j]?=z[j]?
 |0,i,j,h,_=>absurd h (zAI _)
 |n+1,0,j,_,hj=>by rw[yjd,zAM,zM,zJ hj]
 | n+1,i+1,j,h,hj=>by
   rw[yjd,zI (by rw[zAB];omega),show(i+1)*z.length+j-z.length=i*z.length+j by rw[zAB];omega]
   exact yyt z n i j (by omega) hj
theorem ysi{l:List Value}(h:l.all simple=true):(l.map ofV).all one1=true:=by
 rw[List.all_map];refine List.all_eq_true.2 fun x hx=>?_;have:=List.all_eq_true.1 h x hx;cases x<;>first|rfl|(exact absurd this (by simp[Ev.simple]))
theorem ygt{i:TypeInfo}{z:List Value}(h:zeroA i=some z):z.all simple=true/\z.length=i.size:=by
 unfold zeroA at h;obtain⟨v,h1,h2⟩:=yg h;obtain⟨h3,h4⟩:=ybd h2;cases h4
 rw[zH]at h3;refine⟨?_,zC h3.2⟩;have h5:=h3.1;unfold atomA at h5;split at h5
 .exact h5
 .rename_i hne
  cases v<;>first|exact absurd rfl (hne _)|simpa[Value.cells]using h5
theorem ybxd(hc:Conc lo F ω s f m){t:TypeId}{β n:Nat}{i:TypeInfo}{z zj:List Value}(hop:o.op = .alloc t)(hi:P.info? t=some i)(hz:zeroA i=some z)(hr:z=repl n zj)(hs:zj.all simple=true)(hn:ylo s t β=true) :
 OpS P lo F ω f m o ⟨c,⟨[],[],[(β,0)],false,false,false,false⟩,.pt (β,0) 0 0,s.own (β,0) (some ⟨t,true,(zj.map ofV).length,n,fun _=>zj.map ofV⟩)⟩:=by
 refine OpS.new hc (b:=⟨t,true,(zj.map ofV).length,n,fun _=>zj.map ofV⟩) hn (Tb:=tOf z) (L:=fun _=>zj) (u:=.pointer (some ⟨m.next,0,none⟩)) ?_ (fun k hk=>⟨by simp,ypy hs,ysi hs,fun j hj=>?_⟩) ?_
 .unfold evOp;rw[hop];show ob (P.info? t) (evAlloc t m)=_;rw[hi];show ob (zeroA i) _=_;rw[hz];show some (⟨_,.new (.cells (tOf z) z.length t 0),[]⟩:R)=some ⟨_,.new (.cells _ (n*(zj.map ofV).length) t 0),[]⟩;rw[hr,yfa,zO]
 .rw[ydf,hr];show(repl n zj)[k*(zj.map ofV).length+j]?=_;rw[zO];exact yyt zj n k j hk (by simpa using hj)
 .have:=RV.pt (F:=F) (ω:=yfo ω (β,0) m.next (zj.map ofV).length) (i:=0) (j:=0) ych
  simpa using this
theorem s_mk (hc:Conc lo F ω s f m) {t elem:TypeId}{x y:Operand}{β:Nat}{i:TypeInfo}{z:List Value}{k k':IntKind}{n:Int}(hop:o.op = .makeSlice t x y) (hd:P.underlying t=some (.slice elem)) (hi:P.info? elem=some i) (hz:zeroA i=some z)
 (hx:s.get x=some (.i k n)) (hy:s.get y=some (.i k' n)) (h0:0<=n) (hb:i.bytes*n.toNat<=1000000) (hb':n.toNat<=1000000) (hn:ylo s elem β=true) :
 OpS P lo F ω f m o ⟨c,⟨[],[],[(β,0)],false,false,false,false⟩,.os (β,0) 0 n.toNat true,s.own (β,0) (some ⟨elem,false,i.size,n.toNat,fun _=>z.map ofV⟩)⟩:=by
 obtain⟨u1,e1,r1⟩:=hc.get hx;obtain⟨u2,e2,r2⟩:=hc.get hy;cases r1.int_inv
 cases r2.int_inv
 obtain⟨a,rfl⟩:=zX h0;rw[Int.toNat_natCast]at *;obtain⟨hs,hl⟩:=ygt hz;refine OpS.new hc (b:=⟨elem,false,i.size,a,fun _=>z.map ofV⟩) hn (Tb:=tOf (repl a z)) (L:=fun _=>z) (u:=.slice (some ⟨m.next,0,none⟩) a a) ?_ (fun q hq=>⟨hl,ypy hs,ysi hs,fun j hj=>?_⟩) ?_
 .unfold evOp;rw[hop];show(ob (f.get x) fun l=>ob (f.get y) (evMakeSlice P t m l))=_;rw[e1];show(ob (f.get y) (evMakeSlice P t m _))=_;rw[e2];show(ob (P.underlying t) fun d=>evMakeSlice1 P m a a d)=_;rw[hd];show(ob (P.info? elem) fun i=>ob (zeroA i) fun z=>evMakeSlice2 m elem a a i z)=_;rw[hi];show(ob (zeroA i) fun z=>evMakeSlice2 m elem a a i z)=_;rw[hz];show evMakeSlice2 m elem a a i z=_;unfold evMakeSlice2
  rw[ybe,if_pos (by rw[zA (zY a),zA hb,zA hb'];rfl)]
  show some (⟨_,.new (.cells (tOf (repl a z)) (repl a z).length elem i.size),[]⟩:R)=some ⟨_,.new (.cells _ (a*i.size) elem i.size),[]⟩;rw[yfa,hl]
 .rw[ydf];show(repl a z)[q*i.size+j]?=_;rw[<-hl];exact yyt z a q j hq (by rw[hl];exact hj)
 .have:=RV.os (F:=F) (ω:=yfo ω (β,0) m.next i.size) (o:=0) (n:=a) (c:=a) (ap:=true) ych (fun _=>.inr ⟨rfl,by show a<1208925819614629174706176;omega⟩)
  simpa using this
end
end Sh
end
section
namespace Sh
open Go Ev
section
variable {P:Program}{lo:Nat}{F:AM}{ω:Om}{s:SS}{f:Fr}{m:Mem}{o:Oper}{c:Prop}{r:SRec}
theorem ybae{l new:List SV}{p:Nat}(h:p+new.length<=l.length):(splice l p new).length=l.length:=by
 unfold splice;simp;omega
theorem yti:∀{qs:List (Nat×Nat×Operand)}{l l':List SV},fill s l qs=some l'->l'.length=l.length
 |[],l,l',h=>by cases h;rfl
 | (p,n,x)::qs,l,l',h=>by
   unfold fill at h;split at h
   .cases h
   .split at h
    .rename_i hq
     rw[yti h,ybae (by rw[hq.1];exact hq.2.1)]
    .cases h
theorem ydkm (hc:Conc lo F ω s f m) {t:TypeId}{parts:Array (Nat×Operand)}{i:TypeInfo}{z:List Value}{d:TypeDesc}{place:Nat->Option (Nat×Nat)}{qs:List (Nat×Nat×Operand)}{l:List SV}
 (hop:o.op = .build t parts) (hi:P.info? t=some i) (hz:zeroA i=some z) (hd:P.underlying t=some d)
 (hp:(∃fs pl,d = .struct fs/\placesA P fs.toList=some pl/\place=fun k=>pl[k]?)\/(∃n elem j,d = .array n elem/\P.info? elem=some j/\place=fun k=>some (k*j.size,j.size)))
 (hq:parts.toList.mapM (fun p=>(place p.1).map fun q=>(q.1,q.2,p.2))=some qs) (hf:fill s (z.map ofV) qs=some l):OpS P lo F ω f m o ⟨c,r,.ag l,s⟩:=by
 obtain⟨hs,_⟩:=ygt hz;obtain⟨vs,L,t1,t2,t3,_⟩:=yyp hc hq (ypy hs) (ysi hs) hf;refine OpS.idle hc (u:=.agg L.toArray) ?_ (.ag t3);unfold evOp;rw[hop];show ob (partsA f parts.toList) (evBuild P t)=_;rw[t1];show(ob (P.info? t) fun i=>ob (zeroA i) fun z=>ob (P.underlying t) fun d=>evBuild1 P z vs d)=_;rw[hi];show(ob (zeroA i) fun z=>ob (P.underlying t) fun d=>evBuild1 P z vs d)=_;rw[hz];show(ob (P.underlying t) fun d=>evBuild1 P z vs d)=_
 rw[hd];rcases hp with⟨fs,pl,rfl,h1,rfl⟩|⟨n,elem,j,rfl,h1,rfl⟩
 .show(ob (placesA P fs.toList) fun pl=>ob (fillA (fun k=>pl[k]?) z vs) fun l=>val (.agg l.toArray))=_;rw[h1];show(ob (fillA (fun k=>pl[k]?) z vs) fun l=>val (.agg l.toArray))=_;rw[t2];rfl
 .show(ob (P.info? elem) fun j=>ob (fillA (fun k=>some (k*j.size,j.size)) z vs) fun l=>val (.agg l.toArray))=_;rw[h1];show(ob (fillA (fun k=>some (k*j.size,j.size)) z vs) fun l=>val (.agg l.toArray))=_;rw[t2];rfl
theorem ybfv{α:Type}{l:List α}{k z n:Nat}(h:l.length=n*z)(hk:k<n):((l.drop (k*z)).take z).length=z:=by
 have:=ykc (z:=z) hk;simp;omega
theorem yvc{z:List Value}(h:z.all simple=true):∀n,(repl n z).all simple=true
 |0=>rfl
 |n+1=>by rw[yjd,zL,h,yvc h n];rfl
theorem yciy (hc:Conc lo F ω s f m) {t elem:TypeId}{n β:Nat}{parts:Array (Nat×Operand)}{i:TypeInfo}{z:List Value}{qs:List (Nat×Nat×Operand)}{l:List SV}
 (hop:o.op = .buildSlice t n parts) (hd:P.underlying t=some (.slice elem)) (hi:P.info? elem=some i) (hz:zeroA i=some z) (hb:n*i.size<=10000) (hb':n<=10000)
 (hq:parts.toList.mapM (fun p=>((fun k=>some (k*i.size,i.size)) p.1:Option (Nat×Nat)).map fun q=>(q.1,q.2,p.2))=some qs) (hf:fill s ((repl n z).map ofV) qs=some l) (hn:ylo s elem β=true) :
 OpS P lo F ω f m o ⟨c,⟨[],[],[(β,0)],false,false,false,false⟩,.os (β,0) 0 n true,s.own (β,0) (some ⟨elem,false,i.size,n,fun k=>(l.drop (k*i.size)).take i.size⟩)⟩:=by
 obtain⟨hs,hzl⟩:=ygt hz;have hs':=yvc hs n;obtain⟨vs,L,t1,t2,t3,t4⟩:=yyp hc (place:=fun k=>some (k*i.size,i.size)) hq (ypy hs') (ysi hs') hf;have hlen:l.length=n*i.size:=by rw[yti hf,zO,yfa,hzl]
 have hLen:L.length=n*i.size:=by rw[<-t3.length];exact hlen
 refine OpS.new hc (b:=⟨elem,false,i.size,n,fun k=>(l.drop (k*i.size)).take i.size⟩) hn (Tb:=tOf L) (L:=fun k=>(L.drop (k*i.size)).take i.size) (u:=.slice (some ⟨m.next,0,none⟩) n n) ?_
  (fun k hk=>⟨ybfv hLen hk,(t3.drop _).take _,yse (yla t4 _) _,fun j hj=>?_⟩) ?_
 .unfold evOp;rw[hop];show(ob (partsA f parts.toList) fun ps=>ob (P.underlying t) (evBuildSlice P m n ps))=_;rw[t1];show ob (P.underlying t) (evBuildSlice P m n vs)=_;rw[hd];show(ob (P.info? elem) fun i=>ob (zeroA i) fun z=>evBuildSlice1 m n elem vs i z)=_;rw[hi];show(ob (zeroA i) fun z=>evBuildSlice1 m n elem vs i z)=_;rw[hz];show evBuildSlice1 m n elem vs i z=_;unfold evBuildSlice1;rw[ybe,if_pos (by rw[zA hb,zA hb'];rfl),t2]
  show some (⟨_,.new (.cells (tOf L) L.length elem i.size),[]⟩:R)=some ⟨_,.new (.cells _ (n*i.size) elem i.size),[]⟩;rw[hLen]
 .rw[ydf];have hj:j<i.size:=hj;simp[zAC,hj]
 .have:=RV.os (F:=F) (ω:=yfo ω (β,0) m.next i.size) (o:=0) (n:=n) (c:=n) (ap:=true) ych (fun _=>.inr ⟨rfl,by show n<1208925819614629174706176;omega⟩)
  simpa using this
theorem yboz{α:Type}{l new:List α}{p j:Nat}(h:p+new.length<=l.length):(l.take p++new++l.drop (p+new.length))[j]?=if p<=j/\j<p+new.length then new[j-p]? else l[j]?:=by
 by_cases h1:j<p
 .rw[if_neg (by omega),zV,zJ (by simp;omega)]
  simp[h1]
 .by_cases h2:j<p+new.length
  .rw[if_pos (by omega),zV,zI (by simp;omega),zJ (by simp;omega)]
   congr 1;simp;omega
  .rw[if_neg (by omega),zI (by simp;omega)]
   simp only[zS,zAF,zAC];congr 1;omega
theorem Conc.upd (hc:Conc lo F ω s f m) {β:Nm}{k:Nat}{b:OB}(hex:∃c,lookO s.o β=some c) (hk:ω β=some (some (k,b.z))) (he:b.e≠CU) {Tb:Ev.T Value}{L:Nat->List Value}
 (hL:∀i,i<b.n->(L i).length=b.z/\RVL F ω (b.g i) (L i)/\(b.g i).all one1=true/\∀j,j<b.z->Tb.get (i*b.z+j)=(L i)[j]?) :
 Conc lo F ω (s.own β (some b)) f (m.app (.upd k (.cells Tb (b.n*b.z) b.e (if b.bx then 0 else b.z)))):=by
 rw[yzg];have hget:∀i,(T.set (zB k) m.b k (some (.cells Tb (b.n*b.z) b.e (if b.bx then 0 else b.z)))).get i=if i=k then some (.cells Tb (b.n*b.z) b.e (if b.bx then 0 else b.z))else m.b.get i:=fun i=>T.set_at _ _ _ _
 have hap:=hc.apart β k _ hk;refine⟨fun i x hx=>?_,?_,hc.nxt,fun i x hx=>?_,fun γ d hd=>?_,fun γ hγ=>?_,hc.inj,hc.apart,hc.fr⟩
 .have hx:(T.set (zB k) m.b k (some (.cells Tb (b.n*b.z) b.e (if b.bx then 0 else b.z)))).get i=some x:=hx
  rw[hget]at hx;show i<m.next
  split at hx
  .rename_i q;rw[q];exact hap.2.2
  .exact hc.wf i x hx
 .show lo<=zAE m.low k;have:=hc.low;have:=hap.2.1;rw[zAP];omega
 .show(T.set (zB k) m.b k (some (.cells Tb (b.n*b.z) b.e (if b.bx then 0 else b.z)))).get i=some x
  rw[hget,if_neg (fun q=>by rw[q,hap.1]at hx;cases hx)]
  exact hc.sub i x hx
 .have hd':(if β=γ then some b else lookO s.o γ)=some d:=by rw[<-ymz (.inr hex)];exact hd
  clear hd
  split at hd'
  .rename_i q;subst q;have hd2:=Option.some.inj hd';subst hd2;exact .inl ⟨k,Tb,L,hk,he,by show(T.set (zB k) m.b k _).get k=_;rw[hget,if_pos rfl],hL⟩
  .rename_i q
   exact(hc.own γ d hd').mono (Om.le_refl _) fun k' z' hk'=>by show(T.set (zB k) m.b k _).get k'=_;rw[hget,if_neg (fun e=>hc.inj γ β k' z' k _ hk' hk (Ne.symm q) e)]
 .exact hc.dom γ (ykv hγ).2
theorem ydjv(hc:Conc lo F ω s f m){t:TypeId}{x y:Operand}{i:TypeInfo}(hop:o.op = .store t x y)(hi:P.info? t=some i){p v:SV}(hx:s.get x=some p)(hy:s.get y=some v){q:XR}(h:ybbx s i.size v p=some q)(hr:q.c):OpS P lo F ω f m o q:=by
 obtain⟨u,e,hu⟩:=hc.get hx;obtain⟨w,e',hw⟩:=hc.get hy;unfold ybbx at h;split at h
 .rename_i β a j
  split at h
  .rename_i b hb
   split at h
   .rename_i hq
    cases h
    obtain⟨q1,q2,q3⟩:=hq;have ha:a<b.n:=hr;obtain⟨k,z,hk,rfl⟩:=hu.pt_inv;obtain⟨rfl,Tb,L,g1,g2⟩:=hc.ownAt hb hk (.inl (by omega))
    obtain⟨k1,k2⟩:=yos hw q3;have hlen:w.cells.toList.length=i.size:=by rw[<-k1.length];exact q1
    have hin:=ykc (z:=b.z) ha;have hset:(b.set a j v.cells).z=b.z/\(b.set a j v.cells).n=b.n/\(b.set a j v.cells).e=b.e/\(b.set a j v.cells).bx=b.bx:=⟨rfl,rfl,rfl,rfl⟩
    have hg:∀n,n<b.n->(b.set a j v.cells).g n=if n=a then splice (b.g a) j v.cells else b.g n:=by
     intro n hn;unfold OB.set;simp only;split
     .rename_i hq1
      have h1:n=0:=by omega
      have h2:a=0:=by omega
      subst h1;subst h2;simp
     .rfl
    refine⟨⟨undef,.upd k (.cells (Ev.T.sets Tb (a*b.z+j) w.cells.toList) (b.n*b.z) b.e (if b.bx then 0 else b.z)),[k]⟩,ω,?_,Om.le_refl _,
     hc.upd (b:=b.set a j v.cells) ⟨_,hb⟩ hk (show b.e≠CU from hc.ownE hb hk (.inl (by omega))) (L:=fun n=>if n=a then(L a).take j++w.cells.toList++(L a).drop (j+w.cells.toList.length)else L n) ?_,.tp .nil,fun _ _ _ h=>.inl h,fun y hy=>?_,fun y hy=>?_,fun _=>rfl,fun q=>(by cases q)⟩
    .unfold evOp;rw[hop];show(ob (f.get y) fun v=>ob (f.get x) (evStore P t m v))=_;rw[e'];show ob (f.get x) (evStore P t m w)=_;rw[e];show(ob (storeA P m t ⟨k,a*b.z+j,none⟩ w) fun e=>(some ⟨undef,e,[k]⟩:Option R))=_
     have:storeA P m t ⟨k,a*b.z+j,none⟩ w=some (.upd k (.cells (Ev.T.sets Tb (a*b.z+j) w.cells.toList) (b.n*b.z) b.e (if b.bx then 0 else b.z))):=by
      unfold storeA;rw[g1,hi];simp only
      have hne:zD b.e CU=false:=by
       cases hq:zD b.e CU with
       |false=>rfl
       |true=>exact absurd (zC hq) (hc.ownE hb hk (.inl (by omega)))
      rw[hlen,zF,k2,zA (by omega),hne]
      rfl
     rw[this];rfl
    .intro n hn;obtain⟨l1,l2,l3,l4⟩:=g2 a ha;have hn:n<b.n:=hn;rw[hg n hn];show _/\_/\_/\∀j',j'<b.z->_
     by_cases hna:n=a
     .subst hna;simp only[if_true];have hle:j+w.cells.toList.length<=(L n).length:=by rw[l1,hlen];exact q2
      refine⟨by simp only[zS,zAF,List.length_drop];show _=b.z;omega,?_,?_,fun j' hj'=>?_⟩
      .unfold splice;rw[k1.length];exact((l2.take _).append k1).append (l2.drop _)
      .unfold splice;rw[zL,zL,yse l3,yla l3,q3];rfl
      .show(Ev.T.sets Tb (n*b.z+j) w.cells.toList).get (n*b.z+j')=_;rw[T.sets_at,yboz hle]
       by_cases hc1:j<=j'/\j'<j+w.cells.toList.length
       .rw[if_pos (by omega),if_pos hc1];congr 1;omega
       .rw[if_neg (by omega),if_neg hc1];exact l4 j' hj'
     .simp only[if_neg hna];obtain⟨m1,m2,m3,m4⟩:=g2 n hn;refine⟨m1,m2,m3,fun j' hj'=>?_⟩;show(Ev.T.sets Tb (a*b.z+j) w.cells.toList).get (n*b.z+j')=_;rw[T.sets_at,if_neg,m4 j' hj'];rcases Nat.lt_or_gt_of_ne hna with h1|h1
      .have:=ykc (z:=b.z) h1;omega
      .have:=ykc (z:=b.z) h1;omega
    .simp at hy;subst hy;exact .inl ⟨β,b.z,by simp,hk⟩
    .simp[Eff.mods]at hy;subst hy;exact⟨β,b.z,by simp,hk⟩
   .cases h
  .cases h
 .cases h
end
end Sh
end
section
namespace Sh
open Go Ev
section
variable {P:Program}{lo:Nat}{F:AM}{ω:Om}{s:SS}{f:Fr}{m:Mem}{o:Oper}{c:Prop}{r:SRec}
def ycm(L:Nat->List Value):Nat->List Value
 |0=>[]
 |n+1=>ycm L n++L n
theorem ycp{L:Nat->List Value}{z:Nat}:∀{n:Nat},(∀k,k<n->(L k).length=z)->(ycm L n).length=n*z
 |0,_=>by simp[ycm]
 | n+1,h=>by
   rw[ycm,zS,ycp (fun k hk=>h k (by omega)),h n (by omega),zAB]
theorem ygq{L:Nat->List Value}{z:Nat}:∀{n:Nat},(∀k,k<n->(L k).length=z)->∀k j,k<n->j<z->(ycm L n)[k*z+j]?=(L k)[j]?
 |0,_,k,j,h,_=>absurd h (zAI _)
 | n + 1,h,k,j,hk,hj=>by
   have hl:=ycp (L:=L) (z:=z) (n:=n) (fun k hk=>h k (by omega))
   rw[ycm]
   by_cases hkn:k<n
   .have:=ykc (z:=z) hkn;rw[zJ (by omega)]
    exact ygq (fun k hk=>h k (by omega)) k j hkn hj
   .obtain rfl:k=n:=by omega
    rw[zI (by omega),hl]
    congr 1;omega
theorem ywx(L L':Nat->List Value)(n:Nat):∀k,ycm L n++ycm L' k=ycm (fun a=>if a<n then L a else L' (a-n)) (n+k)
 | 0 => by
   rw[ycm,List.append_nil,zAN]
   have:∀j,j<=n->ycm L j=ycm (fun a=>if a<n then L a else L' (a-n)) j:=by
    intro j
    induction j with
    |zero=>intro _;rfl
    |succ j ih=>intro hj;rw[ycm,ycm,ih (by omega),if_pos (show j<n by omega)]
   exact this n (zY _)
 | k+1=>by
   rw[ycm,<-zV,ywx L L' n k,show n+(k+1)=(n+k)+1 by omega]
   show _=ycm _ (n+k)++(if n+k<n then L (n+k)else L' (n+k-n))
   rw[if_neg (by omega),Nat.add_sub_cancel_left]
theorem yxj{g:Nat->List SV}{L:Nat->List Value}:∀{n:Nat},(∀k,k<n->allGood (L k)=true)->allGood (ycm L n)=true
 |0,_=>rfl
 | n + 1,h=>by
   have happ:∀(a b:List Value),allGood a=true->allGood b=true->allGood (a++b)=true:=by
    intro a b
    induction a with
    |nil=>intro _ h;exact h
    | cons v a ih =>
      intro h1 h2;cases v<;>first|exact ih h1 h2|cases h1
   exact happ _ _ (yxj (g:=g) fun k hk=>h k (by omega)) (h n (by omega))
theorem ydbn{l:List SV}{L:List Value}(hl:RVL F ω l L)(h1:l.all one1=true):allGood L=true:=by
 have:=(yos (v:=.ag l) (u:=.agg L.toArray) (.ag hl) h1).2
 simpa[Value.cells]using this
theorem yccl(hc:Conc lo F ω s f m){z:Nat}{v:SV}{u:Value}{q:Row}(h:yrb s z v=some q)(hv:RV F ω v u)(h0:0<q.n)(hqc:q.c) :
 ∃(L:Nat->List Value) (k:Nat),rowOf m z u=some (ycm L q.n,[k])/\lenA u=q.n/\(∀a,a<q.n->(L a).length=z/\RVL F ω (q.g a) (L a)/\(q.g a).all one1=true)/\((∃β z',β∈q.rd/\ω β=some (some (k,z')))\/(q.fz=true/\∃b,F k=some b)):=by
 have row:∀{bk p n cp N e zz:Nat}{Tb:Ev.T Value}{L:Nat->List Value},m.b.get bk=some (.cells Tb N e zz)->0<n->p+n*z<=N->(∀a,a<n->(L a).length=z)->(∀a,a<n->∀j,j<z->Tb.get (p+a*z+j)=(L a)[j]?) ->
  rowOf m z (.slice (some ⟨bk,p,none⟩) n cp)=some (ycm L n,[bk]):=by
  intro bk p n cp N e zz Tb L h1 h2 h3 h4 h5;have hl:=ycp h4;show(bif zD n 0 then _ else _)=_;rw[show zD n 0=false by cases n with|zero=>omega|succ n=>rfl]
  simp only[cond_false];rw[h1];simp only;rw[zA h3];simp only[cond_true]
  have hg:=yhh (T:=Tb) (L:=ycm L n) (o:=p) (fun j hj=>by
   rw[hl]at hj;rcases Nat.eq_zero_or_pos z with hz|hz
   .subst hz;omega
   .have hd:=zAJ j z;have hm:=zAQ j hz;have hk:j/z<n:=zZ (by rwa [zW]at hj)
    have e1:j=j/z*z+j%z:=by rw[zW];exact hd.symm
    rw[e1,ygq h4 _ _ hk hm,<-zAL];exact h5 _ hk _ hm)
  rw[hl]at hg;rw[hg]
 unfold yrb at h;split at h
 .rename_i z' n g
  split at h
  .rename_i hz;subst hz;cases h
   rcases hv.sl_inv with⟨rfl,_⟩|⟨bk,p,cp,T,N,e,zz,L,rfl,g1,g2,g3,g4,g5,g6,g7⟩
   .exact absurd h0 (zT _)
   .exact⟨L,bk,row (hc.sub _ _ g1) h0 g3 g4 g5,rfl,fun a ha=>⟨g4 a ha,(g6 a ha).mono (Le.refl _) (yqo _),g7 a ha⟩,.inr ⟨rfl,_,g1⟩⟩
  .cases h
 .rename_i β p n cp
  split at h
  .rename_i b hbl
   split at h
   .rename_i hz;subst hz;cases h
    have hb:p+n<=b.n:=hqc;rcases hv.os_inv with⟨k,z,cp',hk,rfl,_⟩|⟨_,_,rfl,_⟩
    .obtain⟨rfl,T,L,g1,g2⟩:=hc.ownAt hbl hk (.inl (by have h0:0<n:=h0;omega))
     have hN:p*b.z+n*b.z<=b.n*b.z:=by rw[<-zK];exact zQ _ hb
     refine⟨fun a=>L (p+a),k,row g1 h0 hN (fun a ha=>(g2 (p+a) (by omega)).1) (fun a ha j hj=>?_),rfl,fun a ha=>?_,.inl ⟨β,_,by simp,hk⟩⟩
     .rw[<-zK];exact(g2 (p+a) (by omega)).2.2.2 j hj
     .have ha:a<n:=ha;obtain⟨l1,l2,l3,_⟩:=g2 (p+a) (by omega);exact⟨l1,l2,l3⟩
    .exact absurd h0 (zT _)
   .cases h
  .cases h
 .cases h;exact absurd h0 (zT _)
 .cases h
theorem Conc.drop(hc:Conc lo F ω s f m){γ:Nm}{k z:Nat}(hex:∃c,lookO s.o γ=some c)(hk:ω γ=some (some (k,z))):Conc lo F ω (s.own γ none) f ⟨m.next,Ev.T.set (zB k) m.b k none,zAE m.low k⟩:=by
 have hget:∀i,(Ev.T.set (zB k) m.b k none).get i=if i=k then none else m.b.get i:=fun i=>T.set_at _ _ _ _
 have hap:=hc.apart γ k z hk;refine⟨fun i x hx=>?_,?_,hc.nxt,fun i x hx=>?_,fun δ d hd=>?_,fun δ hδ=>?_,hc.inj,hc.apart,hc.fr⟩
 .have hx:(Ev.T.set (zB k) m.b k none).get i=some x:=hx;rw[hget]at hx;split at hx
  .cases hx
  .exact hc.wf i x hx
 .show lo<=zAE m.low k;have:=hc.low;have:=hap.2.1;rw[zAP];omega
 .show(Ev.T.set (zB k) m.b k none).get i=some x;rw[hget,if_neg (fun q=>by rw[q,hap.1]at hx;cases hx)]
  exact hc.sub i x hx
 .have hd':(if γ=δ then none else lookO s.o δ)=some d:=by rw[<-ymz (.inr hex)];exact hd
  clear hd
  split at hd'
  .cases hd'
  .rename_i q
   exact(hc.own δ d hd').mono (Om.le_refl _) fun k' z' hk'=>by show(Ev.T.set (zB k) m.b k _).get k'=_;rw[hget,if_neg (fun e=>hc.inj δ γ k' z' k _ hk' hk (Ne.symm q) e)]
 .exact hc.dom δ (ykv hδ).2
theorem Conc.drop0(hc:Conc lo F ω s f m){γ:Nm}(hex:∃c,lookO s.o γ=some c):Conc lo F ω (s.own γ none) f m:=by
 refine⟨hc.wf,hc.low,hc.nxt,hc.sub,fun δ d hd=>?_,fun δ hδ=>?_,hc.inj,hc.apart,hc.fr⟩
 .have hd':(if γ=δ then none else lookO s.o δ)=some d:=by rw[<-ymz (.inr hex)];exact hd
  clear hd
  split at hd'
  .cases hd'
  .exact hc.own δ d hd'
 .exact hc.dom δ (ykv hδ).2
theorem yxy{l:Own}{β:Nm}{b:OB}(h:lookO l β=some b):look l β.1≠none:=fun q=>by
 unfold lookO at h;rw[q]at h;cases h
theorem ybjn{z:Nat}{w:SV}{q:Row}(h:yrb s z w=some q){u:Value}(hv:RV F ω w u)(h0:q.n=0):rowOf m z u=some ([],[])/\lenA u=0:=by
 unfold yrb at h;split at h
 .split at h
  .cases h
   rcases hv.sl_inv with⟨rfl,hz⟩|⟨bk,p,cp,T,N,e,zz,L,rfl,_⟩
   .rcases hz with rfl|⟨b,o,c,rfl⟩<;>exact⟨rfl,rfl⟩
   .obtain rfl:=h0;exact⟨rfl,rfl⟩
  .cases h
 .split at h
  .split at h
   .cases h
    rcases hv.os_inv with⟨k,z,cp',hk,rfl,_⟩|⟨_,_,rfl,rfl⟩
    .obtain rfl:=h0;exact⟨rfl,rfl⟩
    .exact⟨rfl,rfl⟩
   .cases h
  .cases h
 .cases h;cases hv;exact⟨rfl,rfl⟩
 .cases h
theorem ycul (hc:Conc lo F ω s f m) {t elem:TypeId}{x y:Operand}{i:TypeInfo}{zv:List Value}(hop:o.op = .call { callee:=.builtin .append,args:=#[x,y],argTypes:=#[t,t] }) (hd:P.underlying t=some (.slice elem)) (hi:P.info? elem=some i) (hz:zeroA i=some zv) (hby:i.bytes<=100000000)
 {v w:SV}{q:Row}(hx:s.get x=some v) (hy:s.pget y=some w) (hq:yrb s i.size w=some q) (h0:q.n=0)
 (hX:v = .a (.slice none 0 0)\/∃γ p n,v = .os γ p n true/\n*i.bytes<=100000000/\n<=100000000):OpS P lo F ω f m o ⟨c,SRec.no,v,s⟩:=by
 obtain⟨u1,e1,r1⟩:=hc.get hx;obtain⟨u2,e2,r2⟩:=hc.pget hy;obtain⟨w1,w2⟩:=ybjn (m:=m) hq r2 h0
 have hs:∃a n c,u1 = .slice a n c/\n*i.bytes<=100000000/\n<=100000000:=by
  rcases hX with rfl|⟨γ,p,n,rfl,b1,b2⟩
  .cases r1;exact⟨_,_,_,rfl,by omega,by omega⟩
  .rcases r1.os_inv with⟨k,z,cp,hk,rfl,_⟩|⟨_,_,rfl,rfl⟩
   .exact⟨_,_,_,rfl,b1,b2⟩
   .exact⟨_,_,_,rfl,by omega,by omega⟩
 obtain⟨a,n,cp,rfl,b1,b2⟩:=hs;refine OpS.idle hc (u:=.slice a n cp) ?_ r1;unfold evOp;rw[hop];show(ob (valsA f [x,y]) fun vs=>evAppend P m vs [t,t])=_;rw[ybam e1 e2];show iteB (zD t t) (ob (P.underlying t) _) none=_;rw[ybe,if_pos (zF _),hd];show appendA P m elem _ u2=_;unfold appendA;rw[hi];show(ob (rowOf m i.size u2) fun q=>appendA1 m elem _ u2 i q)=_;rw[w1];show appendA1 m elem _ u2 i ([],[])=_;unfold appendA1
 have e3:lenA (.slice a n cp)=n:=rfl;rw[w2,e3,zAN,ybe,if_pos (by rw[zA b1,zA b2,zA hby,hz];rfl),ybe,if_pos (by rfl)]
 rfl
theorem ydnf (hc:Conc lo F ω s f m) {t elem:TypeId}{x y:Operand}{β:Nat}{i:TypeInfo}{zv:List Value}(hop:o.op = .call { callee:=.builtin .append,args:=#[x,y],argTypes:=#[t,t] }) (hd:P.underlying t=some (.slice elem)) (hi:P.info? elem=some i) (hz:zeroA i=some zv) (hby:i.bytes<=100000000) (hz0:i.size≠0)
 {v w:SV}{q:Row}(hx:s.get x=some v) (hy:s.pget y=some w) (hq:yrb s i.size w=some q) (hbd:q.c) (hn:ylo s elem β=true) (h0:0<q.n)
 {X:XR}(hX:(v = .a (.slice none 0 0)/\q.n*i.bytes<=100000000/\q.n<=100000000/\X=⟨c,⟨q.rd,[],[(β,0)],q.fz,false,false,false⟩,.os (β,0) 0 q.n true,s.own (β,0) (some ⟨elem,false,i.size,q.n,q.g⟩)⟩) \/
   (∃γ p n b,v = .os γ p n true/\lookO s.o γ=some b/\b.e=elem/\b.z=i.size/\b.bx=false/\p+n<=b.n/\(n+q.n)*i.bytes<=100000000/\n+q.n<=100000000/\X=⟨c,⟨γ::q.rd,[γ],[(β,0)],q.fz,false,false,false⟩,.os (β,0) 0 (n+q.n) true,(s.own γ none).own (β,0) (some ⟨elem,false,i.size,n+q.n,fun k=>if k<n then b.g (p+k)else q.g (k-n)⟩)⟩)):OpS P lo F ω f m o X:=by
 obtain⟨u1,e1,r1⟩:=hc.get hx;obtain⟨u2,e2,r2⟩:=hc.pget hy;obtain⟨L,k,w1,w2,w3,w4⟩:=yccl hc hq r2 h0 hbd;have hlen:(ycm L q.n).length=q.n*i.size:=ycp fun a ha=>(w3 a ha).1;have hgood:allGood (ycm L q.n)=true:=yxj (g:=q.g) fun a ha=>ydbn (w3 a ha).2.1 (w3 a ha).2.2;have hω:=hc.dom (β,0) (yfh hn)
 have hev:∀{R0:Option R},(lenA u1+q.n)*i.bytes<=100000000->lenA u1+q.n<=100000000->appendA2 m i elem q.n (ycm L q.n) [k] u1=R0->evOp P f o m=R0:=by
  intro R0 h1 h2 h3;unfold evOp;rw[hop];show(ob (valsA f [x,y]) fun vs=>evAppend P m vs [t,t])=_;rw[ybam e1 e2];show iteB (zD t t) (ob (P.underlying t) _) none=_;rw[ybe,if_pos (zF _),hd];show appendA P m elem u1 u2=_;unfold appendA;rw[hi];show(ob (rowOf m i.size u2) fun q=>appendA1 m elem u1 u2 i q)=_;rw[w1];show appendA1 m elem u1 u2 i (ycm L q.n,[k])=_;unfold appendA1;rw[w2,ybe,if_pos (by rw[zA h1,zA h2,zA hby,hz,hgood];rfl),ybe,if_neg (fun e=>by have:=zC e;omega)]
  exact h3
 have hfoot:∀{rd:List Nm}{y:Nat},(∀z∈q.rd,z∈rd)->y∈[k]->(∃β z,β∈rd/\ω β=some (some (y,z)))\/(q.fz=true/\∃b,F y=some b):=by
  intro rd y hsub hy;simp at hy;subst hy;exact w4.imp (fun⟨β,z,a,b⟩=>⟨β,z,hsub _ a,b⟩) id
 have hstep:∀γ k z,yfo ω (β,0) m.next i.size γ=some (some (k,z))->ω γ=some (some (k,z))\/m.next<=k:=fun γ k z hk=>by
  unfold yfo at hk;split at hk
  .cases hk;exact .inr (zY _)
  .exact .inl hk
 have hnil:u1 = .slice none 0 0->q.n*i.bytes<=100000000->q.n<=100000000->evOp P f o m=some ⟨.slice (some ⟨m.next,0,none⟩) q.n CU,.new (.cells (tOf (ycm L q.n)) (q.n*i.size) elem i.size),[k]⟩:=by
  rintro rfl h1 h2;refine hev (by show(0+q.n)*_<=_;rw[zM];exact h1) (by show 0+q.n<=_;omega) ?_
  show appRes m q.n _ _=_;unfold appRes;rw[ybp,hlen]
 have hrow:∀a,a<q.n->(L a).length=i.size/\RVL F ω (q.g a) (L a)/\(q.g a).all one1=true/\∀j,j<i.size->(tOf (ycm L q.n)).get (a*i.size+j)=(L a)[j]?:=fun a ha =>
  ⟨(w3 a ha).1,(w3 a ha).2.1,(w3 a ha).2.2,fun j hj=>by rw[ydf];exact ygq (fun a ha=>(w3 a ha).1) a j ha hj⟩
 have hval:∀n,RV F (yfo ω (β,0) m.next i.size) (.os (β,0) 0 n true) (.slice (some ⟨m.next,0,none⟩) n CU):=fun n=>by
  have:=RV.os (F:=F) (ω:=yfo ω (β,0) m.next i.size) (o:=0) (n:=n) (c:=CU) (ap:=true) ych (fun _=>.inl rfl)
  simpa using this
 rcases hX with⟨rfl,b1,b2,rfl⟩|⟨γ,p,n,b,rfl,hb,be,bz,bb,hpn,b1,b2,rfl⟩
 .have hu1:u1 = .slice none 0 0:=by cases r1;rfl
  refine⟨_,yfo ω (β,0) m.next i.size,hnil hu1 b1 b2,yid hω,hc.new (b:=⟨elem,false,i.size,q.n,q.g⟩) (yfh hn) (ypo hn) hrow,hval _,hstep,fun y hy=>hfoot (fun _ h=>h) hy,fun y hy=>(by cases hy),fun q=>(by cases q),fun _=>⟨(β,0),i.size,by simp,ych⟩⟩
 .have hβγ:β≠γ.1:=fun e=>yxy hb (by rw[<-e];exact yfh hn)
  have hn':look (s.own γ none).o β=none:=by
   show(if γ.1=β then some (yqs (look s.o γ.1) γ.2 none)else look s.o β)=none
   rw[if_neg (Ne.symm hβγ)];exact yfh hn
  have hz0':zD i.size 0=false:=by cases he:i.size with|zero=>exact absurd he hz0|succ a=>rfl
  rcases r1.os_inv with⟨k1,z1,cp,hk1,rfl,hcp⟩|⟨hk1,h0p,h00,rfl⟩
  .obtain⟨rfl,Tb,L1,g1,g2⟩:=hc.ownAt hb hk1 (.inr bb);rw[bb,be,bz]at g1;have hin:p*b.z+n*i.size<=b.n*i.size:=by rw[bz,<-zK];exact zQ _ hpn
   have hl1:∀a,a<n->(L1 (p+a)).length=i.size:=fun a ha=>by rw[<-bz];exact(g2 (p+a) (by omega)).1
   have hold:getCells Tb (p*b.z) (n*i.size)=some (ycm (fun a=>L1 (p+a)) n):=by
    have hfl:=ycp hl1
    have:=yhh (T:=Tb) (L:=ycm (fun a=>L1 (p+a)) n) (o:=p*b.z) (fun j hj=>by
     rw[hfl]at hj;have hpos:0<i.size:=Nat.pos_of_ne_zero hz0;have hd:=zAJ j i.size;have hm:=zAQ j hpos;have hk:j/i.size<n:=zZ (by rwa [zW]at hj)
     have e1:j=j/i.size*i.size+j%i.size:=by rw[zW];exact hd.symm
     have e2:=(g2 (p+j/i.size) (by omega)).2.2.2 (j%i.size) (by rw[bz];exact hm)
     rw[e1,ygq hl1 _ _ hk hm,<-e2,bz,zK,zAL])
    rwa [hfl]at this
   have hsome:∀{R0:Option R},appOut m ⟨k1,p*b.z,none⟩ Tb elem i.size n (n+q.n) cp (ycm L q.n) [k1,k]=R0->evOp P f o m=R0:=by
    intro R0 h;refine hev (by exact b1) (by exact b2) ?_
    show(ob (m.b.get k1) fun b'=>appSome m i elem ⟨k1,p*b.z,none⟩ n (n+q.n) cp (ycm L q.n) [k] b')=_;rw[g1];show iteB (zD elem elem&&zD i.size i.size && !(zD i.size 0)&&zAD (p*b.z+n*i.size) (b.n*i.size)&&true && !(zD elem CU)) (iteB (zAD (n+q.n) cp && !(zD cp CU)) _ (appOut m ⟨k1,p*b.z,none⟩ Tb elem i.size n (n+q.n) cp (ycm L q.n) [k1,k])) none=_
    have hne:zD elem CU=false:=by
     cases hq:zD elem CU with
     |false=>rfl
     |true=>exact absurd (zC hq) (ypo hn)
    rw[ybe,if_pos (by rw[zF,zF,hz0',zA hin,hne];rfl),ybe,if_neg]
    .exact h
    .rw[zH];rintro⟨q1,q2⟩;rcases hcp rfl with rfl|⟨rfl,_⟩
     .rw[zF]at q2;cases q2
     .have:=Nat.le_of_ble_eq_true q1;omega
   have hL2:∀{Tn:Ev.T Value},(∀a,a<n+q.n->∀j,j<i.size->Tn.get (a*i.size+j)=(if a<n then L1 (p+a)else L (a-n))[j]?)->∀a,a<n+q.n ->
    ((if a<n then L1 (p+a)else L (a-n)).length=i.size/\RVL F ω (if a<n then b.g (p+a)else q.g (a-n)) (if a<n then L1 (p+a)else L (a-n))/\(if a<n then b.g (p+a)else q.g (a-n)).all one1=true/\∀j,j<i.size->Tn.get (a*i.size+j)=(if a<n then L1 (p+a)else L (a-n))[j]?):=by
    intro Tn hT a ha;refine⟨?_,?_,?_,hT a ha⟩<;>by_cases h:a<n
    .rw[if_pos h];exact hl1 a h
    .rw[if_neg h];exact(w3 (a-n) (by omega)).1
    .rw[if_pos h,if_pos h];exact(g2 (p+a) (by omega)).2.1
    .rw[if_neg h,if_neg h];exact(w3 (a-n) (by omega)).2.1
    .rw[if_pos h];exact(g2 (p+a) (by omega)).2.2.1
    .rw[if_neg h];exact(w3 (a-n) (by omega)).2.2
   have hjoin:∀a,a<n+q.n->∀j,j<i.size->(tOf (ycm (fun a=>L1 (p+a)) n++ycm L q.n)).get (a*i.size+j)=(if a<n then L1 (p+a)else L (a-n))[j]?:=by
    intro a ha j hj;rw[ydf,ywx];refine ygq (L:=fun a=>if a<n then L1 (p+a)else L (a-n)) (z:=i.size) (fun k hk=>?_) a j ha hj
    by_cases h:k<n
    .simp only[if_pos h];exact hl1 k h
    .simp only[if_neg h];exact(w3 (k-n) (by omega)).1
   have hjl:(ycm (fun a=>L1 (p+a)) n).length+(ycm L q.n).length=(n+q.n)*i.size:=by rw[ycp hl1,hlen,zK]
   have hfoot2:∀y∈[k1,k],(∃β z,β∈γ::q.rd/\ω β=some (some (y,z)))\/(q.fz=true/\∃b,F y=some b):=fun y hy=>by
    rcases List.mem_cons.1 hy with h|h
    .subst h;exact .inl ⟨γ,b.z,by simp,hk1⟩
    .exact hfoot (fun z hz=>zAA _ hz) h
   have hmove:∀{Tn:Ev.T Value},evOp P f o m=some ⟨.slice (some ⟨m.next,0,none⟩) (n+q.n) CU,.move k1 (.cells Tn ((n+q.n)*i.size) elem i.size),[k1,k]⟩->(∀a,a<n+q.n->∀j,j<i.size->Tn.get (a*i.size+j)=(if a<n then L1 (p+a)else L (a-n))[j]?) ->
    OpS P lo F ω f m o ⟨c,⟨γ::q.rd,[γ],[(β,0)],q.fz,false,false,false⟩,.os (β,0) 0 (n+q.n) true,(s.own γ none).own (β,0) (some ⟨elem,false,i.size,n+q.n,fun k=>if k<n then b.g (p+k)else q.g (k-n)⟩)⟩:=by
    intro Tn hev2 hT;have hcn:=(hc.drop ⟨_,hb⟩ hk1).new (b:=⟨elem,false,i.size,n+q.n,fun k=>if k<n then b.g (p+k)else q.g (k-n)⟩) hn' (ypo hn) (Tb:=Tn) (L:=fun a=>if a<n then L1 (p+a)else L (a-n)) (hL2 hT)
    refine⟨_,yfo ω (β,0) m.next i.size,hev2,yid hω,?_,hval _,hstep,hfoot2,fun y hy=>?_,fun q=>(by cases q),fun _=>⟨(β,0),i.size,by simp,ych⟩⟩
    .rw[yciz];rw[ybgt]at hcn;exact hcn
    .simp[Eff.mods]at hy;subst hy;exact⟨γ,b.z,by simp,hk1⟩
   rcases hcp rfl with rfl|⟨rfl,hnc⟩
   .by_cases hp0:p*b.z=0
    .have hp:p=0:=by
      rcases Nat.mul_eq_zero.1 hp0 with h|h
      .exact h
      .rw[bz]at h;exact absurd h hz0
     refine hmove (Tn:=Ev.T.sets Tb (n*i.size) (ycm L q.n)) (hsome ?_) (fun a ha j hj=>?_)
     .unfold appOut;rw[ybe,if_pos (by rw[zF,hp0];rfl)]
      unfold appRes;rw[ybp,hlen,zK]
     .by_cases h:a<n
      .rw[if_pos h];have:=ykc (z:=i.size) h;have e2:=(g2 (p+a) (by omega)).2.2.2 j (by rw[bz];exact hj)
       rw[T.sets_at,if_neg (by omega)]
       rw[<-e2,bz,hp,zM]
      .rw[if_neg h];have e3:a*i.size=n*i.size+(a-n)*i.size:=by rw[<-zK];congr 1;omega
       have:=ykc (z:=i.size) (show a-n<q.n by omega)
       rw[T.sets_at,if_pos (by omega),show a*i.size+j-n*i.size=(a-n)*i.size+j by omega]
       exact ygq (fun a ha=>(w3 a ha).1) _ j (by omega) hj
    .refine hmove (Tn:=tOf (ycm (fun a=>L1 (p+a)) n++ycm L q.n)) (hsome ?_) hjoin;unfold appOut;rw[ybe,if_neg (by rw[zH];rintro⟨_,q2⟩;exact hp0 (zC q2))]
     show(ob (getCells Tb (p*b.z) (n*i.size)) fun old=>_)=_;rw[hold];show appRes m (n+q.n) (iteB (zD CU CU) _ _) [k1,k]=_;rw[ybe,if_pos (zF _)];unfold appRes;rw[ybp,hjl]
   .have hnb:zD cp CU=false:=by
     cases hq:zD cp CU with
     |false=>rfl
     |true=>have:=zC hq;omega
    have hev2:evOp P f o m=some ⟨.slice (some ⟨m.next,0,none⟩) (cp+q.n) CU,.new (.cells (tOf (ycm (fun a=>L1 (p+a)) cp++ycm L q.n)) ((cp+q.n)*i.size) elem i.size),[k1,k]⟩:=by
     refine hsome ?_;unfold appOut;rw[ybe,if_neg (by rw[hnb];simp)]
     show(ob (getCells Tb (p*b.z) (cp*i.size)) fun old=>_)=_;rw[hold];show appRes m (cp+q.n) (iteB (zD cp CU) _ _) [k1,k]=_;rw[ybe,if_neg (by rw[hnb];simp)]
     unfold appRes;rw[ybp,hjl]
    have hcn:=(hc.drop0 ⟨_,hb⟩).new (b:=⟨elem,false,i.size,cp+q.n,fun k=>if k<cp then b.g (p+k)else q.g (k-cp)⟩) hn' (ypo hn) (Tb:=tOf (ycm (fun a=>L1 (p+a)) cp++ycm L q.n)) (L:=fun a=>if a<cp then L1 (p+a)else L (a-cp)) (hL2 hjoin)
    exact⟨_,yfo ω (β,0) m.next i.size,hev2,yid hω,hcn,hval _,hstep,hfoot2,fun y hy=>(by cases hy),fun q=>(by cases q),fun _=>⟨(β,0),i.size,by simp,ych⟩⟩
  .have hq0:n=0:=h00;subst hq0;have hcd:=hc.drop0 ⟨_,hb⟩
   have hcn:=hcd.new (b:=⟨elem,false,i.size,0+q.n,fun k=>if k<0 then b.g (p+k)else q.g (k-0)⟩) hn' (ypo hn) (Tb:=tOf (ycm L q.n)) (L:=L) (fun a ha=>by
    have ha:a<0+q.n:=ha;simp only;rw[if_neg (by omega),Nat.sub_zero]
    exact hrow a (by omega))
   refine⟨_,yfo ω (β,0) m.next i.size,hnil rfl (by rw[zM]at b1;exact b1) (by omega),yid hω,?_,?_,hstep,fun y hy=>hfoot (fun z hz=>zAA _ hz) hy,fun y hy=>(by cases hy),fun q=>(by cases q),fun _=>⟨(β,0),i.size,by simp,ych⟩⟩
   .have:0+q.n=q.n:=by omega
    simp only[this]at hcn ⊢;exact hcn
   .rw[zM];exact hval _
end
end Sh
end
end Go.Proofs.YthclbjjgfcgbgaaGreatDoor
