/- Joined. -/
import Derived.Orders
import Derived.LoopN
import Derived.Below
import Derived.ChangeKeysEq
import Derived.IntWalk
set_option linter.unusedSimpArgs false
set_option linter.unusedVariables false
open Go.Result renaming andThen_ok->zA
open Nat renaming le_of_ble_eq_true->zB,eq_of_beq_eq_true->zD,beq->zF,ble->zK,succ->zN,lt_of_lt_of_le->zO,div->zS,add_assoc->zT,le_refl->zU,blt->zW,rec->zAD,zero_add->zAE,lt_succ_self->zAG,add_mul->zAH,mul_le_mul_right->zAJ,le_trans->zAL,add_zero->zAM,min_eq_left->zAT,succ_mul->zAV,add_comm->zAW,beq_refl->zAX,testBit->zAY,min->zAZ,sub->zBA,add->zBD,mul->zBE
open Go.Sem renaming run_bind->zC,run_pure->zH,run->zX
open Bool renaming and_eq_true->zG,cond_eq_ite->zI,rec->zV,not_eq_true'->zAB,or_eq_true->zAU
open List renaming getElem?_append_left->zJ,getElem?_append_right->zL,length_append->zM,eq_nil_of_length_eq_zero->zQ,getElem?_drop->zZ,all_cons->zAA,extract_eq_take_drop->zAC,getElem?_take->zAN,ext_getElem?->zAO,rec->zAQ,length_take->zAR,length_drop->zAS
open Array renaming getElem?_setIfInBounds->zY,toList_map->zAF,getElem?_push->zAK,range->zAP,map->zBB
open Option renaming rec->zAI
open Int renaming ofNat->zBC
open Go
namespace Go.Proofs.YtlbonpgkofloeaaGreatDoor
section
namespace Ev
noncomputable section
inductive T (α:Type) where
 |leaf
 |node (v:Option α) (l r:T α)
def iteB{a:Type}(b:Bool)(t e:a):a:=zV e t b
def ob{a b:Type}(x:Option a)(k:a->Option b):Option b:=zAI none k x
def even(k:Nat):Bool:=zF (Nat.mod k 2) 0
def T.get{a:Type}(t:T a):Nat->Option a :=
 T.rec (fun _=>none) (fun v _ _ b c n=>zAD v (fun k _=>zV (c (zS k 2)) (b (zS k 2)) (even k)) n) t
def T.strict{d e:Type}(t:T d)(k:T d->e):e:=T.rec (k .leaf) (fun a b c _ _=>k (.node a b c)) t
def T.set{b:Type}(f:Nat):T b->Nat->Option b->T b :=
 zAD (fun _ _ _=>.leaf) (fun _ a t n x =>
  T.rec
   (zAD (T.node x .leaf .leaf) (fun k _=>zV (T.strict (a .leaf (zS k 2) x) fun r=>.node none .leaf r) (T.strict (a .leaf (zS k 2) x) fun l=>.node none l .leaf) (even k)) n)
   (fun v l r _ _=>zAD (T.node x l r) (fun k _=>zV (T.strict (a r (zS k 2) x) fun r=>.node v l r) (T.strict (a l (zS k 2) x) fun l=>.node v l r) (even k)) n) t) f
def T.sets(t:T Value):Nat->List Value->T Value
 |_,[]=>t
 |i,v::l=>T.strict (T.set (zN i) t i (some v)) fun t=>T.sets t (zN i) l
inductive ABlk where
 |cells (c:T Value) (n:Nat) (elem:TypeId) (sz:Nat)
 |map (es:Array MapEntry) (clock:Nat)
structure Mem where
 next:Nat
 b:T ABlk
 low:Nat
structure Fr where
 n:Nat
 t:T Value
abbrev CU:Nat:=1208925819614629174706176
def simple:Value->Bool
 |.bool _ | .int .. | .string _ | .float .. | .complex .. | .pointer none | .slice none 0 0 | .map none | .nilFunc | .nilIface=>true
 |_=>false
def atomA:Value->Bool
 |.agg a=>a.toList.all simple
 |v=>simple v
def runPure{b:Type}(P:Program):Sem b->Option b
 |.pure a=>some a
 |.program k=>runPure P (k P)
 |_=>none
def constA(v:Value):Option Value:=iteB (atomA v) (some v) none
def Fr.get(f:Fr):Operand->Option Value
 |.tmp t=>f.t.get t
 |.const v=>constA v
 |.global _=>none
 |.func g=>some (.func (.func g) #[] #[])
def forceN{a:Type}(n:Nat)(k:Nat->a):a:=Nat.casesOn n (k 0) fun m=>k (zN m)
def force{b:Type}(v:Value)(k:Value->b):b :=
 match v with
 |.int a (.ofNat n)=>forceN n fun n=>k (.int a (.ofNat n))
 |.int a (.negSucc n)=>forceN n fun n=>k (.int a (.negSucc n))
 |v=>k v
def Fr.set1(n:Nat)(t:T Value)(d:Nat)(v:Value):Option Fr:=force v fun v=>T.strict (T.set (zN d) t d (some v)) fun t=>some ⟨n,t⟩
def Fr.putD(v:Value)(d:Nat):Fr->Option Fr
 |⟨n,t⟩=>iteB (zW d n) (Fr.set1 n t d v) none
def Fr.put(f:Fr)(d:Option Tmp)(v:Value):Option Fr:=zAI (some f) (fun d=>Fr.putD v d f) d
inductive Eff where
 |none
 |new (b:ABlk)
 |upd (i:Nat) (b:ABlk)
 |move (i:Nat) (b:ABlk)
def Mem.mk1(next:Nat)(b:T ABlk)(low:Nat):Mem:=forceN next fun next=>T.strict b fun b=>forceN low fun low=>⟨next,b,low⟩
def Mem.appE(next:Nat)(b:T ABlk)(low:Nat):Eff->Mem
 |.none=>⟨next,b,low⟩
 |.new x=>Mem.mk1 (zN next) (T.set (zN next) b next (some x)) low
 |.upd i x=>Mem.mk1 next (T.set (zN i) b i (some x)) (zAZ low i)
 |.move i x=>Mem.mk1 (zN next) (T.set (zN next) (T.set (zN i) b i none) next (some x)) (zAZ low i)
def Mem.app(m:Mem)(e:Eff):Mem:=match m with|⟨next,b,low⟩=>Mem.appE next b low e
def Mem.strict{a:Type}(m:Mem)(k:Mem->a):a:=match m with|⟨next,b,low⟩=>k ⟨next,b,low⟩
structure R where
 v:Value
 e:Eff
 foot:List Nat
def tOf(l:List Value):T Value:=T.sets .leaf 0 l
def rowBlk(elem sz:Nat)(l:List Value):ABlk:=.cells (tOf l) l.length elem sz
def isAggD:TypeDesc->Bool
 |.struct _ | .array _ _=>true
 |_=>false
def getCells(c:T Value)(off:Nat):Nat->Option (List Value)
 |0=>some []
 | n + 1=>match c.get off with
   |none=>none
   | some v=>match getCells c (off+1) n with
     |none=>none
     |some l=>some (v::l)
def loadA(P:Program)(m:Mem)(t:TypeId)(a:Addr):Option Value :=
 match a.spot,m.b.get a.block,P.underlying t,P.info? t with
 | none,some (.cells c n _ _),some d,some i =>
   bif isAggD d then bif zK (a.off+i.size) n then(match getCells c a.off i.size with|some l=>some (.agg l.toArray)|none=>none)else none
   else bif zW a.off n then c.get a.off else none
 |_,_,_,_=>none
def allGood:List Value->Bool
 |[]=>true
 |.agg _::_=>false
 |.tuple _::_=>false
 |_::l=>allGood l
def storeA(P:Program)(m:Mem)(t:TypeId)(a:Addr)(v:Value):Option Eff :=
 match a.spot,m.b.get a.block,P.info? t with
 | none,some (.cells c n e s),some i =>
   let l:=v.cells.toList
   bif zF l.length i.size&&allGood l&&zK (a.off+l.length) n && !(zF e CU)then some (.upd a.block (.cells (T.sets c a.off l) n e s))else none
 |_,_,_=>none
def takeFrom(l:List Value)(off n:Nat):Option (List Value) :=
 let r:=(l.drop off).take n
 bif zF r.length n then some r else none
def partA(P:Program)(t:TypeId)(a:List Value)(off:Nat):Option Value :=
 match P.underlying t,P.info? t with
 |some d,some i=>bif isAggD d then(match takeFrom a off i.size with|some l=>some (.agg l.toArray)|none=>none)else a[off]?
 |_,_=>none
def fillA(place:Nat->Option (Nat×Nat))(cells:List Value):List (Nat×Value)->Option (List Value)
 |[]=>some cells
 | (i,v)::rest =>
   match place i with
   |none=>none
   | some (b,a) =>
     let l:=v.cells.toList
     bif zF l.length a&&zK (b+a) cells.length&&allGood l then fillA place (cells.take b++l++cells.drop (b+a)) rest else none
def valsA(f:Fr):List Operand->Option (List Value)
 |[]=>some []
 | x :: l=>match f.get x with
   |none=>none
   | some v=>match valsA f l with
     |none=>none
     |some a=>some (v::a)
def partsA(f:Fr):List (Nat×Operand)->Option (List (Nat×Value))
 |[]=>some []
 | (i,x)::l=>match f.get x with
   |none=>none
   | some v=>match partsA f l with
     |none=>none
     |some a=>some ((i,v)::a)
def placesA(P:Program):List Field->Option (List (Nat×Nat))
 |[]=>some []
 | f :: l=>match P.info? f.type with
   |none=>none
   | some i=>match placesA P l with
     |none=>none
     |some r=>some ((f.offset,i.size)::r)
def repl(n:Nat)(z:List Value):List Value:=zAD [] (fun _ r=>z++r) n
def natIn(v:Option Value)(d a:Nat):Option Nat :=
 match v with
 |none=>some d
 |some (.int _ (.ofNat n))=>bif zK n a then some n else none
 |_=>none
def mapGet(key elem:TypeId)(es:Array MapEntry)(k:Value)(ok:Bool):Sem Value:=do
 Instr.checkKey es.isEmpty 10000 key k
 let (v,b) <-match <-Instr.findKey key k es.toList with
  |some (_,v)=>pure (v,true)
  |none=>pure (<-zeroValue elem,false)
 pure (if ok then .tuple #[v,.bool b]else v)
def mapSet(key:TypeId)(es:Array MapEntry)(a:Nat)(k v:Value):Sem (Array MapEntry×Nat):=do
 Instr.checkKey false 10000 key k
 match <-Instr.findKey key k es.toList with
 | some (i,_) =>
   let k <-Instr.keyThatStays (((es[i]?).map (·.key)).getD k) k
   pure (es.modify i fun e=>{ e with key:=k,val:=v },a)
 |none=>pure (es.push { key:=k,val:=v,born:=a },a+1)
def zeroA(i:TypeInfo):Option (List Value):=ob i.zero fun z=>iteB (atomA z&&zF z.cells.toList.length i.size) (some z.cells.toList) none
def szOf:ABlk->Option Nat
 |.cells _ _ _ z=>some z
 |.map _ _=>none
def sliceA2(a:Addr)(l h b cap:Nat):Option R :=
 forceN (zBD a.off (zBE l b)) fun o=>forceN (zBA h l) fun n=>some ⟨.slice (some ⟨a.block,o,none⟩) n cap,.none,[a.block]⟩
def sliceA1(a:Addr)(z b len:Nat)(d c:Option Value)(cap:Nat->Nat):Option R :=
 iteB (a.spot.isNone&&(zF z b||zF z 0)) (ob (natIn c len len) fun h=>ob (natIn d 0 h) fun l=>sliceA2 a l h b (cap l)) none
def capA(cap l:Nat):Nat:=iteB (zF cap CU) CU (zBA cap l)
def sliceA(P:Program)(m:Mem)(e d:Option Value):TypeDesc->Value->Option R
 |.string,.string s=>ob (natIn d s.size s.size) fun h=>ob (natIn e 0 h) fun l=>some ⟨.string ⟨((s.data.toList.drop l).take (h-l)).toArray⟩,.none,[]⟩
 |.slice c,.slice (some a) len f=>ob (P.info? c) fun i=>ob (ob (m.b.get a.block) szOf) fun z=>sliceA1 a z i.size len e d (capA f)
 |.slice c,.slice none 0 0=>ob (P.info? c) fun _=>ob (natIn d 0 0) fun _=>ob (natIn e 0 0) fun _=>some ⟨.slice none 0 0,.none,[]⟩
 |.array len c,.pointer (some a)=>ob (P.info? c) fun i=>ob (ob (m.b.get a.block) szOf) fun z=>iteB (zF z 0&&zK len 1000000) (sliceA1 a z i.size len e d (zBA len)) none
 |_,_=>none
def rowOf (m:Mem)(d:Nat):Value->Option (List Value×List Nat)
 |.slice none 0 0=>some ([],[])
 | .slice (some a) len _=>(match a.spot with
   |some _=>none
   | none=>bif zF len 0 then some ([],[])else match m.b.get a.block with
     | some (.cells c n _ _)=>bif zK (a.off+len*d) n then(match getCells c a.off (len*d)with
        |some l=>some (l,[a.block])
        |none=>none)else none
     |_=>none)
 |_=>none
def lenA:Value->Nat
 |.slice _ n _=>n
 |_=>0
def appRes(m:Mem)(k:Nat)(e:Eff)(ft:List Nat):Option R:=forceN k fun k=>some ⟨.slice (some ⟨m.next,0,none⟩) k CU,e,ft⟩
def appIn(a:Addr)(c:T Value)(n e z sLen k sCap:Nat)(new:List Value)(ft:List Nat):Option R :=
 iteB (zK (a.off+sLen*z+new.length) n&&zW sCap 1000000000) (forceN k fun k=>some ⟨.slice (some a) k sCap,.upd a.block (.cells (T.sets c (a.off+sLen*z) new) n e z),ft⟩) none
def appOut(m:Mem)(a:Addr)(c:T Value)(e z sLen k sCap:Nat)(new:List Value)(ft:List Nat):Option R :=
 iteB (zF sCap CU&&zF a.off 0) (appRes m k (.move a.block (.cells (T.sets c (sLen*z) new) (sLen*z+new.length) e z)) ft)
  (ob (getCells c a.off (sLen*z)) fun b=>appRes m k (iteB (zF sCap CU) (.move a.block (.cells (tOf (b++new)) (b.length+new.length) e z)) (.new (.cells (tOf (b++new)) (b.length+new.length) e z))) ft)
def appSome(m:Mem)(i:TypeInfo)(elem:TypeId)(a:Addr)(sLen k sCap:Nat)(new:List Value)(b:List Nat):ABlk->Option R
 | .cells c n e z=>iteB (zF e elem&&zF z i.size && !(zF z 0)&&zK (a.off+sLen*z) n&&a.spot.isNone && !(zF e CU))
    (iteB (zK k sCap && !(zF sCap CU)) (appIn a c n e z sLen k sCap new (a.block::b)) (appOut m a c e z sLen k sCap new (a.block::b))) none
 |_=>none
def appendA2(m:Mem)(i:TypeInfo)(elem:TypeId)(d:Nat)(new:List Value)(f:List Nat):Value->Option R
 |.slice none 0 0=>appRes m d (.new (.cells (tOf new) new.length elem i.size)) f
 |.slice (some a) c e=>ob (m.b.get a.block) fun b=>appSome m i elem a c (c+d) e new f b
 |_=>none
def appNone(ft:List Nat):Value->Option R
 |.slice a n c=>some ⟨.slice a n c,.none,ft⟩
 |_=>none
def appendA1(m:Mem)(elem:TypeId)(s x:Value)(i:TypeInfo)(q:List Value×List Nat):Option R :=
 iteB (zK ((lenA s+lenA x)*i.bytes) 100000000&&zK (lenA s+lenA x) 100000000&&zK i.bytes 100000000&&(zeroA i).isSome&&allGood q.1)
  (iteB (zF (lenA x) 0) (appNone q.2 s) (appendA2 m i elem (lenA x) q.1 q.2 s)) none
def appendA(P:Program)(m:Mem)(elem:TypeId)(s x:Value):Option R :=
 ob (P.info? elem) fun i=>ob (rowOf m i.size x) fun q=>appendA1 m elem s x i q
def pureA(P:Program)(f:Fr)(o:Oper):Option R :=
 match valsA f o.op.operands.toList with
 |none=>none
 | some a=>bif a.all atomA then
    match runPure P (execOp (fun x=>(f.get x).getD undef) o)with
    |some (.value v)=>bif atomA v then some ⟨v,.none,[]⟩else none
    |_=>none
   else none
def atomR:Value->Bool
 |.tuple a=>a.toList.all atomA
 |v=>atomA v
def val(v:Value):Option R:=some ⟨v,.none,[]⟩
def evPick(f:Fr)(a b:Operand):Value->Option R
 |.bool t=>ob (f.get (iteB t a b)) val
 |_=>none
def evAlloc(t:TypeId)(m:Mem)(i:TypeInfo):Option R :=
 ob (zeroA i) fun z=>some ⟨.pointer (some ⟨m.next,0,none⟩),.new (rowBlk t 0 z),[]⟩
def evBox(t:TypeId)(m:Mem)(v:Value):Option R :=
 iteB (allGood v.cells.toList) (some ⟨.pointer (some ⟨m.next,0,none⟩),.new (rowBlk t 0 v.cells.toList),[]⟩) none
def evBuild1(P:Program)(z:List Value)(c:List (Nat×Value)):TypeDesc->Option R
 |.struct a=>ob (placesA P a.toList) fun d=>ob (fillA (fun k=>d[k]?) z c) fun l=>val (.agg l.toArray)
 |.array _ b=>ob (P.info? b) fun j=>ob (fillA (fun k=>some (k*j.size,j.size)) z c) fun l=>val (.agg l.toArray)
 |_=>none
def evBuild(P:Program)(t:TypeId)(a:List (Nat×Value)):Option R :=
 ob (P.info? t) fun i=>ob (zeroA i) fun z=>ob (P.underlying t) fun d=>evBuild1 P z a d
def evBuildSlice1(m:Mem)(len:Nat)(elem:TypeId)(a:List (Nat×Value))(i:TypeInfo)(z:List Value):Option R :=
 iteB (zK (len*i.size) 10000&&zK len 10000) (ob (fillA (fun k=>some (k*i.size,i.size)) (repl len z) a) fun l=>some ⟨.slice (some ⟨m.next,0,none⟩) len len,.new (rowBlk elem i.size l),[]⟩) none
def evBuildSlice(P:Program)(m:Mem)(len:Nat)(b:List (Nat×Value)):TypeDesc->Option R
 |.slice a=>ob (P.info? a) fun i=>ob (zeroA i) fun z=>evBuildSlice1 m len a b i z
 |_=>none
def evLoad(P:Program)(t:TypeId)(m:Mem):Value->Option R
 |.pointer (some a)=>ob (loadA P m t a) fun v=>some ⟨v,.none,[a.block]⟩
 |_=>none
def evStore(P:Program)(t:TypeId)(m:Mem)(v:Value):Value->Option R
 |.pointer (some a)=>ob (storeA P m t a v) fun e=>some ⟨undef,e,[a.block]⟩
 |_=>none
def evNilCheck:Value->Option R
 |.pointer (some a)=>val (.pointer (some a))
 |_=>none
def ptrAt(b o:Nat):Option R:=forceN o fun o=>val (.pointer (some ⟨b,o,none⟩))
def addrAt(a:Addr)(o:Nat):Option R:=match a with
 |⟨b,c,none⟩=>ptrAt b (zBD c o)
 |_=>none
def evField1(P:Program)(a:Addr)(b:Field):Option R :=
 ob (P.info? b.type) fun i=>iteB (zF i.size 0) none (addrAt a b.offset)
def evFieldAddr1(P:Program)(a:Addr)(k:Nat):TypeDesc->Option R
 |.struct b=>ob b[k]? fun c=>evField1 P a c
 |_=>none
def evFieldAddr(P:Program)(s:TypeId)(k:Nat):Value->Option R
 |.pointer (some a)=>ob (P.underlying s) fun d=>evFieldAddr1 P a k d
 |_=>none
def evFieldOf1(P:Program)(c:Array Value)(k:Nat):TypeDesc->Option R
 |.struct a=>ob a[k]? fun b=>ob (partA P b.type c.toList b.offset) val
 |_=>none
def evFieldOf(P:Program)(t:TypeId)(k:Nat):Value->Option R
 |.agg a=>ob (P.underlying t) fun d=>evFieldOf1 P a k d
 |_=>none
def evIndex2(P:Program)(elem:TypeId)(a:Addr)(i len:Nat):Option R :=
 iteB (zW i len) (ob (P.info? elem) fun b=>addrAt a (zBE i b.size)) none
def evIndex1(P:Program)(x:Value)(i:Nat):TypeDesc->Option R
 | .slice b=>(match x with
   |.slice (some a) len _=>evIndex2 P b a i len
   |_=>none)
 | .array len b=>(match x with
   |.pointer (some a)=>evIndex2 P b a i len
   |_=>none)
 |_=>none
def evIndexAddr(P:Program)(t:TypeId)(x:Value):Value->Option R
 |.int _ (.ofNat i)=>ob (P.underlying t) fun d=>evIndex1 P x i d
 |_=>none
def evExtract(k:Nat):Value->Option R
 |.tuple a=>ob a[k]? val
 |_=>none
def evMakeFunc(a b:List Value):Fn->Option R
 |.func g=>val (.func (.func g) a.toArray b.toArray)
 |_=>none
def evMakeSlice2(m:Mem)(elem:TypeId)(l c:Nat)(i:TypeInfo)(z:List Value):Option R :=
 iteB (zK l c&&zK (i.bytes*c) 1000000&&zK c 1000000) (some ⟨.slice (some ⟨m.next,0,none⟩) l c,.new (rowBlk elem i.size (repl c z)),[]⟩) none
def evMakeSlice1(P:Program)(m:Mem)(l c:Nat):TypeDesc->Option R
 |.slice a=>ob (P.info? a) fun i=>ob (zeroA i) fun z=>evMakeSlice2 m a l c i z
 |_=>none
def evMakeSlice(P:Program)(t:TypeId)(m:Mem):Value->Value->Option R
 |.int _ (.ofNat l),.int _ (.ofNat c)=>ob (P.underlying t) fun d=>evMakeSlice1 P m l c d
 |_,_=>none
def evLookup1(P:Program)(key elem:TypeId)(k:Value)(ok:Bool)(r:Nat):ABlk->Option R
 |.map a _=>ob (runPure P (mapGet key elem a k ok)) fun v=>iteB (atomR v) (some ⟨v,.none,[r]⟩) none
 |_=>none
def evLookup(P:Program)(m:Mem)(k:Value)(ok:Bool):TypeDesc->Value->Option R
 |.map c a,.map (some r)=>iteB (atomA k) (ob (m.b.get r) fun b=>evLookup1 P c a k ok r b) none
 |_,_=>none
def evMapSet1(P:Program)(key:TypeId)(k v:Value)(r:Nat):ABlk->Option R
 |.map b a=>ob (runPure P (mapSet key b a k v)) fun q=>some ⟨undef,.upd r (.map q.1 q.2),[r]⟩
 |_=>none
def evMapSet(P:Program)(m:Mem)(k v:Value):TypeDesc->Value->Option R
 |.map a _,.map (some r)=>iteB (atomA k&&simple v) (ob (m.b.get r) fun b=>evMapSet1 P a k v r b) none
 |_,_=>none
def evLen(P:Program)(f:Fr)(o:Oper):List Value->List TypeId->Option R
 | [.slice _ n _],[t]=>ob (P.underlying t) fun
   |.slice _=>forceN n fun n=>val (.int .i64 (.ofNat n))
   |_=>none
 |_,_=>pureA P f o
def evAppend(P:Program)(m:Mem):List Value->List TypeId->Option R
 | [s,x],[t,u]=>iteB (zF t u) (ob (P.underlying t) fun
   |.slice a=>appendA P m a s x
   |_=>none) none
 |_,_=>none
def evCallB(P:Program)(f:Fr)(o:Oper)(m:Mem)(c:Call):Callee->Option R
 |.builtin .len=>ob (valsA f c.args.toList) fun a=>evLen P f o a c.argTypes.toList
 |.builtin .append=>ob (valsA f c.args.toList) fun a=>evAppend P m a c.argTypes.toList
 |.builtin .max=>pureA P f o
 |.builtin .min=>pureA P f o
 |_=>none
def evSlice(P:Program)(t:TypeId)(m:Mem)(x:Value)(b a:List Value):Option R:=ob (P.underlying t) fun d=>sliceA P m b.head? a.head? d x
def evOp(P:Program)(f:Fr)(o:Oper)(m:Mem):Option R :=
 match o.op with
 |.move x=>ob (f.get x) val
 |.assign x=>ob (f.get x) val
 |.pick c a b=>ob (f.get c) (evPick f a b)
 |.alloc t=>ob (P.info? t) (evAlloc t m)
 |.box t x=>ob (f.get x) (evBox t m)
 |.build t parts=>ob (partsA f parts.toList) (evBuild P t)
 |.buildSlice t len parts=>ob (partsA f parts.toList) fun i=>ob (P.underlying t) (evBuildSlice P m len i)
 |.load t a=>ob (f.get a) (evLoad P t m)
 |.store t a x=>ob (f.get x) fun v=>ob (f.get a) (evStore P t m v)
 |.nilCheck x=>ob (f.get x) evNilCheck
 |.fieldAddr s x k=>ob (f.get x) (evFieldAddr P s k)
 |.field t x k=>ob (f.get x) (evFieldOf P t k)
 |.indexAddr t x k=>ob (f.get x) fun x=>ob (f.get k) (evIndexAddr P t x)
 |.extract x k=>ob (f.get x) (evExtract k)
 |.makeFunc fn first e=>ob (valsA f first.toList) fun a=>ob (valsA f e.toList) fun b=>evMakeFunc a b fn
 |.makeSlice t l c=>ob (f.get l) fun l=>ob (f.get c) (evMakeSlice P t m l)
 |.slice t x g h none=>ob (f.get x) fun x=>ob (valsA f g.toList) fun g=>ob (valsA f h.toList) (evSlice P t m x g)
 |.makeMap _ none=>some ⟨.map (some m.next),.new (.map #[] 0),[]⟩
 |.lookup t x k ok=>ob (f.get k) fun k=>ob (P.underlying t) fun d=>ob (f.get x) (evLookup P m k ok d)
 |.mapUpdate t x k v=>ob (f.get k) fun k=>ob (f.get v) fun v=>ob (P.underlying t) fun d=>ob (f.get x) (evMapSet P m k v d)
 |.call c=>evCallB P f o m c c.callee
 |.binOp ..=>pureA P f o
 |.unOp ..=>pureA P f o
 |.convert ..=>pureA P f o
 |.index ..=>pureA P f o
 |_=>none
inductive Task where
 |code (c:Code) (f:Fr) (m:Mem)
 |call (g:FuncId) (args:List Value) (m:Mem)
inductive Out where
 |code (e:Exit) (f:Fr) (m:Mem)
 |call (v:Value) (m:Mem)
structure BlkL where
 i:Nat
 e:TypeId
 z:Nat
 l:List Value
structure Fact where
 g:FuncId
 args:List Value
 next0:Nat
 pre:List BlkL
 v:Value
 next1:Nat
 post:List BlkL
 low:Nat
structure Chunk where
 hi:Nat
 l:List Fact
structure Hooks where
 catch_:Option Nat
 indexByte:Option Nat
 symm:Option Nat
 symB:List (List (Int×Int))->Bool
 facts:List Chunk
 links:Option Nat
def eqK(a b:IntKind):Bool:=decide (a=b)
def eqInt:Int->Int->Bool
 |.ofNat a,.ofNat b=>zF a b
 |.negSucc a,.negSucc b=>zF a b
 |_,_=>false
def eqBytes:List UInt8->List UInt8->Bool
 |[],[]=>true
 |x::l,y::k=>zF x.toNat y.toNat&&eqBytes l k
 |_,_=>false
def eqAddr(a b:Addr):Bool:=zF a.block b.block&&zF a.off b.off&&a.spot.isNone&&b.spot.isNone
def eq1:Value->Value->Bool
 |.bool a,.bool b=>a==b
 |.int j a,.int k b=>eqK j k&&eqInt a b
 |.string a,.string b=>eqBytes a.data.toList b.data.toList
 |.pointer none,.pointer none=>true
 |.pointer (some a),.pointer (some b)=>eqAddr a b
 |.slice none m c,.slice none n d=>zF m n&&zF c d
 |.slice (some a) m c,.slice (some b) n d=>eqAddr a b&&zF m n&&zF c d
 |.map (some a),.map (some b)=>zF a b
 |.map none,.map none=>true
 |.nilFunc,.nilFunc=>true
 |.nilIface,.nilIface=>true
 |_,_=>false
def eqL1:List Value->List Value->Bool
 |[],[]=>true
 |x::l,y::k=>eq1 x y&&eqL1 l k
 |_,_=>false
def eq2:Value->Value->Bool
 |.agg a,.agg b=>eqL1 a.toList b.toList
 |.func (.func g) a c,.func (.func h) b d=>zF g h&&eqL1 a.toList b.toList&&eqL1 c.toList d.toList
 |x,y=>eq1 x y
def eqL2:List Value->List Value->Bool
 |[],[]=>true
 |x::l,y::k=>eq2 x y&&eqL2 l k
 |_,_=>false
def eqV:Value->Value->Bool
 |.tuple a,.tuple b=>eqL2 a.toList b.toList
 |x,y=>eq2 x y
def cellsAre(c:T Value):Nat->List Value->Bool
 |_,[]=>true
 | j,v::l=>(match c.get j with
   |some u=>eq2 u v
   |none=>false)&&cellsAre c (zN j) l
def blkIs(m:Mem)(b:BlkL):Bool:=match m.b.get b.i with
 |some (.cells c n e z)=>zF n b.l.length&&zF e b.e&&zF z b.z&&zW b.l.length 1000000&&cellsAre c 0 b.l
 |_=>false
def BlkL.blk(b:BlkL):ABlk:=.cells (tOf b.l) b.l.length b.e b.z
def blksT(t:T ABlk):List BlkL->T ABlk
 |[]=>t
 |b::l=>T.strict (T.set (zN b.i) t b.i (some b.blk)) fun t=>blksT t l
def dropT(t:T ABlk)(low:Nat):List BlkL->T ABlk
 |[]=>t
 |b::l=>iteB (zK low b.i) (T.strict (T.set (zN b.i) t b.i none) fun t=>dropT t low l) (dropT t low l)
def Fact.mem(f:Fact):Mem:=⟨f.next0,blksT .leaf f.pre,f.next0⟩
def Fact.fits(f:Fact)(g:FuncId)(args:List Value)(m:Mem):Bool :=
 zF f.g g&&zF f.next0 m.next&&eqL2 f.args args&&f.pre.all (blkIs m)
def Fact.out(f:Fact)(m:Mem):Out:=.call f.v ⟨f.next1,blksT (dropT m.b f.low f.pre) f.post,f.low⟩
def findIn(g:FuncId)(args:List Value)(m:Mem)(l:List Fact):Option Out:=zAQ none (fun f _ a=>iteB (f.fits g args m) (some (f.out m)) a) l
def findFact(g:FuncId)(args:List Value)(m:Mem)(a:List Chunk):Option Out:=zAQ none (fun c _ b=>iteB (zW c.hi m.next) b (findIn g args m c.l)) a
def inI64:Int->Bool
 |.ofNat n=>zK n 9223372036854775807
 |.negSucc n=>zK n 9223372036854775807
def pairsOf:List Value->Option (List (Int×Int))
 |[]=>some []
 | .int .i64 a :: .int .i64 b::l=>(match pairsOf l with
   |some r=>bif inI64 a&&inI64 b then some ((a,b)::r)else none
   |none=>none)
 |_=>none
def linksOf(m:Mem)(v:Value):Option (List (Int×Int)) :=
 match rowOf m 2 v with
 |some (l,_)=>pairsOf l
 |none=>none
def mapO{a b:Type}(f:a->Option b):List a->Option (List b)
 |[]=>some []
 | x :: l=>match f x with
   |none=>none
   | some y=>match mapO f l with
     |none=>none
     |some r=>some (y::r)
def portsOf(m:Mem)(v:Value):Option (List (List (Int×Int))) :=
 match rowOf m 1 v with
 |some (l,_)=>mapO (linksOf m) l
 |none=>none
def findByte(c:UInt8):List UInt8->Nat->Option Nat
 |[],_=>none
 |x::l,i=>bif zF x.toNat c.toNat then some i else findByte c l (i+1)
structure R2 where
 v:Value
 m:Mem
 foot:Option (List Nat)
 mods:Option (List Nat)
def Eff.mods:Eff->List Nat
 |.upd i _=>[i]
 |.move i _=>[i]
 |_=>[]
section
variable (P:Program) (self:Task->Option Out)
structure FM where
 f:Fr
 m:Mem
def backM(low:Nat)(m:Mem):Mem:=match m with|⟨next,b,a⟩=>Mem.mk1 next b (zAZ low a)
def afterCall(m:Mem):Out->Option R2
 |.call v a=>some ⟨v,backM m.low a,none,iteB (zK m.next a.low) (some []) none⟩
 |_=>none
def evCall(m:Mem)(b:List Value):Value->Option R2
 |.func (.func g) first a=>ob (self (.call g (first.toList++b++a.toList) m)) (afterCall m)
 |_=>none
def afterOp(m:Mem)(r:R):Option R2:=some ⟨r.v,m.app r.e,some r.foot,some r.e.mods⟩
def evOne1(f:Fr)(o:Oper)(m:Mem):Op->Option R2
 |.call { callee:=.value fx,args,.. }=>ob (f.get fx) fun g=>ob (valsA f args.toList) fun a=>evCall self m a g
 |_=>ob (evOp P f o m) (afterOp m)
def evOne(f:Fr)(o:Oper)(m:Mem):Option R2:=evOne1 P self f o m o.op
def boolIs(a:Bool):Value->Bool
 |.bool b=>b==a
 |_=>false
def wantedD(f:Fr)(a:Bool):Option Tmp->Option Bool
 |none=>some false
 |some d=>ob (f.t.get d) fun v=>some (boolIs a v)
def wantedG(ops:List Oper)(f:Fr)(g:Nat×Bool):Option Bool :=
 match ops[g.1]? with
 |none=>some false
 |some a=>wantedD f g.2 a.dst
def wantedA(ops:List Oper)(f:Fr)(o:Oper):Option Bool:=zAI (some true) (wantedG ops f) o.guard
def putNext(m:Mem)(k:Fr->Mem->Option FM)(x:Option Fr):Option FM:=ob x fun f=>Mem.strict m (k f)
def evOps1(o:Oper)(k:Fr->Mem->Option FM)(f:Fr)(m:Mem)(b:Bool):Option FM :=
 zV (putNext m k (f.put o.dst undef)) (ob (evOne P self f o m) fun r=>putNext r.m k (f.put o.dst r.v)) b
def evOps(ops:List Oper)(l:List Oper):Fr->Mem->Option FM :=
 zAQ (fun f m=>some ⟨f,m⟩) (fun o _ k f m=>ob (wantedA ops f o) (evOps1 P self o k f m)) l
structure Rec where
 i:Nat
 foot:Option (List Nat)
 mods:Option (List Nat)
 lo:Nat
 hi:Nat
def before1(a b:Rec):Bool :=
 match b.mods with
 |none=>false
 | some c=>match a.foot with
   |none=>c.isEmpty&&zF b.lo b.hi
   |some d=>d.all fun x=>!(c.elem x) && !(zK b.lo x&&zW x b.hi)
def apart2(a b:Rec):Bool :=
 before1 a b&&before1 b a&&(match a.mods,b.mods with|some x,some y=>x.all fun i=>!(y.elem i)|_,_=>false)
def ancOf(o:Oper)(a:List Nat):Nat :=
 o.after.toList.foldl (fun s e=>bif Region.binds .any e then s|||2^e.on|||a.getD (a.length-1-e.on) 0 else s) 0
def ancs:List Oper->List Nat->List Nat
 |[],a=>a
 |o::l,a=>ancs l (ancOf o a::a)
def tmpsOf(ops:List Oper)(o:Oper):List Nat :=
 (o.op.operands.toList.filterMap fun | .tmp t=>some t|_=>none)++(match o.guard with|none=>[]|some (j,_)=>(match ops[j]? with|some a=>a.dst.toList|none=>[]))++o.dst.toList
def dstApart(ops:List Oper)(a b:Oper):Bool :=
 (match a.dst with|none=>true|some d=>!((tmpsOf ops b).elem d))&&(match b.dst with|none=>true|some d=>!((tmpsOf ops a).elem d))
def slotsOk(ops:List Oper)(an:List Nat):Bool :=
 (ops.zipIdx.all fun(o,i)=>(o.after.toList.all fun e=>!(Region.binds .any e)||zW e.on i) &&
   ops.zipIdx.all fun(a,j)=>zK i j||(zAY (an.getD i 0) j)||dstApart ops o a)
def idle(r:R2)(b a:Nat):Bool:=match r.foot,r.mods with
 |some [],some []=>zF b a
 |_,_=>false
def evDraw3(o:Oper)(i:Nat)(a:Nat)(b:List Rec)(k:List Rec->Fr->Mem->Option FM)(f:Fr)(m:Mem)(r:R2):Option FM :=
 iteB (b.all fun q=>zAY a q.i||apart2 ⟨i,r.foot,r.mods,m.next,r.m.next⟩ q)
  (putNext r.m (k (⟨i,r.foot,r.mods,m.next,r.m.next⟩::b)) (f.put o.dst r.v)) none
def evDraw2(o:Oper)(i:Nat)(a:Nat)(b:List Rec)(k:List Rec->Fr->Mem->Option FM)(f:Fr)(m:Mem)(r:R2):Option FM :=
 iteB (idle r m.next r.m.next) (putNext r.m (k b) (f.put o.dst r.v)) (evDraw3 o i a b k f m r)
def evDraw1(o:Oper)(i:Nat)(a:Nat)(c:List Rec)(k:List Rec->Fr->Mem->Option FM)(f:Fr)(m:Mem)(b:Bool):Option FM :=
 zV (putNext m (k c) (f.put o.dst undef)) (ob (evOne P self f o m) (evDraw2 o i a c k f m)) b
def evDraw(ops:List Oper):List Oper->Nat->List Nat->List Rec->Fr->Mem->Option FM
 |[],_,_,_,f,m=>some ⟨f,m⟩
 |o::rest,i,a,b,f,m=>ob (wantedA ops f o) (evDraw1 P self o i (a.headD 0) b (evDraw ops rest (zN i) a.tail) f m)
def again(k:Fr->Mem->Option Out):Out->Option Out
 |.code .normal f m=>k f m
 |r=>some r
def evLoop(c:Code)(n:Nat):Fr->Mem->Option Out :=
 zAD (fun _ _=>none) (fun _ k f m=>ob (self (.code c f m)) (again k)) n
def resA(m:Mem)(f:Fr):List ResultVar->Option (List Value)
 |[]=>some []
 | .tmp t::l=>(match f.t.get t,resA m f l with
   |some v,some r=>some (v::r)
   |_,_=>none)
 | .cell a t::l=>match f.t.get a,resA m f l with
   | some (.pointer (some a)),some r=>(match loadA P m t a with
     |some v=>some (v::r)
     |none=>none)
   |_,_=>none
def enterM(m:Mem):Mem:=⟨m.next,m.b,m.next⟩
def leave(a m:Mem)(v:Value):Out :=
 iteB (zK a.next m.low&&atomR v) (.call v ⟨m.next,a.b,m.low⟩) (.call v m)
def oneOrTuple:List Value->Value
 |[v]=>v
 |vs=>.tuple vs.toArray
def leaveFn(a:Mem)(b:List ResultVar)(f:Fr)(m:Mem):Option Out:=ob (resA P m f b) fun c=>some (leave a m (oneOrTuple c))
def endFn(a:Mem)(b:List ResultVar):Out->Option Out
 |.code .normal f m=>leaveFn P a b f m
 |.code .ret f m=>leaveFn P a b f m
 |_=>none
def enterBody(a:List ResultVar)(args:List Value)(m:Mem)(n:Nat)(c:Code):Option Out :=
 ob (forceN (Nat.max args.length n) fun n=>T.strict (tOf args) fun t=>self (.code c ⟨n,t⟩ (enterM m))) (endFn P m a)
def enterFn(args:List Value)(m:Mem)(fn:Func):Option Out:=ob fn.body fun c=>enterBody P self fn.results.toList args m fn.ntmps c
def afterCatch:Out->Option Out
 |.call _ m=>some (.call (.tuple #[.int .i64 0,.int .i64 0]) m)
 |_=>none
def evCatch(m:Mem):List Value->Option Out
 |[.func (.func h) first a]=>ob (self (.call h (first.toList++a.toList) m)) afterCatch
 |_=>none
def evIndexByte(m:Mem):List Value->Option Out
 | [.string s,.int .u8 (.ofNat c)]=>(match findByte c.toUInt8 s.data.toList 0 with
   |some i=>forceN i fun i=>some (.call (.int .i64 (.ofNat i)) (enterM m))
   |none=>some (.call (.int .i64 (.negSucc 0)) (enterM m)))
 |_=>none
def evSymm(symB:List (List (Int×Int))->Bool)(m:Mem):List Value->Option Out
 |[v]=>ob (portsOf m v) fun a=>iteB (zK a.length 1000) (some (.call (.bool (symB a)) (enterM m))) none
 |_=>none
def hit(g:Nat)(h:Option Nat):Bool:=match h with
 |some k=>zF g k
 |none=>false
def callStep1(H:Hooks)(g:FuncId)(args:List Value)(m:Mem):Option Out :=
 iteB (hit g H.catch_) (evCatch self m args)
  (iteB (hit g H.indexByte) (evIndexByte m args)
    (iteB (hit g H.symm) (evSymm H.symB m args) (ob P.funcs[g]? (enterFn P self args m))))
def callStep(H:Hooks)(g:FuncId)(args:List Value)(m:Mem):Option Out :=
 zAI (callStep1 P self H g args m) some (findFact g args m H.facts)
def thenCode(b:Code):Out->Option Out
 |.code .normal f m=>self (.code b f m)
 |r=>some r
def condStep(a b:Code)(f:Fr)(m:Mem):Value->Option Out
 |.bool t=>zV (self (.code b f m)) (self (.code a f m)) t
 |_=>none
def endBlock(id:Nat):Out->Option Out
 |.code (.exit i) f m=>iteB (zF i id) (some (.code .normal f m)) (some (.code (.exit i) f m))
 |r=>some r
def endRegion(x:FM):Option Out:=some (.code .normal x.f x.m)
def drawStep(ops:List Oper)(an:List Nat)(f:Fr)(m:Mem):Option Out :=
 iteB (slotsOk ops an) (ob (evDraw P self ops ops 0 an [] f m) endRegion) none
def regionStep(ops:List Oper)(d:Bool)(f:Fr)(m:Mem):Option Out :=
 zV (ob (evOps P self ops ops f m) endRegion) (drawStep P self ops (ancs ops []).reverse f m) d
def noRF:Code->Bool
 |.seq a b=>noRF a&&noRF b
 |.cond _ a b=>noRF a&&noRF b
 |.block _ b=>noRF b
 |.loop b=>noRF b
 |.scope b=>noRF b
 |.rangeFunc _ _ _ _=>false
 |_=>true
def boxPorts(m:Mem)(A:Addr):Option Value:=match A.spot,m.b.get A.block with
 |none,some (.cells c n _ _)=>bif zW (A.off+1) n then c.get (A.off+1)else none
 |_,_=>none
structure GV where
 v:Value
 us:List Value
 ps:List (List (Int×Int))
def graphOf(m:Mem)(A:Addr):Option GV :=
 ob (boxPorts m A) fun v=>ob (rowOf m 1 v) fun q=>ob (mapO (linksOf m) q.1) fun a=>some ⟨v,q.1,a⟩
def eqLk:List (Int×Int)->List (Int×Int)->Bool
 |[],[]=>true
 |x::l,y::k=>eqInt x.1 y.1&&eqInt x.2 y.2&&eqLk l k
 |_,_=>false
def eqPs:List (List (Int×Int))->List (List (Int×Int))->Bool
 |[],[]=>true
 |x::l,y::k=>eqLk x y&&eqPs l k
 |_,_=>false
def sameG(A:Addr)(g:GV)(m:Mem):Bool:=match graphOf m A with
 |some h=>eq1 h.v g.v&&eqL1 h.us g.us&&eqPs h.ps g.ps
 |none=>false
structure El where
 v:Nat
 a:Int
 b:Int
def flatAt(v:Nat):List (List (Int×Int))->List El
 |[]=>[]
 |ls::l=>(ls.map fun x=>⟨v,x.1,x.2⟩)++flatAt (v+1) l
def El.v0(x:El):Value:=.int .i64 (.ofNat x.v)
def El.v1(x:El):Value:=.agg #[.int .i64 x.a,.int .i64 x.b]
def bodyRound(a:Code):Out->Option Out
 |.code .normal f m=>self (.code a f m)
 |_=>none
def evRound(f:Fr)(p q:Nat)(a b:Code)(x:El)(m:Mem):Option Out :=
 ob (forceN x.v fun v=>Fr.putD (.int .i64 (.ofNat v)) p f) fun f1=>ob (Fr.putD x.v1 q f1) fun f2=>ob (self (.code a f2 m)) (bodyRound self b)
def afterRound(f:Fr)(k:Mem->Option Out):Out->Option Out
 |.code .normal _ m=>k m
 |.code .ret _ m=>some (.code .ret f m)
 |.code (.exit id) _ m=>some (.code (.exit id) f m)
 |_=>none
def evRounds(f:Fr)(p q:Nat)(a b:Code)(ok:Mem->Bool)(l:List El):Mem->Option Out :=
 zAQ (fun m=>iteB (ok m) (some (.code .normal f m)) none) (fun x _ c m=>iteB (ok m) (ob (evRound self f p q a b x m) (afterRound f c)) none) l
def evRange(d:Option Nat)(f:Fr)(m:Mem)(e:List Nat)(a c:Code):Value->Option Out
 | .func (.func g) first b=>(match e,first.toList,b.toList with
   | [p,q],[],[.pointer (some A)]=>iteB (hit g d&&noRF a&&noRF c)
       (ob (graphOf m A) fun gv=>evRounds self f p q a c (sameG A gv) (flatAt 0 gv.ps) m) none
   |_,_,_=>none)
 |_=>none
def codeStep(j:Option Nat)(f:Fr)(m:Mem):Code->Option Out
 |.skip=>some (.code .normal f m)
 |.seq a b=>ob (self (.code a f m)) (thenCode self b)
 |.cond c a b=>ob (f.get c) (condStep self a b f m)
 |.block id b=>ob (self (.code b f m)) (endBlock id)
 |.loop b=>evLoop self b 1000000 f m
 |.exit id=>some (.code (.exit id) f m)
 |.ret=>some (.code .ret f m)
 |.region _ i d=>regionStep P self i.toList d f m
 |.rangeFunc g k e h=>ob (f.get g) (evRange self j f m k.toList e h)
 |_=>none
def evStep(H:Hooks):Task->Option Out
 |.code c f m=>codeStep P self H.links f m c
 |.call g a m=>callStep P self H g a m
def ev(H:Hooks)(n:Nat):Task->Option Out:=zAD (fun _=>none) (fun _ a=>evStep P a H) n
end
def Fact.check(P:Program)(H:Hooks)(f:Fact):Bool:=match ev P H 3000 (.call f.g f.args f.mem)with
 |some (.call v m)=>eqV v f.v&&zF m.next f.next1&&zK f.low m.low&&f.post.all (fun b=>zK f.low b.i&&blkIs m b)
 |_=>false
end
end Ev
end
section
namespace Ev
section tables
variable {α:Type}
theorem yg{b:Type}{x:Option α}{k:α->Option b}{r:b}(h:ob x k=some r):∃a,x=some a/\k a=some r:=by
 cases x with
 |none=>cases h
 |some a=>exact⟨a,rfl,h⟩
theorem ybh{b:Bool}{t e:α}:iteB b t e=if b then t else e:=by cases b<;>rfl
theorem ybi{b:Bool}{t:Option α}{r:α}(h:iteB b t none=some r):b=true/\t=some r:=by
 cases b with
 |true=>exact⟨rfl,h⟩
 |false=>cases h
theorem ybo(n:Nat)(k:Nat->α):forceN n k=k n:=by cases n<;>rfl
theorem T.strict_eq{a:Type}(t:T α)(k:T α->a):T.strict t k=k t:=by cases t<;>rfl
theorem force_eq(v:Value)(k:Value->α):force v k=k v:=by
 unfold force;split<;>first|rfl|rw[ybo]
theorem T.get_leaf(n:Nat):(T.leaf:T α).get n=none:=rfl
theorem T.get_zero(v:Option α)(l r:T α):(T.node v l r).get 0=v:=rfl
theorem T.get_succ(v:Option α)(l r:T α)(k:Nat):(T.node v l r).get (k+1)=if even k then l.get (k/2)else r.get (k/2):=by
 show @Bool.rec (fun _=>Option α) (r.get (zS k 2)) (l.get (zS k 2)) (even k)=_;cases even k<;>rfl
theorem T.set_zero(t:T α)(n:Nat)(x:Option α):T.set 0 t n x = .leaf:=rfl
theorem T.set_leaf0(f:Nat)(x:Option α):T.set (f+1) .leaf 0 x = .node x .leaf .leaf:=rfl
theorem T.set_node0(f:Nat)(v:Option α)(l r:T α)(x:Option α):T.set (f+1) (.node v l r) 0 x = .node x l r:=rfl
theorem T.set_leaf(f k:Nat)(x:Option α):T.set (f+1) .leaf (k+1) x=if even k then .node none (T.set f .leaf (k/2) x) .leaf else .node none .leaf (T.set f .leaf (k/2) x):=by
 show @Bool.rec (fun _=>T α) (T.strict (T.set f .leaf (zS k 2) x) fun r=>.node none .leaf r) (T.strict (T.set f .leaf (zS k 2) x) fun l=>.node none l .leaf) (even k)=_;rw[T.strict_eq,T.strict_eq];cases even k<;>rfl
theorem T.set_node(f k:Nat)(v:Option α)(l r:T α)(x:Option α):T.set (f+1) (.node v l r) (k+1) x=if even k then .node v (T.set f l (k/2) x) r else .node v l (T.set f r (k/2) x):=by
 show @Bool.rec (fun _=>T α) (T.strict (T.set f r (zS k 2) x) fun r=>.node v l r) (T.strict (T.set f l (zS k 2) x) fun l=>.node v l r) (even k)=_;rw[T.strict_eq,T.strict_eq];cases even k<;>rfl
theorem ycp(k:Nat):even k=true↔k%2=0:=by
 unfold even;constructor
 .intro h;exact zD h
 .intro h;show zF (k%2) 0=true;rw[h];rfl
theorem T.get_set:∀(f : Nat) (t:T α) (n:Nat) (x:Option α) (j:Nat) (y:α),(T.set f t n x).get j=some y->if j=n then x=some y else t.get j=some y
 |0,t,n,x,j,y,h=>by rw[T.set_zero,T.get_leaf]at h;cases h
 | f+1,.leaf,0,x,j,y,h=>by
   rw[T.set_leaf0]at h;cases j with
   |zero=>simpa[T.get_zero]using h
   |succ j=>rw[T.get_succ]at h;simp[T.get_leaf]at h
 | f+1,.node v l r,0,x,j,y,h=>by
   rw[T.set_node0]at h;cases j with
   |zero=>simpa[T.get_zero]using h
   |succ j=>rw[T.get_succ]at h;rw[if_neg (by omega),T.get_succ];exact h
 | f + 1,.leaf,k+1,x,j,y,h=>by
   rw[T.set_leaf]at h;cases j with
   |zero=>by_cases e:even k=true<;>simp[e,T.get_zero]at h
   | succ j =>
     by_cases e:even k=true
     .rw[if_pos e,T.get_succ]at h
      by_cases a:even j=true
      .rw[if_pos a]at h;have:=T.get_set f .leaf (k/2) x (j/2) y h;rw[T.get_leaf]at this;have c:=(ycp k).1 e;have b:=(ycp j).1 a
       by_cases q:j/2=k/2
       .rw[if_pos q]at this;rw[if_pos (by omega)];exact this
       .rw[if_neg q]at this;cases this
      .rw[if_neg a,T.get_leaf]at h;cases h
     .rw[if_neg e,T.get_succ]at h
      by_cases a:even j=true
      .rw[if_pos a,T.get_leaf]at h;cases h
      .rw[if_neg a]at h;have:=T.get_set f .leaf (k/2) x (j/2) y h;rw[T.get_leaf]at this;have c:=mt (ycp k).2 e;have b:=mt (ycp j).2 a
       by_cases q:j/2=k/2
       .rw[if_pos q]at this;rw[if_pos (by omega)];exact this
       .rw[if_neg q]at this;cases this
 | f + 1,.node v l r,k+1,x,j,y,h=>by
   rw[T.set_node]at h;cases j with
   |zero=>by_cases e:even k=true<;>simp[e,T.get_zero]at h<;>(rw[if_neg (by omega),T.get_zero];exact h)
   | succ j =>
     rw[T.get_succ]
     by_cases e:even k=true
     .rw[if_pos e,T.get_succ]at h;have c:=(ycp k).1 e
      by_cases a:even j=true
      .rw[if_pos a]at h ⊢;have:=T.get_set f l (k/2) x (j/2) y h;have b:=(ycp j).1 a
       by_cases q:j/2=k/2
       .rw[if_pos q]at this;rw[if_pos (by omega)];exact this
       .rw[if_neg q]at this;rw[if_neg (by omega)];exact this
      .rw[if_neg a] at h ⊢
       rw[if_neg (by intro q;have:j=k:=by omega
                     subst this;exact a e)]
       exact h
     .rw[if_neg e,T.get_succ]at h;have c:=mt (ycp k).2 e
      by_cases a:even j=true
      .rw[if_pos a] at h ⊢
       rw[if_neg (by intro q;have:j=k:=by omega
                     subst this;exact e a)]
       exact h
      .rw[if_neg a]at h ⊢;have:=T.get_set f r (k/2) x (j/2) y h;have b:=mt (ycp j).2 a
       by_cases q:j/2=k/2
       .rw[if_pos q]at this;rw[if_pos (by omega)];exact this
       .rw[if_neg q]at this;rw[if_neg (by omega)];exact this
theorem T.get_sets:∀(l:List Value) (t:T Value) (i j:Nat) (y:Value),(T.sets t i l).get j=some y->if i<=j/\j<i+l.length then l[j-i]?=some y else t.get j=some y
 |[],t,i,j,y,h=>by rw[if_neg (by simp)];exact h
 | v :: l,t,i,j,y,h=>by
   unfold T.sets at h;rw[T.strict_eq]at h;have:=T.get_sets l _ _ j y h
   by_cases c:i+1<=j/\j<i+1+l.length
   .rw[if_pos (by exact c)]at this
    rw[if_pos (by simp;omega)]
    rw[show j-i=(j-(i+1))+1 by omega]
    simpa using this
   .rw[if_neg (by exact c)]at this
    have:=T.get_set _ _ _ _ _ _ this
    by_cases q:j=i
    .subst q;rw[if_pos rfl]at this;rw[if_pos (by simp)]
     simpa using this
    .rw[if_neg q]at this;rw[if_neg (by simp;omega)]
     exact this
theorem ymb{l:List Value}{j:Nat}{y:Value}(h:(tOf l).get j=some y):l[j]?=some y:=by
 have:=T.get_sets l .leaf 0 j y h
 by_cases c:0<=j/\j<0+l.length
 .rw[if_pos c]at this;simpa using this
 .rw[if_neg c]at this;cases this
end tables
structure Loc where
 blk:Nat
 base:Nat
 size:Nat
 sz:Nat
 /-- What it is,if it is only read. -/
 ob:Option Obj
abbrev Phi:=Nat->Option Loc
def Phi.le(φ ψ:Phi):Prop:=∀i l,φ i=some l->ψ i=some l
theorem Phi.le_refl(φ:Phi):φ.le φ:=fun _ _ h=>h
theorem Phi.le_trans{φ ψ c:Phi}(a:φ.le ψ)(b:ψ.le c):φ.le c:=fun i l h=>b i l (a i l h)
mutual
inductive VR (φ:Phi):Value->Value->Prop
 |simple {v:Value}(h:simple v=true):VR φ v v
 |ptr {b o:Nat}{l:Loc}(h:φ b=some l):VR φ (.pointer (some ⟨b,o,none⟩)) (.pointer (some ⟨l.blk,l.base+o,none⟩))
 | slice {b o n c c':Nat}{l:Loc}{A:Addr}(h:φ b=some l) (hn:n<=c') (hc:c≠CU->c'=c) (hm:c'<=9223372036854775807)
    (ha:(A=⟨l.blk,l.base+o,none⟩/\(l.sz=0\/l.base+o+c'*l.sz<=l.size))\/c'=0):VR φ (.slice (some ⟨b,o,none⟩) n c) (.slice (some A) n c')
 |map {b:Nat}{l:Loc}(h:φ b=some l):VR φ (.map (some b)) (.map (some l.blk))
 |func {g:FuncId}{a a' c c':List Value}(ha:VRL φ a a') (hc:VRL φ c c'):VR φ (.func (.func g) a.toArray c.toArray) (.func (.func g) a'.toArray c'.toArray)
 |agg {a a':List Value}(ha:VRL φ a a'):VR φ (.agg a.toArray) (.agg a'.toArray)
 |tuple {a a':List Value}(ha:VRL φ a a'):VR φ (.tuple a.toArray) (.tuple a'.toArray)
inductive VRL (φ:Phi):List Value->List Value->Prop
 |nil:VRL φ [] []
 |cons {v v':Value}{l l':List Value}(h:VR φ v v') (hl:VRL φ l l'):VRL φ (v::l) (v'::l')
end
mutual
theorem VR.mono{φ ψ:Phi}(e:φ.le ψ):∀{v v':Value},VR φ v v'->VR ψ v v'
 |_,_,.simple h=>.simple h
 |_,_,.ptr h=>.ptr (e _ _ h)
 |_,_,.slice h a b c d=>.slice (e _ _ h) a b c d
 |_,_,.map h=>.map (e _ _ h)
 |_,_,.func a b=>.func (VRL.mono e a) (VRL.mono e b)
 |_,_,.agg a=>.agg (VRL.mono e a)
 |_,_,.tuple a=>.tuple (VRL.mono e a)
theorem VRL.mono{φ ψ:Phi}(e:φ.le ψ):∀{v v':List Value},VRL φ v v'->VRL ψ v v'
 |_,_,.nil=>.nil
 |_,_,.cons a b=>.cons (VR.mono e a) (VRL.mono e b)
end
section vrl
variable {φ:Phi}
theorem VRL.length:∀{l l':List Value},VRL φ l l'->l.length=l'.length
 |_,_,.nil=>rfl
 |_,_,.cons _ b=>by simp[VRL.length b]
theorem VRL.get:∀{l l':List Value},VRL φ l l'->∀{i:Nat}{v:Value},l[i]?=some v->∃v',l'[i]?=some v'/\VR φ v v'
 |_,_,.nil,i,v,h=>by simp at h
 |_,_,.cons a b,0,v,h=>by simp at h;subst h;exact⟨_,rfl,a⟩
 |_,_,.cons a b,i+1,v,h=>by simpa using VRL.get b (by simpa using h)
theorem VRL.append:∀{l l' k c:List Value},VRL φ l l'->VRL φ k c->VRL φ (l++k) (l'++c)
 |_,_,_,_,.nil,h=>h
 |_,_,_,_,.cons a b,h=>.cons a (b.append h)
theorem VRL.drop:∀{l l':List Value},VRL φ l l'->∀(n:Nat),VRL φ (l.drop n) (l'.drop n)
 |_,_,h,0=>by simpa using h
 |_,_,.nil,n+1=>by simpa using VRL.nil
 |_,_,.cons _ b,n+1=>by simpa using b.drop n
theorem VRL.take:∀{l l':List Value},VRL φ l l'->∀(n:Nat),VRL φ (l.take n) (l'.take n)
 |_,_,_,0=>by simpa using VRL.nil
 |_,_,.nil,n+1=>by simpa using VRL.nil
 |_,_,.cons a b,n+1=>by simpa using VRL.cons a (b.take n)
theorem VRL.simple:∀{l:List Value},l.all Ev.simple=true->VRL φ l l
 |[],_=>.nil
 | v::l,h=>by
   simp only[zAA,zG]at h;exact .cons (.simple h.1) (VRL.simple h.2)
theorem VR.atomA{v:Value}(h:atomA v=true):VR φ v v:=by
 unfold Ev.atomA at h;split at h
 .rename_i a
  have:=VR.agg (VRL.simple (φ:=φ) h)
  simpa using this
 .exact .simple h
theorem VR.eq_simple{v v':Value}(h:VR φ v v')(a:Ev.simple v=true):v'=v:=by
 cases h<;>first|rfl|(simp[Ev.simple]at a)
theorem VRL.eq_simple:∀{l l':List Value},VRL φ l l'->l.all Ev.simple=true->l'=l
 |_,_,.nil,_=>rfl
 | _,_,.cons a b,h=>by
   simp only[zAA,zG]at h;rw[a.eq_simple h.1,b.eq_simple h.2]
theorem VR.eq_atomA{v v':Value}(h:VR φ v v')(a:Ev.atomA v=true):v'=v:=by
 cases h with
 |agg b=>simp[Ev.atomA]at a;rw[b.eq_simple (by simpa using a)]
 |simple _=>rfl
 |_=>simp[Ev.atomA,Ev.simple]at a
theorem VR.cells{v v':Value}(h:VR φ v v'):VRL φ v.cells.toList v'.cells.toList:=by
 cases h with
 |agg g=>simpa[Value.cells]using g
 | simple h =>
   have:v.cells = #[v]:=by
    cases v<;>first|rfl|(simp[Ev.simple]at h)
   rw[this];exact .cons (.simple h) .nil
 |ptr h=>exact .cons (.ptr h) .nil
 |slice a b c d e=>exact .cons (.slice a b c d e) .nil
 |map a=>exact .cons (.map a) .nil
 |func a b=>exact .cons (.func a b) .nil
 |tuple a=>exact .cons (.tuple a) .nil
end vrl
def BR(φ:Phi)(l:Loc)(w:World):ABlk->Prop
 | .cells c n a k=>l.sz=k/\l.base+n<=l.size/\∃(b:List Value) (e:Nat) (d:Nat×Nat),((a≠CU->e=a/\d=(0,0)/\l.ob=none)/\∀o,l.ob=some o->w.heap[l.blk]?=some o)/\w.heap[l.blk]?=some (.cells b.toArray e d)/\b.length=l.size /\
    ∀j v,j<n->c.get j=some v->∃g,b[l.base+j]?=some g/\VR φ v g
 |.map i h=>w.heap[l.blk]?=some (.map i h)
abbrev AM:=Nat->Option ABlk
def Img(φ:Phi)(M:AM)(k:Nat):Prop:=∃i b l,M i=some b/\φ i=some l/\l.blk=k
def ybhr:List Value:=([0,1,28,2,29,14,24,3,30,22,20,15,25,17,4,8,31,27,13,23,21,19,16,7,26,12,18,6,11,5,10,9]:List Int).map fun n=>.int .u8 n
def yckr:Option (Nat×List Value):=some (0,ybhr)
def Gl(φ:Phi)(M:AM)(w:World):Prop:=∀x,yckr=some x->(∃e a,w.heap[x.1]?=some (.cells x.2.toArray e a))/\¬Img φ M x.1
def GlW(w:World):Prop:=∀x,yckr=some x->∃e a,w.heap[x.1]?=some (.cells x.2.toArray e a)
structure Rel0(φ:Phi)(M:AM)(w:World):Prop where
 blk:∀i b,M i=some b->∃l,φ i=some l/\BR φ l w b
 inj:∀i j x y li lj,i≠j->M i=some x->M j=some y->φ i=some li->φ j=some lj->li.blk≠lj.blk
structure Rel(φ:Phi)(M:AM)(w:World):Prop extends Rel0 φ M w where
 gl:Gl φ M w
theorem BR.mono{φ ψ:Phi}(h:φ.le ψ){l:Loc}{w:World}{b:ABlk}(d:BR φ l w b):BR ψ l w b:=by
 cases b with
 |map D C=>exact d
 | cells c n e s =>
   obtain⟨q,t,g,i,k,p,u,x,y⟩:=d;refine⟨q,t,g,i,k,p,u,x,fun j v z A=>?_⟩;obtain⟨B,a,b⟩:=y j v z A;exact⟨B,a,b.mono h⟩
theorem BR.lt{φ:Phi}{l:Loc}{w:World}{b:ABlk}(a:BR φ l w b):l.blk<w.heap.size:=by
 cases b with
 |map i g=>exact(Array.getElem?_eq_some_iff.1 a).1
 | cells c n e s =>
   obtain⟨_,_,h,_,_,_,d,_⟩:=a;exact(Array.getElem?_eq_some_iff.1 d).1
theorem BR.keep{φ:Phi}{l:Loc}{w g:World}{b:ABlk}(d:BR φ l w b)(h:g.heap[l.blk]?=w.heap[l.blk]?):BR φ l g b:=by
 cases b with
 |map A z=>exact h.trans d
 | cells c n e s =>
   obtain⟨p,q,i,j,k,a,t,u,x⟩:=d;exact⟨p,q,i,j,k,⟨a.1,fun o y=>h.trans (a.2 o y)⟩,h.trans t,u,x⟩
theorem Rel.sub{φ:Phi}{M N:AM}{w:World}(h:Rel φ M w)(a:∀i b,N i=some b->M i=some b):Rel φ N w :=
 ⟨⟨fun i b n=>h.blk i b (a i b n),fun i j x y q t d c p=>h.inj i j x y q t d (a i x c) (a j y p)⟩,
  fun x c=>⟨(h.gl x c).1,fun⟨i,b,l,e,g,k⟩=>(h.gl x c).2 ⟨i,b,l,a i b e,g,k⟩⟩⟩
theorem Rel.keep{φ:Phi}{M:AM}{w d:World}(h:Rel φ M w)(hk:∀k,k<w.heap.size->d.heap[k]?=w.heap[k]?):Rel φ M d :=
 ⟨⟨fun i b j=>by obtain⟨l,a,c⟩:=h.blk i b j;exact⟨l,a,c.keep (hk _ c.lt)⟩,h.inj⟩,
  fun x n=>by
   obtain⟨⟨e,g,a⟩,c⟩:=h.gl x n;exact⟨⟨e,g,(hk _ (Array.getElem?_eq_some_iff.1 a).1).trans a⟩,c⟩⟩
structure WG(φ:Phi)(M:AM)(w:World)(φ':Phi)(M':AM)(w':World):Prop where
 os:w'.os=w.os
 tape:w'.tape=w.tape
 output:w'.output=w.output
 size:w.heap.size<=w'.heap.size
 keep:∀k,k<w.heap.size->¬Img φ M k->w'.heap[k]?=w.heap[k]?
 img:∀k,k<w.heap.size->Img φ' M' k->Img φ M k
theorem Gl.step{φ b:Phi}{M c:AM}{w j:World}(h:Gl φ M w)(g:WG φ M w b c j):Gl b c j:=fun x l=>by
 obtain⟨⟨e,k,d⟩,i⟩:=h x l;have a:=(Array.getElem?_eq_some_iff.1 d).1;exact⟨⟨e,k,(g.keep _ a i).trans d⟩,fun q=>i (g.img _ a q)⟩
theorem Rel0.step{φ a:Phi}{M b:AM}{w c:World}(h:Rel φ M w)(g:Rel0 a b c/\WG φ M w a b c):Rel a b c/\WG φ M w a b c:=⟨⟨g.1,h.gl.step g.2⟩,g.2⟩
theorem WG.refl(φ:Phi)(M:AM)(w:World):WG φ M w φ M w:=⟨rfl,rfl,rfl,zU _,fun _ _ _=>rfl,fun _ _ h=>h⟩
theorem WG.trans{c d e:Phi}{g i j:AM}{l n p:World}(a:WG c g l d i n)(b:WG d i n e j p):WG c g l e j p :=
 ⟨b.os.trans a.os,b.tape.trans a.tape,b.output.trans a.output,zAL a.size b.size,
  fun k hk q=>(b.keep k (zO hk a.size) (fun h=>q (a.img k hk h))).trans (a.keep k hk q),
  fun k hk h=>a.img k hk (b.img k (zO hk a.size) h)⟩
theorem WG.sub{φ c:Phi}{M d N:AM}{w e:World}(a:WG φ M w c d e)(n:∀i b,N i=some b->d i=some b):WG φ M w c N e :=
 ⟨a.os,a.tape,a.output,a.size,a.keep,fun k hk ⟨i,b,l,g,h,j⟩=>a.img k hk ⟨i,b,l,n i b g,h,j⟩⟩
end Ev
end
section
namespace Ev
def upd(M:AM)(i:Nat)(x:Option ABlk):AM:=fun j=>if j=i then x else M j
def appM(M:AM)(next:Nat):Eff->AM
 |.none=>M
 |.new b=>upd M next (some b)
 |.upd i b=>upd M i (some b)
 |.move i b=>upd (upd M i none) next (some b)
def Eff.adds:Eff->Bool
 |.new _=>true
 |.move _ _=>true
 |_=>false
def NV(φ:Phi)(v:Value):Next->Prop
 |.value a=>VR φ v a
 |.skip=>v=undef
 |_=>False
def OpOk(P:Program)(s:Sem Next)(φ:Phi)(M:AM)(w:World)(next:Nat)(v:Value)(e:Eff):Prop :=
 ∃ a b c,s.run P w = .ok c b/\NV a v c/\φ.le a/\(∀i,i≠next->a i=φ i)/\(e.adds=false->a=φ) /\
   Rel a (appM M next e) b/\WG φ M w a (appM M next e) b
section
variable {P:Program}{s:Sem Next}{φ:Phi}{M:AM}{w:World}{next:Nat}{v:Value}
theorem OpOk.value{v':Value}(a:Rel φ M w)(b:s.run P w = .ok (.value v') w)(c:VR φ v v'):OpOk P s φ M w next v .none :=
 ⟨φ,w,.value v',b,c,φ.le_refl,fun _ _=>rfl,fun _=>rfl,a,WG.refl _ _ _⟩
def yhn(φ:Phi)(i:Nat)(l:Loc):Phi:=fun j=>if j=i then some l else φ j
theorem yjz{i:Nat}{l:Loc}(h:φ i=none):φ.le (yhn φ i l):=fun j x a=>by
 unfold yhn
 by_cases e:j=i
 .subst e;rw[h]at a;cases a
 .rw[if_neg e];exact a
theorem ycq(i:Nat)(l:Loc):yhn φ i l i=some l:=by simp[yhn]
theorem ydj{i j:Nat}(l:Loc)(h:j≠i):yhn φ i l j=φ j:=by simp[yhn,h]
theorem yrm(w:World)(o:Obj){k:Nat}(h:k<w.heap.size):(w.alloc o).heap[k]?=w.heap[k]?:=by
 show(w.heap.push o)[k]?=_;rw[zAK,if_neg (Nat.ne_of_lt h)]
theorem yko(w:World)(o:Obj):(w.alloc o).heap[w.heap.size]?=some o:=by
 show(w.heap.push o)[w.heap.size]?=_;rw[zAK,if_pos rfl]
theorem Rel.new(B:Rel φ M w)(G:φ next=none){o:Obj}{l:Loc}{b:ABlk}(J:l.blk=w.heap.size)(F:BR (yhn φ next l) l (w.alloc o) b) :
 Rel (yhn φ next l) (upd M next (some b)) (w.alloc o)/\WG φ M w (yhn φ next l) (upd M next (some b)) (w.alloc o):=by
 have D:=yjz (l:=l) G
 have p:∀i x,i≠next->M i=some x->∃d,φ i=some d/\d.blk<w.heap.size/\BR (yhn φ next l) d (w.alloc o) x:=fun i x c a=>by
  obtain⟨d,g,u⟩:=B.blk i x a;exact⟨d,g,u.lt,(u.mono D).keep (yrm w o u.lt)⟩
 refine Rel0.step B ⟨⟨fun i x a=>?_,fun i j x y d K z a A c t=>?_⟩,⟨rfl,rfl,rfl,by simp,fun k hk _=>yrm w o hk,fun k hk h=>?_⟩⟩
 .unfold upd at a
  by_cases e:i=next
  .subst e;rw[if_pos rfl]at a;cases a;exact⟨l,ycq _ _,F⟩
  .rw[if_neg e]at a;obtain⟨d,g,_,E⟩:=p i x e a;exact⟨d,by rw[ydj l e];exact g,E⟩
 .unfold upd at a A
  by_cases e:i=next
  .subst e;rw[ycq]at c;cases c
   have n:j≠i:=fun q=>z q.symm;rw[if_neg n]at A;obtain⟨I,g,u,_⟩:=p j y n A;rw[ydj l n,g]at t;cases t
   omega
  .rw[if_neg e]at a;obtain⟨H,g,u,_⟩:=p i x e a;rw[ydj l e,g]at c;cases c
   by_cases n:j=next
   .subst n;rw[ycq]at t;cases t;omega
   .rw[if_neg n]at A;rw[ydj l n]at t;exact B.inj i j x y _ _ z a A g t
 .obtain⟨i,x,d,a,c,C⟩:=h;unfold upd at a
  by_cases e:i=next
  .subst e;rw[ycq]at c;cases c;omega
  .rw[if_neg e]at a;rw[ydj l e]at c;exact⟨i,x,d,a,c,C⟩
theorem BR.row {φ:Phi}{l:Loc}{w:World}{elem sz:Nat}{c a:List Value}(d:VRL φ c a) {rest:List Value}(q:w.heap[l.blk]?=some (.cells (a++rest).toArray elem (0,0)))
 (e:l.base=0) (h:l.size=a.length+rest.length) (t:l.sz=sz) (b:l.ob=none):BR φ l w (.cells (tOf c) c.length elem sz):=by
 refine⟨t,by rw[e,h,d.length];omega,a++rest,elem,(0,0),⟨fun _=>⟨rfl,rfl,b⟩,fun o g=>(by rw[b]at g;cases g)⟩,q,by simp[h],fun j v p n=>?_⟩
 obtain⟨u,i,k⟩:=d.get (ymb n);refine⟨u,?_,k⟩;rw[e,zAE,zJ (by rw[<-d.length];exact p)]
 exact i
theorem OpOk.row (j:Rel φ M w) (g:φ next=none) {elem sz:Nat}{c a:List Value}(e:VRL φ c a) {v':Value}
 (n:s.run P w = .ok (.value v') (w.alloc (.cells a.toArray elem)))
 (p:VR (yhn φ next ⟨w.heap.size,0,c.length,sz,none⟩) v v'):OpOk P s φ M w next v (.new (rowBlk elem sz c)):=by
 have d:=yjz (l:=⟨w.heap.size,0,c.length,sz,none⟩) g
 have:=j.new (l:=⟨w.heap.size,0,c.length,sz,none⟩) (b:=rowBlk elem sz c) (o:=.cells a.toArray elem) g rfl
  (BR.row (rest:=[]) (e.mono d) (by rw[List.append_nil];exact yko w _) rfl (by simp[e.length]) rfl rfl)
 exact⟨_,_,.value v',n,p,d,fun i k=>ydj _ k,fun h=>(by cases h),this.1,this.2⟩
theorem T.sets_get{c:T Value}{i j:Nat}{l:List Value}{y:Value}(h:(T.sets c i l).get j=some y):(i<=j/\j<i+l.length/\l[j-i]?=some y)\/(¬(i<=j/\j<i+l.length)/\c.get j=some y):=by
 have:=T.get_sets l c i j y h
 by_cases q:i<=j/\j<i+l.length
 .rw[if_pos q]at this;exact .inl ⟨q.1,q.2,this⟩
 .rw[if_neg q]at this;exact .inr ⟨q,this⟩
theorem Rel.setRow(g:Rel φ M w){i:Nat}{b z:ABlk}{l:Loc}{A:Array Value}(p:M i=some b)(C:φ i=some l)(B:BR φ l (w.setRow l.blk A) z) :
 Rel φ (upd M i (some z)) (w.setRow l.blk A)/\WG φ M w φ (upd M i (some z)) (w.setRow l.blk A):=by
 refine Rel0.step g ⟨⟨fun j x a=>?_,fun j k x y d D c a u n hk=>?_⟩,⟨rfl,rfl,rfl,by simp,fun k hk H=>setRow_other w _ _ _ (fun e=>H ⟨i,b,l,p,C,e.symm⟩),fun k hk h=>?_⟩⟩
 .unfold upd at a
  by_cases e:j=i
  .subst e;rw[if_pos rfl]at a;cases a;exact⟨l,C,B⟩
  .rw[if_neg e]at a;obtain⟨d,F,G⟩:=g.blk j x a;exact⟨d,F,G.keep (setRow_other w _ _ _ (g.inj j i x b d l e a p F C))⟩
 .unfold upd at a u
  by_cases e:j=i
  .subst e;rw[if_neg (fun q=>c q.symm)]at u;exact g.inj j k b y d D c p u n hk
  .rw[if_neg e]at a
   by_cases E:k=i
   .subst E;exact g.inj j k x b d D c a p n hk
   .rw[if_neg E]at u;exact g.inj j k x y d D c a u n hk
 .obtain⟨j,x,d,a,n,t⟩:=h;unfold upd at a
  by_cases e:j=i
  .subst e;exact⟨j,b,d,p,n,t⟩
  .rw[if_neg e]at a;exact⟨j,x,d,a,n,t⟩
theorem ygg{α:Type}(a b:List α)(p q:Nat)(h:p+b.length<=a.length) :
 (a.take p++b++a.drop (p+b.length))[q]?=if p<=q/\q<p+b.length then b[q-p]? else a[q]?:=by
 by_cases c:q<p
 .rw[List.append_assoc,zJ (by simp;omega),List.getElem?_take_of_lt c,if_neg (by omega)]
 .by_cases d:q<p+b.length
  .rw[zJ (by simp;omega),zL (by simp;omega),if_pos (by omega)]
   simp[zAT (show p<=a.length by omega)]
  .rw[zL (by simp;omega),zZ,if_neg (by omega)]
   congr 1;simp[zAT (show p<=a.length by omega)]
   omega
theorem BR.write {l:Loc}(d:l.ob=none) {c:T Value}{n o elem sz:Nat}{new a b:List Value}(z:w.heap[l.blk]?=some (.cells b.toArray elem (0,0))) (g:l.sz=sz) (y:l.base+n<=l.size) (i:b.length=l.size)
 (t:∀j v,j<n->c.get j=some v->∃v',b[l.base+j]?=some v'/\VR φ v v') (k:VRL φ new a) (e:o+new.length<=n) :
 BR φ l (w.setRow l.blk (b.take (l.base+o)++a++b.drop (l.base+o+a.length)).toArray) (.cells (T.sets c o new) n elem sz):=by
 have A:=k.length;refine⟨g,y,_,elem,(0,0),⟨fun _=>⟨rfl,rfl,d⟩,fun o e=>(by rw[d]at e;cases e)⟩,setRow_heap w _ _ _ elem _ z,by simp;omega,fun j v x u=>?_⟩
 rw[ygg b a (l.base+o) (l.base+j) (by omega)]
 rcases T.sets_get u with⟨p,h,q⟩|⟨p,h⟩
 .rw[if_pos (by omega),show l.base+j-(l.base+o)=j-o by omega]
  exact k.get q
 .rw[if_neg (by omega)]
  exact t j v x h
theorem yio{φ:Phi}:∀{l l':List Value},VRL φ l l'->allGood l=true->∀v∈l',v.oneCell'=true
 |_,_,.nil,_=>by simp
 | _,_,.cons (v:=v) (v':=v') (l:=c) a b,h=>by
   have e:v'.oneCell'=true/\allGood c=true:=by
    cases a with
    |agg _=>simp[allGood]at h
    |tuple _=>simp[allGood]at h
    |simple g=>cases v<;>simp_all [allGood,Value.oneCell',Ev.simple]
    |ptr _=>exact⟨rfl,by simpa[allGood]using h⟩
    |slice _ _ _ _ _=>exact⟨rfl,by simpa[allGood]using h⟩
    |map _=>exact⟨rfl,by simpa[allGood]using h⟩
    |func _ _=>exact⟨rfl,by simpa[allGood]using h⟩
   intro u d;rcases List.mem_cons.1 d with rfl|d
   .exact e.1
   .exact yio b e.2 u d
end
theorem Rel.cellsAt{φ:Phi}{M:AM}{w:World}(y:Rel φ M w){i:Nat}{c:T Value}{n e z:Nat}(h:M i=some (.cells c n e z)) :
 ∃ (l:Loc) (a:List Value) (b:Nat) (d:Nat×Nat),φ i=some l/\l.sz=z/\l.base+n<=l.size/\(e≠CU->b=e/\d=(0,0)/\l.ob=none)/\w.heap[l.blk]?=some (.cells a.toArray b d)/\a.length=l.size /\
   ∀j v,j<n->c.get j=some v->∃v',a[l.base+j]?=some v'/\VR φ v v':=by
 obtain⟨l,k,p,q,a,b,d,g,t,u,x⟩:=y.blk i _ h;exact⟨l,a,b,d,k,p,q,g.1,t,u,x⟩
theorem addr_add(b o i:Nat):(⟨b,o,none⟩:Addr).add i=⟨b,o+i,none⟩:=by
 unfold Addr.add;split
 .subst_vars;rfl
 .rfl
theorem cell_of{w:World}{b e o:Nat}{c:Nat×Nat}{a:List Value}{v:Value}(h:w.heap[b]?=some (.cells a.toArray e c))(d:a[o]?=some v):w.cell? ⟨b,o,none⟩=some v:=by
 simp[World.cell?,h,d]
theorem yfb{c:T Value}:∀{n o:Nat}{l:List Value},getCells c o n=some l->l.length=n/\∀j,j<n->∃v,c.get (o+j)=some v/\l[j]?=some v
 |0,o,l,h=>by simp[getCells]at h;subst h;exact⟨rfl,fun j d=>absurd d (Nat.not_lt_zero _)⟩
 | n + 1,o,l,h=>by
   unfold getCells at h;split at h
   .cases h
   .rename_i v k
    split at h
    .cases h
    .rename_i r i
     cases h
     obtain⟨e,g⟩:=yfb i;refine⟨by simp[e],fun j d=>?_⟩
     cases j with
     |zero=>exact⟨v,k,rfl⟩
     | succ j =>
       obtain⟨u,a,b⟩:=g j (by omega)
       exact⟨u,by rw[show o+(j+1)=o+1+j by omega];exact a,by simpa using b⟩
theorem cellsRead {φ:Phi}{c:T Value}{n o k a:Nat}{e l:List Value}(q:∀j v,j<n->c.get j=some v->∃v',e[a+j]?=some v'/\VR φ v v')
 (b:getCells c o k=some l) (z:o+k<=n):∃l',VRL φ l l'/\∀j v,l'[j]?=some v->e[a+o+j]?=some v:=by
 induction k generalizing o l with
 |zero=>simp[getCells]at b;subst b;exact⟨[],.nil,by simp⟩
 | succ k y =>
   unfold getCells at b;split at b
   .cases b
   .rename_i v x
    split at b
    .cases b
    .rename_i r t
     cases b
     obtain⟨l',g,h⟩:=y t (by omega)
     obtain⟨v',i,p⟩:=q o v (by omega) x
     refine⟨v'::l',.cons p g,fun j u d=>?_⟩;cases j with
     |zero=>simp at d;subst d;exact i
     |succ j=>rw[show a+o+(j+1)=a+(o+1)+j by omega];exact h j u (by simpa using d)
end Ev
end
section
namespace Ev
def OV(φ:Phi)(f:Fr)(o:Oper)(ρ:Operand->Value):Prop:=∀x∈o.op.operands,∀v,f.get x=some v->VR φ v (ρ x)
section
variable {P:Program}{φ:Phi}{M:AM}{w:World}{f:Fr}{o:Oper}{m:Mem}{r:R}{ρ:Operand->Value}
theorem yej:∀{l:List Operand}{a:List Value},valsA f l=some a->(∀x∈l,∀v,f.get x=some v->VR φ v (ρ x))->VRL φ a (l.map ρ)
 |[],a,h,_=>by simp[valsA]at h;subst h;exact .nil
 | x :: l,a,h,b=>by
   unfold valsA at h;split at h
   .cases h
   .rename_i v d
    split at h
    .cases h
    .rename_i g c
     cases h
     exact .cons (b x (by simp) v d) (yej c fun y e=>b y (by simp[e]))
inductive PRL (φ:Phi):List (Nat×Value)->List (Nat×Value)->Prop
 |nil:PRL φ [] []
 |cons {i:Nat}{v v':Value}{l l':List (Nat×Value)}(h:VR φ v v') (hl:PRL φ l l'):PRL φ ((i,v)::l) ((i,v')::l')
theorem ypa:∀{l:List (Nat×Operand)}{a:List (Nat×Value)},partsA f l=some a->(∀x∈l.map (·.2),∀v,f.get x=some v->VR φ v (ρ x))->PRL φ a (l.map fun p=>(p.1,ρ p.2))
 |[],a,h,_=>by simp[partsA]at h;subst h;exact .nil
 | (i,x)::l,a,h,b=>by
   unfold partsA at h;split at h
   .cases h
   .rename_i v e
    split at h
    .cases h
    .rename_i g d
     cases h
     exact .cons (b x (by simp) v e) (ypa d fun y c=>b y (by simp at c ⊢;exact .inr c))
theorem ybbi:∀(l:List Value) (k off:Nat) (cells:Array Value),off+k+l.length<=cells.size ->
 ((l.zipIdx k).foldl (fun(b:Array Value) (p:Value×Nat)=>b.setIfInBounds (off+p.2) p.1) cells).toList=cells.toList.take (off+k)++l++cells.toList.drop (off+k+l.length)
 |[],k,off,cells,_=>by simp
 | v :: l,k,off,cells,h=>by
   have a:off+k<cells.size:=by simp at h;omega
   rw[List.zipIdx_cons,List.foldl_cons,ybbi l (k+1) off _ (by simp at h ⊢;omega)]
   apply zAO;intro q;have e:=ygg (cells.setIfInBounds (off+k) v).toList l (off+(k+1)) q (by simp at h ⊢;omega)
   have g:=ygg cells.toList (v::l) (off+k) q (by simp at h ⊢;omega)
   rw[e,g];simp only[List.length_cons,Array.getElem?_toList]
   by_cases c:off+(k+1)<=q/\q<off+(k+1)+l.length
   .rw[if_pos c,if_pos (by omega),show q-(off+k)=(q-(off+(k+1)))+1 by omega,List.getElem?_cons_succ]
   .rw[if_neg c]
    by_cases d:q=off+k
    .subst d;rw[if_pos (by omega)]
     simp[a]
    .rw[if_neg (by omega),zY,if_neg (by omega)]
theorem ymt{place:Nat->Option (Nat×Nat)}:∀{x k:List (Nat×Value)},PRL φ x k->∀{cells a:List Value},VRL φ cells a->∀{l:List Value},fillA place cells x=some l ->
 ∃l',Instr.fill place a.toArray k=some l'.toArray/\VRL φ l l'
 |_,_,.nil,cells,a,e,l,h=>by simp[fillA]at h;subst h;exact⟨a,rfl,e⟩
 | _,_,.cons (i:=i) (v:=v) (v':=v') E C,cells,a,e,l,h=>by
   unfold fillA at h;split at h
   .cases h
   .rename_i b d D
    simp only at h;rw[zI]at h;split at h
    .rename_i c
     simp only[zG]at c;obtain⟨⟨n,u⟩,F⟩:=c;have n:=zD n;have u:=zB u;have j:=E.cells;have g:=j.length;have B:=e.length;have q:v'.cells.size=d:=by rw[<-n,g];simp
     have t:(v'.cells.zipIdx.foldl (fun(y:Array Value) (p:Value×Nat)=>y.setIfInBounds (b+p.2) p.1) a.toArray).toList=a.take b++v'.cells.toList++a.drop (b+d):=by
      rw[<-Array.foldl_toList,Array.toList_zipIdx,ybbi v'.cells.toList 0 b _ (by simp;omega)]
      simp[q]
     obtain⟨l',z,A⟩:=ymt C (((e.take b).append j).append (e.drop (b+d))) h;refine⟨l',?_,A⟩;unfold Instr.fill;simp only[D];rw[if_neg (by simp;omega)]
     rw[<-z];congr 1;rw[<-t]
    .cases h
end
end Ev
end
section
namespace Ev
theorem yks{α:Type}(P:Program):∀(s:Sem α) (a:α),runPure P s=some a->∀w,s.run P w = .ok a w
 |.pure _,a,h,w=>by simp[runPure]at h;subst h;rfl
 | .program k,a,h,w=>by
   unfold runPure at h;show(k P).run P w=_;exact yks P (k P) a h w
 |.load ..,_,h,_=>by simp[runPure]at h
 |.store ..,_,h,_=>by simp[runPure]at h
 |.new ..,_,h,_=>by simp[runPure]at h
 |.shape ..,_,h,_=>by simp[runPure]at h
 |.freeze ..,_,h,_=>by simp[runPure]at h
 |.frozen ..,_,h,_=>by simp[runPure]at h
 |.getObj ..,_,h,_=>by simp[runPure]at h
 |.setObj ..,_,h,_=>by simp[runPure]at h
 |.choose ..,_,h,_=>by simp[runPure]at h
 |.sys ..,_,h,_=>by simp[runPure]at h
 |.mark ..,_,h,_=>by simp[runPure]at h
 |.halt ..,_,h,_=>by simp[runPure]at h
section
variable {P:Program}{φ:Phi}{M:AM}{w:World}{f:Fr}{o:Oper}{m:Mem}{r:R}{ρ:Operand->Value}{next:Nat}
theorem ybfw:∀{l:List Operand}{c:List Value},valsA f l=some c->c.all atomA=true->∀x∈l,∃v,f.get x=some v/\atomA v=true
 |[],_,_,_=>by simp
 | x :: l,c,h,a=>by
   unfold valsA at h;split at h
   .cases h
   .rename_i v e
    split at h
    .cases h
    .rename_i g d
     cases h
     simp only[zAA,zG]at a;intro y b;rcases List.mem_cons.1 b with rfl|b
     .exact⟨v,e,a.1⟩
     .exact ybfw d a.2 y b
theorem yor(q:∀l b,o.op ≠ .select l b)(h:pureA P f o=some r)(n:Rel φ M w)(t:OV φ f o ρ):OpOk P (execOp ρ o) φ M w next r.v r.e:=by
 unfold pureA at h;split at h
 .cases h
 .rename_i y i
  rw[zI]at h;split at h
  .rename_i d
   split at h
   .rename_i v c
    rw[zI]at h;split at h
    .rename_i g
     cases h
     have a:execOp ρ o=execOp (fun x=>(f.get x).getD undef) o:=execOp_congr o q fun x k=>by
      obtain⟨u,j,p⟩:=ybfw i d x (by simpa using k)
      rw[j];exact(t x k u j).eq_atomA p
     refine OpOk.value n (v':=v) ?_ (VR.atomA g);rw[a];exact yks P _ _ c w
    .cases h
   .cases h
  .cases h
theorem ygi{v:Value}(h:val v=some r):r=⟨v,.none,[]⟩:=by simp[val]at h;exact h.symm
theorem ybyp{x:Operand}(a:o.op = .move x\/o.op = .assign x)(h:ob (f.get x) val=some r)(b:Rel φ M w)(d:OV φ f o ρ):OpOk P (execOp ρ o) φ M w next r.v r.e:=by
 obtain⟨v,g,h⟩:=yg h;rw[ygi h];have c:=d x (by rcases a with e|e<;>rw[e]<;>simp[Op.operands]) v g
 refine OpOk.value b (v':=ρ x) ?_ c;unfold execOp;rcases a with e|e<;>rw[e]<;>rfl
theorem ycvv{c a b:Operand}(d:o.op = .pick c a b)(h:ob (f.get c) (evPick f a b)=some r)(n:Rel φ M w)(g:OV φ f o ρ):OpOk P (execOp ρ o) φ M w next r.v r.e:=by
 obtain⟨u,p,h⟩:=yg h;unfold evPick at h;split at h
 .rename_i t
  obtain⟨v,i,h⟩:=yg h;rw[ygi h];rw[ybh]at i;have k:=g c (by rw[d];simp[Op.operands]) _ p
  have j:=k.eq_simple rfl;have l:=g (if t then a else b) (by rw[d];cases t<;>simp[Op.operands]) v i
  refine OpOk.value n (v':=ρ (if t then a else b)) ?_ l
  unfold execOp;rw[d];simp only[j,asBool,zC,zH,zA];cases t<;>rfl
 .cases h
theorem yjs{i:TypeInfo}{z:List Value}(h:zeroA i=some z):∃v:Value,i.zero=some v/\v.cells.toList=z/\z.length=i.size/\VRL φ z z:=by
 obtain⟨v,b,c⟩:=yg h;obtain⟨a,d⟩:=ybi c;cases d
 simp only[zG]at a;exact⟨v,b,rfl,zD a.2,(VR.atomA a.1).cells⟩
theorem rTI{t:TypeId}{i:TypeInfo}(h:P.info? t=some i)(w:World):(typeInfo t).run P w = .ok i w:=run_typeInfo w h
theorem rSO{t:TypeId}{i:TypeInfo}(h:P.info? t=some i)(w:World):(sizeOf t).run P w = .ok i.size w:=by
 rw[run_sizeOf w h];simp[Program.cellsOf,h]
theorem yfn{t:TypeId}{i:TypeInfo}{z:Value}(h:P.info? t=some i)(a:i.zero=some z)(w:World):(zeroValue t).run P w = .ok z w:=by
 simp[zeroValue,rTI h,a]
theorem yuu{w:World}{n z:Nat}:yhn φ next ⟨w.heap.size,0,n,z,none⟩ next=some ⟨w.heap.size,0,n,z,none⟩:=ycq _ _
theorem ycrw{t:TypeId}(a:o.op = .alloc t)(h:ob (P.info? t) (evAlloc t m)=some r)(g:Rel φ M w)(j:φ m.next=none):OpOk P (execOp ρ o) φ M w m.next r.v r.e:=by
 obtain⟨i,k,h⟩:=yg h;obtain⟨z,l,h⟩:=yg h;cases h
 obtain⟨v,b,c,n,d⟩:=yjs (φ:=φ) l;refine OpOk.row g j d (v':=.pointer (some ⟨w.heap.size,0,none⟩)) ?_ (VR.ptr (yuu));unfold execOp;rw[a];simp[Instr.alloc,yfn k b,newVar,newRow,newObj,zX,<-c]
theorem ydcu{t:TypeId}{x:Operand}(a:o.op = .box t x)(h:ob (f.get x) (evBox t m)=some r)(c:Rel φ M w)(g:OV φ f o ρ)(d:φ m.next=none):OpOk P (execOp ρ o) φ M w m.next r.v r.e:=by
 obtain⟨v,i,h⟩:=yg h;obtain⟨_,h⟩:=ybi h;cases h
 have b:=g x (by rw[a];simp[Op.operands]) v i
 refine OpOk.row c d b.cells (v':=.pointer (some ⟨w.heap.size,0,none⟩)) ?_ (VR.ptr (yuu));unfold execOp;rw[a];simp[Instr.box,newVar,newRow,newObj,zX]
theorem ytm:∀{l:List Field}{a:List (Nat×Nat)},placesA P l=some a->∀w,(l.mapM (fun(f:Field)=>do pure (f.offset,<-sizeOf f.type)):Sem (List (Nat×Nat))).run P w = .ok a w
 |[],a,h,w=>by simp[placesA]at h;subst h;rfl
 | fd::l,a,h,w=>by
   unfold placesA at h;split at h
   .cases h
   .rename_i i b
    split at h
    .cases h
    .rename_i d c
     cases h
     have:=ytm c w;simp only[List.mapM_cons,zC,rSO b,zA,zH,this]
theorem ycmz{t:TypeId}{parts:Array (Nat×Operand)}(b:o.op = .build t parts)(h:ob (partsA f parts.toList) (evBuild P t)=some r)(F:Rel φ M w)(Q:OV φ f o ρ):OpOk P (execOp ρ o) φ M w next r.v r.e:=by
 obtain⟨U,D,h⟩:=yg h;obtain⟨i,H,h⟩:=yg h;obtain⟨z,T,h⟩:=yg h;obtain⟨d,G,h⟩:=yg h;obtain⟨v,J,K,V,L⟩:=yjs (φ:=φ) T;have g:=ypa (φ:=φ) (ρ:=ρ) D (fun x S=>Q x (by rw[b];simpa[Op.operands]using S))
 unfold evBuild1 at h;split at h
 .rename_i a
  obtain⟨I,C,h⟩:=yg h;obtain⟨l,A,h⟩:=yg h;rw[ygi h];obtain⟨q,c,y⟩:=ymt g L A;refine OpOk.value F (v':=.agg q.toArray) ?_ (VR.agg y);have O:=ytm C w;rw[<-K]at c;unfold execOp;rw[b]
  have B:((a.mapM (fun(f:Field)=>do pure (f.offset,<-sizeOf f.type)):Sem (Array (Nat×Nat)))).run P w = .ok I.toArray w:=by
   rw[Array.mapM_eq_mapM_toList,Sem.run_map,O];rfl
  have u:Instr.fill (fun k=>I[k]?) v.cells (parts.toList.map fun p=>(p.1,ρ p.2))=some q.toArray:=by
   simpa using c
  simp only[Instr.build,zC,yfn H J,zA,run_underlying G,B];simp only[zAF,List.getElem?_toArray,u,zH,zA]
 .rename_i n E
  obtain⟨j,N,h⟩:=yg h;obtain⟨l,A,h⟩:=yg h;rw[ygi h];obtain⟨q,c,y⟩:=ymt g L A;refine OpOk.value F (v':=.agg q.toArray) ?_ (VR.agg y);rw[<-K]at c;unfold execOp;rw[b];simp only[Instr.build,zC,yfn H J,zA,run_underlying G,rSO N];simp at c;simp[c]
 .cases h
theorem yxl(z:List Value):repl 0 z=[]:=rfl
theorem yjn(n:Nat)(z:List Value):repl (n+1) z=z++repl n z:=rfl
theorem yeu(n:Nat)(z:List Value):(repl n z).length=n*z.length:=by
 induction n with
 |zero=>simp[yxl]
 |succ n a=>rw[yjn,zM,a,zAV,zAW]
theorem ybpq{z a:List Value}(h:VRL φ z a)(n:Nat):VRL φ (repl n z) (repl n a):=by
 induction n with
 |zero=>exact .nil
 |succ n b=>exact h.append b
theorem ychq(z:List Value)(n:Nat):(List.range (n*z.length)).map (fun i=>z.toArray[i%z.length]!)=repl n z:=by
 induction n with
 |zero=>simp[yxl]
 | succ n b =>
   rw[zAV,zAW,List.range_add,List.map_append,yjn,List.map_map];congr 1
   .apply zAO;intro q
    by_cases a:q<z.length
    .simp[a,Nat.mod_eq_of_lt a]
    .simp[a]
   .rw[<-b];apply List.map_congr_left;intro i _;simp
theorem yxf(z:Value)(n:Nat):(zAP (n*z.cells.size)).map (fun i=>z.cells[i%z.cells.size]!)=(repl n z.cells.toList).toArray:=by
 have:=ychq z.cells.toList n;apply Array.toList_inj.1;simp at this ⊢;exact this
theorem ybeg{t:TypeId}{len:Nat}{parts:Array (Nat×Operand)}(n:o.op = .buildSlice t len parts)(h:(ob (partsA f parts.toList) fun g=>ob (P.underlying t) (evBuildSlice P m len g))=some r)(K:Rel φ M w)(S:OV φ f o ρ)(Q:φ m.next=none):OpOk P (execOp ρ o) φ M w m.next r.v r.e:=by
 obtain⟨g,A,h⟩:=yg h;obtain⟨d,O,h⟩:=yg h;unfold evBuildSlice at h;split at h
 .rename_i D
  obtain⟨i,E,h⟩:=yg h;obtain⟨z,U,h⟩:=yg h;obtain⟨q,h⟩:=ybi h;obtain⟨l,F,h⟩:=yg h;cases h
  simp only[zG]at q;have L:=zB q.1;have N:=zB q.2;obtain⟨v,X,G,C,Y⟩:=yjs (φ:=φ) U;have y:=ypa (φ:=φ) (ρ:=ρ) A (fun x T=>S x (by rw[n];simpa[Op.operands]using T))
  obtain⟨W,I,J⟩:=ymt y (ybpq Y len) F
  have j:l.length=len*i.size:=by
   have:∀{g:List (Nat×Value)}{cells l:List Value},fillA (fun k=>some (k*i.size,i.size)) cells g=some l->l.length=cells.length:=by
    intro g
    induction g with
    |nil=>intro cells l h;simp[fillA]at h;rw[h]
    | cons p g V =>
      intro cells l h;obtain⟨k,u⟩:=p;unfold fillA at h;simp only at h;rw[zI]at h;split at h
      .rename_i b
       simp only[zG]at b;have H:=zD b.1.1;have Z:=zB b.1.2;rw[V h];simp only[zM,zAR,zAS,H];omega
      .cases h
   rw[this F,yeu,C]
  refine OpOk.row K Q J (v':=.slice (some ⟨w.heap.size,0,none⟩) len len) ?_ (VR.slice (l:=⟨w.heap.size,0,l.length,i.size,none⟩) yuu (zU _) (fun _=>rfl) (by omega) (.inl ⟨rfl,.inr (by simp[j])⟩))
  unfold execOp;rw[n];have B:v.cells.size=i.size:=by rw[<-C,<-G];simp
  have a:(zAP (len*i.size)).map (fun k=>(if len*i.size=0 then #[]else v.cells)[k%(if len*i.size=0 then #[]else v.cells).size]!)=(repl len z).toArray:=by
   by_cases b:len*i.size=0
   .have:repl len z=[]:=zQ (by rw[yeu,C];exact b)
    simp[b,this]
   .simp only[if_neg b];have:=yxf v len;rw[G]at this;rw[<-B];exact this
  have c:Instr.fill (fun k=>some (k*i.size,i.size)) (repl len z).toArray (parts.toList.map fun p=>(p.1,ρ p.2))=some W.toArray:=I;simp only[Instr.buildSlice,zC,run_underlying O,zA,rSO E];rw[if_neg (by omega)]
  by_cases b:len*i.size=0
  .rw[if_pos b];simp only[if_pos b]at a;simp only[zC,zH,zA,a,zAF,c,newRow,newObj,zX,World.alloc_eq]
  .rw[if_neg b];simp only[if_neg b]at a;simp only[zC,yfn E X,zH,zA,a,zAF,c,newRow,newObj,zX,World.alloc_eq]
 .cases h
end
end Ev
end
section
namespace Ev
section
variable {P:Program}{φ:Phi}{M:AM}{w:World}{f:Fr}{o:Oper}{m:Mem}{r:R}{ρ:Operand->Value}{next:Nat}
theorem ypf{t:TypeId}{d:TypeDesc}(h:P.underlying t=some d)(w:World):(isAgg t).run P w = .ok (isAggD d) w:=by
 simp only[isAgg,zC,run_underlying h,zA];cases d<;>rfl
theorem VR.ptr_inv{a:Addr}{v':Value}(h:VR φ (.pointer (some a)) v'):∃l,φ a.block=some l/\a.spot=none/\v' = .pointer (some ⟨l.blk,l.base+a.off,none⟩):=by
 cases h with
 |simple h=>simp[Ev.simple]at h
 |ptr h=>exact⟨_,h,rfl,rfl⟩
theorem ybgc{t:TypeId}{a:Addr}{v:Value}(h:loadA P m t a=some v)(H:Rel φ M w)(J:∀b,m.b.get a.block=some b->M a.block=some b){v':Value}(K:VR φ (.pointer (some a)) v') :
 ∃a' u,v' = .pointer (some a')/\(loadVar t a').run P w = .ok u w/\VR φ v u:=by
 obtain⟨l,I,W,rfl⟩:=K.ptr_inv;unfold loadA at h;split at h
 .rename_i c n e z d i V F E G
  obtain⟨X,N,O,Q,B,S,T,_,C,U,D⟩:=H.cellsAt (J _ F);rw[I]at B;cases B
  refine⟨⟨l.blk,l.base+a.off,none⟩,?_⟩;rw[zI]at h;split at h
  .rename_i g
   rw[zI]at h;split at h
   .rename_i k
    have k:=zB k;split at h
    .rename_i lv x
     cases h
     obtain⟨p,y,A⟩:=cellsRead D x k;refine⟨.agg p.toArray,rfl,?_,VR.agg y⟩;have q:p.length=i.size:=by rw[<-y.length,(yfb x).1]
     have:=run_loadCells_list (P:=P) w ⟨l.blk,l.base+a.off,none⟩ p (fun j u L=>by
      rw[addr_add];exact cell_of C (A j u L))
     simp only[loadVar,zC,ypf E,g,zA,if_true,rSO G];rw[q]at this;simp[this]
    .cases h
   .cases h
  .rename_i g
   rw[zI]at h;split at h
   .rename_i k
    have k:=zO (zO (zAG _) (zB k)) (zU _);obtain⟨u,y,A⟩:=D a.off v k h;refine⟨u,rfl,?_,A⟩;have g:isAggD d=false:=by simpa using g
    simp only[loadVar,zC,ypf E,g,zA];simp[run_load,cell_of C y]
   .cases h
 .cases h
theorem yczy{t:TypeId}{x:Operand}(c:o.op = .load t x)(h:ob (f.get x) (evLoad P t m)=some r)(d:Rel φ M w)(q:OV φ f o ρ)(n:∀i∈r.foot,∀b,m.b.get i=some b->M i=some b):OpOk P (execOp ρ o) φ M w next r.v r.e:=by
 obtain⟨v,y,h⟩:=yg h;have l:=q x (by rw[c];simp[Op.operands]) v y
 unfold evLoad at h;split at h
 .rename_i a
  obtain⟨u,p,h⟩:=yg h;cases h
  obtain⟨A,z,g,j,k⟩:=ybgc p d (n a.block (by simp)) l
  refine OpOk.value d (v':=z) ?_ k;unfold execOp;rw[c];simp[Instr.loadAt,Instr.sureAddr,g,j]
 .cases h
theorem ycos{t:TypeId}{x y:Operand}(p:o.op = .store t x y)(h:(ob (f.get y) fun v=>ob (f.get x) (evStore P t m v))=some r)(L:Rel φ M w)(Q:OV φ f o ρ)(Z:∀i∈r.foot,∀b,m.b.get i=some b->M i=some b):OpOk P (execOp ρ o) φ M w next r.v r.e:=by
 obtain⟨u,hy,h⟩:=yg h;obtain⟨v,hx,h⟩:=yg h;have X:=Q x (by rw[p];simp[Op.operands]) v hx
 have Y:=Q y (by rw[p];simp[Op.operands]) u hy
 unfold evStore at h;split at h
 .rename_i a
  obtain⟨e,g,h⟩:=yg h;cases h
  obtain⟨l,O,hs,D⟩:=X.ptr_inv;unfold storeA at g;split at g
  .rename_i c n H z i k1 k2 k3
   simp only at g;rw[zI]at g;split at g
   .rename_i N
    cases g
    simp only[zG]at N;obtain⟨⟨⟨c1,c2⟩,c3⟩,c4⟩:=N;have c1:=zD c1;have c3:=zB c3;have c4:H≠CU:=fun q=>by rw[q,zAX]at c4;cases c4
    have K:=Z a.block (by simp) _ k2
    obtain⟨l',G,e2,fz,I,T,U,S,J,V,W⟩:=L.cellsAt K;obtain⟨F,q2,q3⟩:=S c4;subst q2;have F:=F.symm;subst F;rw[O]at I;cases I
    have d:=Y.cells;have A:=d.length;have B:=BR.write q3 J T U V W d c3;have j:=L.setRow K O B;have C:l.base+a.off+0+(ρ y).cells.toList.length<=G.toArray.size:=by simp only[List.size_toArray];omega
    have k:=run_storeCells_at (P:=P) l.blk (l.base+a.off) H (ρ y).cells.toList 0 G.toArray w J C (yio d c2);refine⟨φ,_,.skip,?_,rfl,φ.le_refl,fun _ _=>rfl,fun _=>rfl,j.1,j.2⟩;unfold execOp;rw[p];simp only[zAM]at k;have E:(ρ y).cells.size=i.size:=by rw[<-c1,A];simp
    simp only[Instr.storeAt,Instr.sureAddr,D,zC,zH,zA,storeVar,rSO k3,E];simp[k]
   .cases g
  .cases g
 .cases h
theorem ybmk{x:Operand}(b:o.op = .nilCheck x)(h:ob (f.get x) evNilCheck=some r)(g:Rel φ M w)(i:OV φ f o ρ):OpOk P (execOp ρ o) φ M w next r.v r.e:=by
 obtain⟨v,j,h⟩:=yg h;have d:=i x (by rw[b];simp[Op.operands]) v j
 unfold evNilCheck at h;split at h
 .rename_i a
  rw[ygi h];refine OpOk.value g (v':=ρ x) ?_ d;obtain⟨l,k,n,c⟩:=d.ptr_inv;unfold execOp;rw[b];simp[c]
 .cases h
theorem ykm{a:Addr}{k:Nat}(h:addrAt a k=some r):a.spot=none/\r=⟨.pointer (some ⟨a.block,a.off+k,none⟩),.none,[]⟩:=by
 unfold addrAt at h;split at h
 .unfold ptrAt at h;rw[ybo]at h;exact⟨rfl,ygi h⟩
 .cases h
theorem ybie{s:TypeId}{x:Operand}{k:Nat}(b:o.op = .fieldAddr s x k)(h:ob (f.get x) (evFieldAddr P s k)=some r)(t:Rel φ M w)(A:OV φ f o ρ):OpOk P (execOp ρ o) φ M w next r.v r.e:=by
 obtain⟨v,B,h⟩:=yg h;have q:=A x (by rw[b];simp[Op.operands]) v B
 unfold evFieldAddr at h;split at h
 .rename_i a
  obtain⟨d,u,h⟩:=yg h;unfold evFieldAddr1 at h;split at h
  .rename_i c
   obtain⟨p,g,h⟩:=yg h;unfold evField1 at h;obtain⟨i,y,h⟩:=yg h;rw[ybh]at h;split at h
   .cases h
   .rename_i n
    obtain⟨_,h⟩:=ykm h;subst h;obtain⟨l,z,C,j⟩:=q.ptr_inv;refine OpOk.value t (v':=.pointer (some ⟨l.blk,l.base+(a.off+p.offset),none⟩)) ?_ (VR.ptr z);unfold execOp;rw[b];have n:i.size≠0:=fun e=>n (by rw[e];rfl)
    simp only[Instr.fieldAt,zC,run_underlying u,zA,g,j,Instr.sureAddr,zH,fieldPlace,rSO y];rw[if_neg n];simp[addr_add,zT]
  .cases h
 .cases h
theorem ybcy{l r:List Value}{off n:Nat}(h:takeFrom l off n=some r):r=(l.drop off).take n/\r.length=n:=by
 unfold takeFrom at h;simp only at h;rw[zI]at h;split at h
 .rename_i a;cases h;exact⟨rfl,zD a⟩
 .cases h
theorem ybzu{t:TypeId}{e b:List Value}{off:Nat}{v:Value}(h:partA P t e off=some v)(j:VRL φ e b)(w:World):∃v',(part t b.toArray off).run P w = .ok v' w/\VR φ v v':=by
 unfold partA at h;split at h
 .rename_i d i k n
  rw[zI]at h;split at h
  .rename_i a
   split at h
   .rename_i l p
    cases h
    obtain⟨c,g⟩:=ybcy p;subst c;refine⟨.agg ((b.drop off).take i.size).toArray,?_,VR.agg ((j.drop off).take i.size)⟩;simp only[part,zC,ypf k,a,zA,if_true,rSO n,zH];congr 2;apply Array.toList_inj.1;simp[zAC]
   .cases h
  .rename_i a
   obtain⟨v',c,g⟩:=j.get h;refine⟨v',?_,g⟩;have a:isAggD d=false:=by simpa using a
   simp only[part,zC,ypf k,a,zA];simp[c]
 .cases h
theorem VR.agg_inv{b:Array Value}{v':Value}(h:VR φ (.agg b) v'):∃a:List Value,v' = .agg a.toArray/\VRL φ b.toList a:=by
 generalize e:Value.agg b=v at h
 cases h with
 |simple h=>subst e;simp[Ev.simple]at h
 |agg c=>cases e;exact⟨_,rfl,by simpa using c⟩
 |_=>cases e
theorem VR.tuple_inv{b:Array Value}{v':Value}(h:VR φ (.tuple b) v'):∃a:List Value,v' = .tuple a.toArray/\VRL φ b.toList a:=by
 generalize e:Value.tuple b=v at h
 cases h with
 |simple h=>subst e;simp[Ev.simple]at h
 |tuple c=>cases e;exact⟨_,rfl,by simpa using c⟩
 |_=>cases e
theorem ycnn{t:TypeId}{x:Operand}{k:Nat}(a:o.op = .field t x k)(h:ob (f.get x) (evFieldOf P t k)=some r)(q:Rel φ M w)(A:OV φ f o ρ):OpOk P (execOp ρ o) φ M w next r.v r.e:=by
 obtain⟨v,B,h⟩:=yg h;have p:=A x (by rw[a];simp[Op.operands]) v B
 unfold evFieldOf at h;split at h
 .rename_i C
  obtain⟨d,y,h⟩:=yg h;unfold evFieldOf1 at h;split at h
  .rename_i b
   obtain⟨D,c,h⟩:=yg h;obtain⟨u,z,h⟩:=yg h;rw[ygi h];obtain⟨g,i,j⟩:=p.agg_inv;obtain⟨v',l,n⟩:=ybzu z j w;refine OpOk.value q (v':=v') ?_ n;unfold execOp;rw[a];simp only[Instr.field,zC,run_underlying y,zA,c,i,asAgg,zH,l]
  .cases h
 .cases h
theorem ybsv{x:Operand}{k:Nat}(a:o.op = .extract x k)(h:ob (f.get x) (evExtract k)=some r)(n:Rel φ M w)(q:OV φ f o ρ):OpOk P (execOp ρ o) φ M w next r.v r.e:=by
 obtain⟨v,t,h⟩:=yg h;have l:=q x (by rw[a];simp[Op.operands]) v t
 unfold evExtract at h;split at h
 .rename_i y
  obtain⟨u,p,h⟩:=yg h;rw[ygi h];obtain⟨b,c,d⟩:=l.tuple_inv;obtain⟨v',g,j⟩:=d.get (i:=k) (v:=u) (by simpa using p)
  refine OpOk.value n (v':=v') ?_ j;unfold execOp;rw[a];simp[Instr.extract,c,g]
 .cases h
theorem ybke{fn:Fn}{first c:Array Operand}(d:o.op = .makeFunc fn first c)(h:(ob (valsA f first.toList) fun a=>ob (valsA f c.toList) fun b=>evMakeFunc a b fn)=some r)(t:Rel φ M w)(k:OV φ f o ρ):OpOk P (execOp ρ o) φ M w next r.v r.e:=by
 obtain⟨a,u,j⟩:=yg h
 clear h
 obtain⟨b,y,h⟩:=yg j
 clear j
 unfold evMakeFunc at h;split at h
 .rename_i g
  rw[ygi h];have p:=yej (φ:=φ) (ρ:=ρ) u (fun x i=>k x (by rw[d];simp[Op.operands];exact .inl (by simpa using i)))
  have q:=yej (φ:=φ) (ρ:=ρ) y (fun x i=>k x (by rw[d];simp[Op.operands];exact .inr (by simpa using i)))
  refine OpOk.value t (v':=.func (.func g) (first.toList.map ρ).toArray (c.toList.map ρ).toArray) ?_ (VR.func p q)
  unfold execOp;rw[d];have l:zBB ρ first=(first.toList.map ρ).toArray:=by apply Array.toList_inj.1;simp
  have n:zBB ρ c=(c.toList.map ρ).toArray:=by apply Array.toList_inj.1;simp
  simp[Instr.makeFunc,l,n]
 .cases h
theorem VR.slice_inv{a:Addr}{n c:Nat}{v':Value}(h:VR φ (.slice (some a) n c) v'):∃l A b,φ a.block=some l/\a.spot=none/\v' = .slice (some A) n b/\n<=b/\(c≠CU->b=c)/\b<=9223372036854775807 /\
 ((A=⟨l.blk,l.base+a.off,none⟩/\(l.sz=0\/l.base+a.off+b*l.sz<=l.size))\/b=0):=by
 cases h with
 |simple h=>simp[Ev.simple]at h
 |slice d e g i j=>exact⟨_,_,_,d,rfl,rfl,e,g,i,j⟩
theorem ybjp{t:TypeId}{x k:Operand}(g:o.op = .indexAddr t x k)(h:(ob (f.get x) fun x=>ob (f.get k) (evIndexAddr P t x))=some r)(G:Rel φ M w)(I:OV φ f o ρ):OpOk P (execOp ρ o) φ M w next r.v r.e:=by
 obtain⟨v,N,C⟩:=yg h
 clear h
 obtain⟨u,hk,h⟩:=yg C
 clear C
 have F:=I x (by rw[g];simp[Op.operands]) v N
 have L:=I k (by rw[g];simp[Op.operands]) u hk
 unfold evIndexAddr at h;split at h
 .rename_i V i
  have E:=L.eq_simple rfl;obtain⟨d,H,C⟩:=yg h
  clear h
  rename evIndex1 P v i d=some r=>h
  unfold evIndex1 at h;split at h
  .rename_i n
   split at h
   .rename_i a len J
    unfold evIndex2 at h;obtain⟨c,p⟩:=ybi h;obtain⟨j,b,q⟩:=yg p;obtain⟨_,D⟩:=ykm q
    clear h p q
    subst D;have c:i<len:=zO (zAG _) (zB c);obtain⟨l,A,O,z,K,B,Q,S,T,y⟩:=F.slice_inv;rcases y with⟨y,U⟩|y
    .refine OpOk.value G (v':=.pointer (some ⟨l.blk,l.base+(a.off+i*j.size),none⟩)) ?_ (VR.ptr z);unfold execOp;rw[g];simp only[Instr.indexAt,E,asIntOf,zC,zH,zA,run_underlying H,B,y];rw[if_pos (by simp;omega)]
     simp[rSO b,addr_add,zT]
    .omega
   .cases h
  .rename_i len n
   split at h
   .rename_i a
    unfold evIndex2 at h;obtain⟨c,p⟩:=ybi h;obtain⟨j,b,q⟩:=yg p;obtain⟨_,D⟩:=ykm q
    clear h p q
    subst D;have c:i<len:=zO (zAG _) (zB c);obtain⟨l,z,K,B⟩:=F.ptr_inv;refine OpOk.value G (v':=.pointer (some ⟨l.blk,l.base+(a.off+i*j.size),none⟩)) ?_ (VR.ptr z);unfold execOp;rw[g];simp only[Instr.indexAt,E,asIntOf,zC,zH,zA,run_underlying H,B,Instr.sureAddr];rw[if_pos (by simp;omega)]
    simp[rSO b,addr_add,zT]
   .cases h
  .cases h
 .cases h
end
end Ev
end
section
namespace Ev
section
variable {P:Program}{φ:Phi}{M:AM}{w:World}{f:Fr}{o:Oper}{m:Mem}{r:R}{ρ:Operand->Value}{next:Nat}
theorem ybgn{t:TypeId}{x y:Operand}(g:o.op = .makeSlice t x y)(h:(ob (f.get x) fun l=>ob (f.get y) (evMakeSlice P t m l))=some r)(S:Rel φ M w)(C:OV φ f o ρ)(V:φ m.next=none):OpOk P (execOp ρ o) φ M w m.next r.v r.e:=by
 obtain⟨v,W,b⟩:=yg h
 clear h
 obtain⟨u,X,h⟩:=yg b
 clear b
 have K:=C x (by rw[g];simp[Op.operands]) v W
 have L:=C y (by rw[g];simp[Op.operands]) u X
 unfold evMakeSlice at h;split at h
 .rename_i k1 l k2 c
  have H:=K.eq_simple rfl;have I:=L.eq_simple rfl;obtain⟨d,U,b⟩:=yg h
  clear h
  unfold evMakeSlice1 at b;split at b
  .rename_i B
   obtain⟨i,q,N⟩:=yg b;obtain⟨z,Y,O⟩:=yg N;obtain⟨n,Q⟩:=ybi O;cases Q
   simp only[zG]at n;have F:=zB n.1.1;have G:=zB n.1.2;have b3:=zB n.2;obtain⟨E,z1,D,A,z4⟩:=yjs (φ:=φ) Y;have k:E.cells.size=i.size:=by rw[<-A,<-D];simp
   refine OpOk.row S V (ybpq z4 c) (v':=.slice (some ⟨w.heap.size,0,none⟩) l c) ?_ (VR.slice (l:=⟨w.heap.size,0,(repl c z).length,i.size,none⟩) yuu F (fun _=>rfl) (by omega) (.inl ⟨rfl,.inr (by simp[yeu,A])⟩))
   unfold execOp;rw[g];have wl:IntKind.i64.wrap (zBC l)=l:=IntWalk.i64_in _ (by simp;omega)
   have Z:IntKind.i64.wrap (zBC c)=c:=IntWalk.i64_in _ (by simp;omega)
   have T:((i.bytes:Int)*(c:Int))<=1000000:=by rw[<-Int.natCast_mul];exact Int.ofNat_le.2 G
   simp only[Instr.makeSlice,H,I,zC,run_underlying U,zA,asInt,asIntOf,zH,rTI q,wl,Z];rw[if_neg (by rw[show((2:Int)^48)=281474976710656 from rfl];simp only[zAU,decide_eq_true_eq];omega)]
   have j:(askRoom (c*i.bytes)).run P w = .ok () w:=by
    unfold askRoom;rw[if_neg (by rw[Nat.mul_comm,show roomBytes=140737488355328 from rfl];omega)]
    rfl
   simp only[zC,Int.toNat_natCast,j,zA,rSO q];have a:=yxf E c;rw[D,k]at a
   by_cases p:c*i.size=0
   .have:repl c z=[]:=zQ (by rw[yeu,A];exact p)
    rw[if_pos p];have J:(zAP 0).map (fun(x:Nat)=>(#[]:Array Value)[x%(#[]:Array Value).size]!) = #[]:=by simp
    simp only[zC,zH,zA,p,J,this,newRow,newObj,zX,World.alloc_eq]
   .rw[if_neg p];simp only[zC,yfn q z1,zH,zA,k,a,newRow,newObj,zX,World.alloc_eq]
  .cases b
 .cases h
theorem yjv{v:Option Value}{d a n:Nat}(h:natIn v d a=some n):(v=none/\n=d)\/(∃k,v=some (.int k (.ofNat n))/\n<=a):=by
 unfold natIn at h;split at h
 .cases h;exact .inl ⟨rfl,rfl⟩
 .rename_i k c
  rw[zI]at h;split at h
  .rename_i b;cases h;exact .inr ⟨k,rfl,zB b⟩
  .cases h
 .cases h
theorem yna{isS:Bool}{len cap:Nat}{t p:Option Value}{l h:Nat}(i:len<=cap)(j:natIn p len len=some h)(q:natIn t 0 h=some l)(w:World) :
 (Instr.sliceBounds isS len cap t p none).run P w = .ok (l,h,cap) w/\l<=h/\h<=len:=by
 have a:h<=len:=by
  rcases yjv j with⟨_,e⟩|⟨k,_,e⟩<;>omega
 have d:l<=h:=by
  rcases yjv q with⟨_,e⟩|⟨k,_,e⟩<;>omega
 refine⟨?_,d,a⟩
 have b:∀(k:IntKind) (n y:Nat) (c:BoundsCode),n<=y->(Instr.sliceBound (.int k (n:Int)) y c).run P w = .ok n w:=by
  intro k n y c u;simp only[Instr.sliceBound,asIntOf,zC,zH,zA];rw[if_pos ⟨by simp,by simpa using u⟩]
  rfl
 rcases yjv j with⟨rfl,rfl⟩|⟨k,rfl,e⟩<;>rcases yjv q with⟨rfl,rfl⟩|⟨x,rfl,g⟩
 .simp[Instr.sliceBounds]
 .simp[Instr.sliceBounds,b _ _ _ _ g]
 .simp[Instr.sliceBounds,b _ _ _ _ (zAL e i)]
 .simp[Instr.sliceBounds,b _ _ _ _ (zAL e i),b _ _ _ _ g]
theorem ybpg{g:Option Operand}{i:List Value}(h:valsA f g.toList=some i)(l:∀x∈g.toList,∀v,f.get x=some v->VR φ v (ρ x))(d j n:Nat)(c:natIn i.head? d j=some n):natIn (g.map ρ) d j=some n:=by
 cases g with
 |none=>simp[valsA]at h;subst h;exact c
 | some x =>
   have:=yej h l;cases i with
   |nil=>cases this
   | cons v i =>
     cases this with
     | cons a b =>
       simp only[List.head?_cons]at c;unfold natIn at c ⊢;split at c
       .rename_i e;cases e
       .rename_i k q e
        cases e
        have:=a.eq_simple rfl;simp only[Option.map_some,this];exact c
       .cases c
theorem yiz{a:Addr}{z b len:Nat}{j i:Option Value}{cap:Nat->Nat}(h:sliceA1 a z b len j i cap=some r) :
 (z=b\/z=0)/\∃d c,natIn i len len=some d/\natIn j 0 d=some c/\r=⟨.slice (some ⟨a.block,a.off+c*b,none⟩) (d-c) (cap c),.none,[a.block]⟩:=by
 unfold sliceA1 at h;obtain⟨g,n⟩:=ybi h;obtain⟨d,k,p⟩:=yg n;obtain⟨c,l,e⟩:=yg p;unfold sliceA2 at e;rw[ybo,ybo]at e;simp only[zG,zAU]at g;refine⟨g.2.imp zD zD,d,c,k,l,?_⟩;cases e
 rfl
theorem Rel.szAt(k:Rel φ M w){i z:Nat}{l:Loc}(q:∀b,m.b.get i=some b->M i=some b)(p:φ i=some l)(h:ob (m.b.get i) szOf=some z):l.sz=z:=by
 obtain⟨b,j,d⟩:=yg h;cases b with
 |map y t=>cases d
 | cells c n e C =>
   cases d
   obtain⟨B,u,x,A,a,g,_⟩:=k.cellsAt (q _ j);rw[p]at a;cases a
   exact g
theorem ok_slice{t:TypeId}{x:Operand}{S hi:Option Operand}(B:o.op = .slice t x S hi none)(h:(ob (f.get x) fun x=>ob (valsA f S.toList) fun S=>ob (valsA f hi.toList) (evSlice P t m x S))=some r)(K:Rel φ M w)(hv:OV φ f o ρ)(hm:∀i∈r.foot,∀b,m.b.get i=some b->M i=some b):OpOk P (execOp ρ o) φ M w next r.v r.e:=by
 obtain⟨v,hx,O⟩:=yg h
 clear h
 obtain⟨a7,a3,h⟩:=yg O
 clear O
 obtain⟨a6,a2,O⟩:=yg h
 clear h
 obtain⟨d,U,I⟩:=yg O
 clear O
 have T:=hv x (by rw[B];simp[Op.operands]) v hx
 have V:=ybpg (φ:=φ) (ρ:=ρ) a3 (fun y Q=>hv y (by rw[B];simp[Op.operands]at Q ⊢;simp[Q]))
 have W:=ybpg (φ:=φ) (ρ:=ρ) a2 (fun y Q=>hv y (by rw[B];simp[Op.operands]at Q ⊢;simp[Q]))
 have q:∀v',(Instr.sliceAt t (ρ x) (S.map ρ) (hi.map ρ) none).run P w = .ok v' w->(execOp ρ o).run P w = .ok (.value v') w:=by
  intro v' hr;unfold execOp;rw[B];simp[hr]
 unfold sliceA at I;split at I
 .rename_i s
  have e1:=T.eq_simple rfl;obtain⟨u,g,E⟩:=yg I;obtain⟨c,j,F⟩:=yg E;cases F
  obtain⟨C,Y,Z⟩:=yna (P:=P) (isS:=false) (zU s.size) (W _ _ _ g) (V _ _ _ j) w;refine OpOk.value K (v':=.string (s.extract c u)) (q _ ?_) ?_
  .simp only[Instr.sliceAt,Instr.slice,e1,zC,run_underlying U,zA];simp[C]
  .have:s.extract c u=⟨((s.data.toList.drop c).take (u-c)).toArray⟩:=by
    apply ByteArray.ext;rw[ByteArray.data_extract];apply Array.toList_inj.1;simp[zAC]
   rw[this];exact .simple rfl
 .rename_i L a len a0
  obtain⟨i,p,E⟩:=yg I;obtain⟨z,J,F⟩:=yg E;obtain⟨hz,u,c,g,j,rfl⟩:=yiz F;obtain⟨l,A,D,N,g2,g3,g4,g5,g6,g7⟩:=T.slice_inv;obtain⟨C,Y,Z⟩:=yna (P:=P) (isS:=true) g4 (W _ _ _ g) (V _ _ _ j) w;have H:l.sz=i.size\/l.sz=0:=by rw[K.szAt (hm a.block (by simp)) N J];exact hz
  refine OpOk.value K (v':=.slice (if D=c then some A else(some A).map (·.add (c*i.size))) (u-c) (D-c)) (q _ ?_) ?_
  .simp only[Instr.sliceAt,Instr.slice,g3,zC,run_underlying U,zA,C,rSO p,zH]
  .have hA : ∃X,(if D=c then some A else(some A).map (·.add (c*i.size)))=some X/\((X=⟨l.blk,l.base+(a.off+c*i.size),none⟩/\(l.sz=0\/l.base+(a.off+c*i.size)+(D-c)*l.sz<=l.size))\/D-c=0):=by
    by_cases e:D=c
    .rw[if_pos e];exact⟨A,rfl,.inr (by omega)⟩
    .rw[if_neg e];rcases g7 with⟨rfl,g8⟩|g7
     .refine⟨_,rfl,.inl ⟨(addr_add _ _ _).trans (by simp[zT]),?_⟩⟩
      rcases H with e2|e2
      .refine g8.imp id fun g8=>?_;rw[e2]at g8 ⊢;rw[Nat.sub_mul];have:c*i.size<=D*i.size:=zAJ _ (by omega)
       omega
      .exact .inl e2
     .omega
   obtain⟨X,q1,q2⟩:=hA;rw[q1];refine VR.slice N (by omega) (fun a4=>?_) (by omega) q2
   by_cases G:a0=CU
   .exact absurd (by unfold capA;rw[G];rfl) a4
   .rw[g5 G];unfold capA;rw[ybh,if_neg (fun e=>G (zD e))];rfl
 .obtain⟨i,p,a1⟩:=yg I;obtain⟨u,g,E⟩:=yg a1;obtain⟨c,j,F⟩:=yg E;cases F
  have e1:=T.eq_simple rfl;have h0:u=0:=by rcases yjv g with⟨_,e⟩|⟨k,_,e⟩<;>omega
  subst h0;obtain⟨C,Y,Z⟩:=yna (P:=P) (isS:=true) (zU 0) (W _ _ _ g) (V _ _ _ j) w;have h0:c=0:=by omega
  subst h0;refine OpOk.value K (v':=.slice none 0 0) (q _ ?_) (.simple rfl);simp only[Instr.sliceAt,Instr.slice,e1,zC,run_underlying U,zA,C,rSO p,zH];rfl
 .rename_i len L a
  obtain⟨i,p,E⟩:=yg I;obtain⟨z,J,F⟩:=yg E;obtain⟨n,h4⟩:=ybi F;simp only[zG]at n;obtain⟨hz,u,c,g,j,rfl⟩:=yiz h4;have a5:=zD n.1;have n:=zB n.2;obtain⟨l,N,g2,g3⟩:=T.ptr_inv;obtain⟨C,Y,Z⟩:=yna (P:=P) (isS:=false) (zU len) (W _ _ _ g) (V _ _ _ j) w;have H:l.sz=0:=by rw[K.szAt (hm a.block (by simp)) N J];exact a5
  refine OpOk.value K (v':=.slice (some (if len=c then⟨l.blk,l.base+a.off,none⟩else(⟨l.blk,l.base+a.off,none⟩:Addr).add (c*i.size))) (u-c) (len-c)) (q _ ?_) ?_
  .simp only[Instr.sliceAt,g3,Instr.sureAddr,zC,run_underlying U,zA,C,rSO p,zH]
  .refine VR.slice N (by omega) (fun _=>rfl) (by omega) ?_
   by_cases e:len=c
   .exact .inr (by omega)
   .rw[if_neg e];exact .inl ⟨(addr_add _ _ _).trans (by simp[zT]),.inl H⟩
 .cases I
end
end Ev
end
section
namespace Ev
section
variable {P:Program}{φ:Phi}{M:AM}{w:World}{f:Fr}{o:Oper}{m:Mem}{r:R}{ρ:Operand->Value}{next:Nat}
theorem Rel.heap{a:World}(b:Rel φ M w)(h:a.heap=w.heap):Rel φ M a:=b.keep fun k _=>by rw[h]
theorem WG.drew_left{a:Phi}{b:AM}{c:World}(h:WG φ M w.drew a b c):WG φ M w a b c:=⟨h.os,h.tape,h.output,h.size,h.keep,h.img⟩
theorem ybsk{g:Nat}{x B:Value}{q:List Value×List Nat}(h:rowOf m g x=some q)(O:VR φ x B)(I:Rel φ M w)(L:∀i∈q.2,∀b,m.b.get i=some b->M i=some b)(p:lenA x≠0) :
 ∃a c d,B = .slice (some a) (lenA x) c/\VRL φ q.1 d/\q.1.length=lenA x*g/\∀j v,d[j]?=some v->w.cell? (a.add j)=some v:=by
 unfold rowOf at h;split at h
 .simp[lenA]at p
 .rename_i a len D
  split at h
  .cases h
  .rename_i hs
   rw[zI]at h;split at h
   .rename_i K
    exact absurd (zD K) p
   .split at h
    .rename_i c n e z J
     rw[zI]at h;split at h
     .rename_i t
      have t:=zB t;split at h
      .rename_i l u
       cases h
       have H:=L a.block (by simp) _ J
       obtain⟨lc,U,V,W,E,X,Y,_,F,Z,G⟩:=I.cellsAt H;obtain⟨l',A,C,y,k2,Q,k4,k5,k6,k⟩:=O.slice_inv;rw[E]at y;cases y
       rcases k with⟨k,_⟩|k
       .obtain⟨d,S,T⟩:=cellsRead G u t;refine⟨A,C,d,Q,S,(yfb u).1,fun j v N=>?_⟩;rw[k,addr_add];exact cell_of F (T j v N)
       .simp only[lenA]at p;omega
      .cases h
     .cases h
    .cases h
 .cases h
theorem ycg{k:Nat}{e:Eff}{ft:List Nat}(h:appRes m k e ft=some r):r=⟨.slice (some ⟨m.next,0,none⟩) k CU,e,ft⟩:=by
 unfold appRes at h;rw[ybo]at h;cases h
 rfl
theorem ybhp (q:Rel φ M w) (g:φ next=none) {s:Sem Next}{elem need cap sz:Nat}{all' rest:List Value}
 (A:s.run P w = .ok (.value (.slice (some ⟨w.heap.size,0,none⟩) need cap)) (w.drew.alloc (.cells (all'++rest).toArray elem)))
 (k:need<=cap) (p:cap<=9223372036854775807) (D:all'.length+rest.length=cap*sz) {c:T Value}{n:Nat}(E:n=all'.length) (t:∀j v,j<n->c.get j=some v->∃v',all'[j]?=some v'/\VR φ v v') :
 OpOk P s φ M w next (.slice (some ⟨next,0,none⟩) need CU) (.new (.cells c n elem sz)):=by
 have a:=yjz (l:=⟨w.heap.size,0,cap*sz,sz,none⟩) g;have d:Rel φ M w.drew:=q.heap rfl
 have e:BR (yhn φ next ⟨w.heap.size,0,cap*sz,sz,none⟩) ⟨w.heap.size,0,cap*sz,sz,none⟩ (w.drew.alloc (.cells (all'++rest).toArray elem)) (.cells c n elem sz):=by
  refine⟨rfl,by show 0+n<=cap*sz;omega,all'++rest,elem,(0,0),⟨fun _=>⟨rfl,rfl,rfl⟩,fun o z=>(by cases z)⟩,yko w.drew _,by show _=cap*sz;simp;omega,fun j v y u=>?_⟩
  obtain⟨v',B,C⟩:=t j v y u;refine⟨v',?_,C.mono a⟩;show(all'++rest)[0+j]?=_;rw[zAE,zJ (by omega)]
  exact B
 have:=d.new (l:=⟨w.heap.size,0,cap*sz,sz,none⟩) (b:=.cells c n elem sz) (o:=.cells (all'++rest).toArray elem) g rfl e;refine⟨_,_,_,A,?_,a,fun i x=>ydj _ x,fun h=>(by cases h),this.1,this.2.drew_left⟩
 exact VR.slice (ycq _ _) k (fun h=>absurd rfl h) p (.inl ⟨rfl,.inr (by simp)⟩)
theorem ycna (g:Rel φ M w) (i:φ next=none) {s:Sem Next}{elem need cap sz:Nat}{all all' rest:List Value}(a:VRL φ all all')
 (q:s.run P w = .ok (.value (.slice (some ⟨w.heap.size,0,none⟩) need cap)) (w.drew.alloc (.cells (all'++rest).toArray elem)))
 (b:need<=cap) (d:cap<=9223372036854775807) (e:all.length+rest.length=cap*sz) {c:T Value}{n:Nat}(p:n=all.length) (h:∀j v,j<n->c.get j=some v->all[j]?=some v) :
 OpOk P s φ M w next (.slice (some ⟨next,0,none⟩) need CU) (.new (.cells c n elem sz)) :=
 ybhp g i q b d (by rw[<-a.length];exact e) (by rw[<-a.length];exact p) fun j v l k=>a.get (h j v l k)
theorem OpOk.move_of_new{s:Sem Next}{i:Nat}{b:ABlk}{v:Value}(h:OpOk P s φ M w next v (.new b)):OpOk P s φ M w next v (.move i b):=by
 obtain⟨c,u,t,g,k,l,n,y,p,q⟩:=h
 have d:∀j x,appM M next (.move i b) j=some x->appM M next (.new b) j=some x:=by
  intro j x a;simp only[appM,upd]at a ⊢;split at a
  .rename_i e;rw[if_pos e];exact a
  .rename_i e
   rw[if_neg e];split at a
   .cases a
   .exact a
 exact⟨c,u,t,g,k,l,n,fun h=>(by cases h),p.sub d,q.sub d⟩
theorem ycno (E:Rel φ M w) (N:φ next=none) {s:Sem Next}{i:Nat}{b K:ABlk}{l l':Loc}{F:Array Value}{v v':Value}(I:M i=some b) (B:φ i=some l) (t:l'.blk=l.blk)
 (J:BR (yhn φ next l') l' (w.setRow l.blk F) K) (U:VR (yhn φ next l') v v') (T:s.run P w = .ok (.value v') (w.setRow l.blk F)) :
 OpOk P s φ M w next v (.move i K):=by
 have C:=yjz (l:=l') N;have Q:i≠next:=fun e=>by subst e;rw[N]at B;cases B
 have u:∀j x,j≠i->j≠next->M j=some x->∃n,φ j=some n/\n.blk≠l.blk/\BR (yhn φ next l') n (w.setRow l.blk F) x:=fun j x O Y a=>by
  obtain⟨n,p,z⟩:=E.blk j x a;have:=E.inj j i x b n l O a I p B;exact⟨n,p,this,(z.mono C).keep (setRow_other w _ _ _ this)⟩
 refine⟨_,_,_,T,U,C,fun j d=>ydj _ d,fun h=>(by cases h),Rel0.step E ⟨⟨fun j x a=>?_,fun j k x y n Z D a g d hk=>?_⟩,
  ⟨rfl,rfl,rfl,by simp,fun k hk S=>setRow_other w _ _ _ (fun e=>S ⟨i,b,l,I,B,e.symm⟩),fun k hk h=>?_⟩⟩⟩
 .simp only[appM,upd]at a
  by_cases e:j=next
  .subst e;rw[if_pos rfl]at a;cases a;exact⟨l',ycq _ _,J⟩
  .rw[if_neg e]at a
   by_cases c:j=i
   .rw[if_pos c]at a;cases a
   .rw[if_neg c]at a;obtain⟨n,p,z,V⟩:=u j x c e a;exact⟨n,by rw[ydj _ e];exact p,V⟩
 .simp only[appM,upd]at a g
  by_cases e:j=next
  .subst e;rw[ycq]at d;cases d
   have G:k≠j:=fun q=>D q.symm;rw[if_neg G]at g
   by_cases c:k=i
   .rw[if_pos c]at g;cases g
   .rw[if_neg c]at g;obtain⟨X,p,z,_⟩:=u k y c G g;rw[ydj _ G,p]at hk;cases hk
    rw[t];exact fun q=>z q.symm
  .rw[if_neg e]at a
   by_cases c:j=i
   .rw[if_pos c]at a;cases a
   .rw[if_neg c]at a;obtain⟨W,p,z,_⟩:=u j x c e a;rw[ydj _ e,p]at d;cases d
    by_cases H:k=next
    .subst H;rw[ycq]at hk;cases hk;rw[t];exact z
    .rw[if_neg H]at g
     by_cases L:k=i
     .rw[if_pos L]at g;cases g
     .rw[if_neg L]at g;rw[ydj _ H]at hk;exact E.inj j k x y _ _ D a g p hk
 .obtain⟨j,x,n,a,d,A⟩:=h;simp only[appM,upd]at a
  by_cases e:j=next
  .subst e;rw[ycq]at d;cases d;exact⟨i,b,l,I,B,by rw[<-t];exact A⟩
  .rw[if_neg e]at a
   by_cases c:j=i
   .rw[if_pos c]at a;cases a
   .rw[if_neg c]at a;rw[ydj _ e]at d;exact⟨j,x,n,a,d,A⟩
theorem yri {t ty e:TypeId}{i:TypeInfo}(y:P.underlying t=some (.slice e)) (u:P.info? e=some i) {blk off sLen sCap:Nat}{a:Addr}{n c:Nat}{new b:List Value}(x:new.length=n*i.size)
 (g:∀j v,new[j]?=some v->w.cell? (a.add j)=some v) (h:∀v∈new,v.oneCell'=true) (l:sLen+n<=sCap) (q:w.heap[blk]?=some (.cells b.toArray e (0,0))) (d:off+sLen*i.size+new.length<=b.length) :
 (Builtin.append_ #[t,t] ty #[.slice (some ⟨blk,off,none⟩) sLen sCap,.slice (some a) n c]).run P w =
   .ok (.slice (some ⟨blk,off,none⟩) (sLen+n) sCap) (w.setRow blk (b.take (off+sLen*i.size)++new++b.drop (off+sLen*i.size+new.length)).toArray):=by
 have p:=run_firstCells_some (P:=P) w i.size n a n c new x g;have k:=run_storeCells_at (P:=P) blk (off+sLen*i.size) e new 0 b.toArray w q (by simpa using d) h
 simp only[zAM]at k;simp[Builtin.append_,run_underlying y,rSO u,Builtin.lenOf,l,p,addr_add,k]
end
end Ev
end
section
namespace Ev
section
variable {P:Program}{φ:Phi}{M:AM}{w:World}{f:Fr}{o:Oper}{m:Mem}{r:R}{ρ:Operand->Value}{next:Nat}
theorem ybyc{z:Value}{i:TypeInfo}(h:z.cells.size=i.size)(n:Nat):(Builtin.zeroCells z.cells n).toList.length=n*i.size:=by
 have:=size_zeroCells z.cells n;rw[h]at this
 simpa using this
theorem ybrq {t ty elem:TypeId}{i:TypeInfo}{zv:Value}(ht:P.underlying t=some (.slice elem)) (hi:P.info? elem=some i) (hz:i.zero=some zv) (b9:zv.cells.size=i.size)
 {a:Addr}{sLen sCap d:Nat}{new p:List Value}{fx:List Nat}{b:ABlk}(h:appSome m i elem a sLen (sLen+d) sCap new fx b=some r)
 (hb:m.b.get a.block=some b) (hm:∀j∈r.foot,∀b,m.b.get j=some b->M j=some b) (hR:Rel φ M w) (hf:r.e.adds=true->φ m.next=none) {s':Value}(hs:VR φ (.slice (some a) sLen sCap) s')
 {xa:Addr}{xc:Nat}(a0:new.length=d*i.size) (O:VRL φ new p) (a8:∀j v,p[j]?=some v->w.cell? (xa.add j)=some v) (a5:allGood new=true)
 (h1:(sLen+d)*i.bytes<=100000000) (h2:sLen+d<=100000000) (h0:d≠0) {s:Sem Next}
 (a3:∀v' w',(Builtin.append_ #[t,t] ty #[s',.slice (some xa) d xc]).run P w = .ok v' w'->s.run P w = .ok (.value v') w') :
 OpOk P s φ M w m.next r.v r.e:=by
 obtain⟨l,A,E,k1,k2,k3,k4,k5,k6,K⟩:=hs.slice_inv;subst k3;have x:p.length=d*i.size:=by rw[<-O.length];exact a0
 have a1:=yio O a5;unfold appSome at h;split at h
 .rename_i c n e z
  obtain⟨hc,B⟩:=ybi h
  clear h
  simp only[zG,zAB]at hc;obtain⟨⟨⟨⟨⟨c1,c2⟩,c3⟩,c4⟩,c5⟩,c6⟩:=hc;have c6:e≠CU:=fun q=>by rw[q,zAX]at c6;cases c6
  have c1:=zD c1;have c2:=zD c2;have c3:z≠0:=fun q=>by rw[q]at c3;cases c3
  have c4:=zB c4;subst c1;subst c2;have b2:a.spot=none:=k2
  have a2:M a.block=some (.cells c n e i.size):=hm a.block (by
   rw[ybh]at B;split at B
   .unfold appIn at B;obtain⟨_,N⟩:=ybi B;rw[ybo]at N;cases N
    simp
   .unfold appOut at B;rw[ybh]at B;split at B
    .rw[ycg B];simp
    .obtain⟨I,_,N⟩:=yg B;rw[ycg N];simp) _ hb
  obtain⟨l',cs,e2,fz,g1,g2,g3,g0,g4,g5,g6⟩:=hR.cellsAt a2;obtain⟨q1,q2,q3⟩:=g0 c6;subst q2;have q1:=q1.symm;subst q1;rw[k1]at g1;cases g1
  rw[ybh]at B;split at B
  ·-- room that is known
   rename_i y
   simp only[zG,zAB]at y;have r1:=zB y.1;have r2:sCap≠CU:=fun q=>by rw[q]at y;exact absurd y.2 (by decide)
   unfold appIn at B;obtain⟨C,N⟩:=ybi B;rw[ybo]at N;cases N
   simp only[zG]at C;have a4:=zB C.1;have ec:=k5 r2;subst ec;rcases K with⟨rfl,K⟩|K
   .have D:=yri (P:=P) (ty:=ty) ht hi (c:=xc) (blk:=l.blk) (off:=l.base+a.off) (sLen:=sLen) (sCap:=E) x a8 a1 r1 g4 (by rw[x,<-a0];omega)
    have b6:=BR.write q3 g4 g2 g3 g5 g6 O (o:=a.off+sLen*i.size) a4;have U:=hR.setRow a2 k1 b6;rw[show l.base+(a.off+sLen*i.size)=l.base+a.off+sLen*i.size by omega]at U
    refine⟨φ,_,.value (.slice (some ⟨l.blk,l.base+a.off,none⟩) (sLen+d) E),a3 _ _ D,?_,φ.le_refl,fun _ _=>rfl,fun _=>rfl,U.1,U.2⟩;have:a=⟨a.block,a.off,none⟩:=by cases a;simp at b2;simp[b2]
    show VR φ (.slice (some a) (sLen+d) E) _;rw[this];exact VR.slice k1 r1 (fun _=>rfl) k6 (.inl ⟨rfl,K⟩)
   .omega
  .rename_i y
   have c0:l.base+a.off+sLen*i.size<=cs.length:=by omega
   obtain⟨g,H⟩:∃g,(cs.drop (l.base+a.off)).take (sLen*i.size)=g:=⟨_,rfl⟩;have k:g.length=sLen*i.size:=by rw[<-H];simp;omega
   have o2:∀j v,g[j]?=some v->cs[l.base+a.off+j]?=some v:=fun j v V=>by
    rw[<-H,zAN]at V;split at V
    .rwa [zZ]at V
    .cases V
   have o3:∀j v,j<sLen*i.size->cs[l.base+a.off+j]?=some v->g[j]?=some v:=fun j v hj V=>by
    rw[<-H,zAN,if_pos hj,zZ];exact V
   have hf:φ m.next=none:=hf (by
    unfold appOut at B;rw[ybh]at B;split at B
    .rw[ycg B];rfl
    .obtain⟨I,Q,N⟩:=yg B;rw[ycg N];simp only[ybh];split<;>rfl)
   have grow:E<sLen+d->∀(c2:T Value) (L:Nat),L=(g++p).length->(∀j v,j<L->c2.get j=some v->∃v',(g++p)[j]?=some v'/\VR φ v v') ->
    OpOk P s φ M w m.next (.slice (some ⟨m.next,0,none⟩) (sLen+d) CU) (.new (.cells c2 L e i.size)):=by
    intro Y c2 L Z W;have C:Builtin.nextslicecap (sLen+d) E*i.bytes<=281474976710656:=growslice_fits Y (by omega)
    have D:=run_append_grow (P:=P) w t ty e i zv ht hi hz A sLen E g k (fun j v V=>by
     rcases K with⟨rfl,_⟩|K
     .rw[addr_add];exact cell_of g4 (o2 j v V)
     .have b5:sLen=0:=by omega
      have:g=[]:=zQ (by rw[k,b5,Nat.zero_mul])
      rw[this]at V;simp at V) xa d xc p x a8 Y (by omega) C
    have b7:=grownCap_ge w (sLen+d) E e;have a9:=grownCap_le_maxLen w (sLen+d) E e (by unfold maxLen;omega)
    refine ybhp (P:=P) hR hf (s:=s) (elem:=e) (need:=sLen+d) (cap:=grownCap w (sLen+d) E e) (sz:=i.size) (all':=g++p) (rest:=(Builtin.zeroCells zv.cells (grownCap w (sLen+d) E e-(sLen+d))).toList)
     (by
       refine a3 _ _ ?_;rw[D];congr 3;apply Array.toList_inj.1;simp) b7 (by unfold maxLen at a9;exact a9) (by
       rw[zM,k,x,ybyc b9,<-zAH,<-zAH];congr 1;omega) Z W
   have b3:sCap=CU->∀(c2:T Value) (L:Nat),L=(g++p).length->(∀j v,j<L->c2.get j=some v->∃v',(g++p)[j]?=some v'/\VR φ v v') ->
    OpOk P s φ M w m.next (.slice (some ⟨m.next,0,none⟩) (sLen+d) CU) (.move a.block (.cells c2 L e i.size)):=by
    intro F c2 L Z W
    by_cases Y:E<sLen+d
    .exact(grow Y c2 L Z W).move_of_new
    ·-- in place
     have a7:sLen+d<=E:=by omega
     rcases K with⟨rfl,K⟩|K
     .rcases K with K|K
      .omega
      .have b8:(sLen+d)*i.size<=E*i.size:=zAJ _ a7;rw[zAH]at b8;rw[g2]at K;have C:l.base+a.off+sLen*i.size+p.length<=cs.length:=by rw[x];omega
       have D:=yri (P:=P) (ty:=ty) ht hi (c:=xc) (blk:=l.blk) (off:=l.base+a.off) (sLen:=sLen) (sCap:=E) x a8 a1 a7 g4 C;have b1:=yjz (l:=⟨l.blk,l.base+a.off,l.size,l.sz,none⟩) hf;refine ycno hR hf a2 k1 (l':=⟨l.blk,l.base+a.off,l.size,l.sz,none⟩) rfl ?_ ?_ (a3 _ _ D)
       .have G:L=sLen*i.size+d*i.size:=by rw[Z,zM,k,x]
        refine⟨g2,by show l.base+a.off+L<=l.size;omega,_,e,(0,0),⟨fun _=>⟨rfl,rfl,rfl⟩,fun o ho=>(by cases ho)⟩,setRow_heap w _ _ _ e _ g4,?_,fun j v hj hg=>?_⟩
        .show _=l.size;simp only[zM,zAR,zAS];omega
        .obtain⟨v',p1,p2⟩:=W j v hj hg;refine⟨v',?_,p2.mono b1⟩;show(_:List Value)[l.base+a.off+j]?=_;rw[ygg cs p _ _ C]
         by_cases a6:j<g.length
         .rw[if_neg (by omega)]
          rw[zJ a6]at p1;exact o2 j v' p1
         .rw[zL (by omega)]at p1
          rw[if_pos (by omega),<-p1]
          congr 1;omega
       .exact VR.slice (ycq _ _) a7 (fun q=>absurd rfl q) k6 (.inl ⟨rfl,.inr (by show l.base+a.off+0+E*l.sz<=l.size;rw[g2];omega)⟩)
     .omega
   unfold appOut at B;rw[ybh]at B;split at B
   .rename_i hq
    simp only[zG]at hq;have F:=zD hq.1;have b4:=zD hq.2;rw[ycg B];refine b3 F _ _ (by rw[zM,k,x,a0]) fun j v hj hg=>?_
    rcases T.sets_get hg with⟨p1,p2,p3⟩|⟨p1,p2⟩
    .obtain⟨v',q1,q2⟩:=O.get p3;exact⟨v',by rw[zL (by omega),k];exact q1,q2⟩
    .have b0:j<sLen*i.size:=by omega
     obtain⟨v',q1,q2⟩:=g6 j v (by omega) p2
     refine⟨v',?_,q2⟩;rw[zJ (by omega)]
     exact o3 j v' b0 (by rw[b4,zAM];exact q1)
   .obtain⟨I,Q,N⟩:=yg B;have S:I.length=sLen*i.size:=(yfb Q).1;rw[ycg N]
    have J:∀j v,j<I.length+new.length->(tOf (I++new)).get j=some v->∃v',(g++p)[j]?=some v'/\VR φ v v':=fun j v hj h=>by
     have h:=ymb h
     by_cases a6:j<I.length
     .rw[zJ a6]at h;obtain⟨u,q1,q2⟩:=(yfb Q).2 j (by omega)
      rw[h]at q2;cases q2
      obtain⟨v',r1,r2⟩:=g6 (a.off+j) v (by omega) q1
      refine⟨v',?_,r2⟩;rw[zJ (by omega)]
      exact o3 j v' (by omega) (by rw[zT];exact r1)
     .rw[zL (by omega)]at h
      obtain⟨v',r1,r2⟩:=O.get h;refine⟨v',?_,r2⟩;rw[zL (by omega),k,<-S]
      exact r1
    have G:I.length+new.length=(g++p).length:=by rw[zM,k,x,S,a0]
    by_cases F:sCap=CU
    .have X:zF sCap CU=true:=by rw[F];decide
     rw[X];exact b3 F _ _ G J
    .have X:zF sCap CU=false:=by
      cases hq:zF sCap CU with
      |false=>rfl
      |true=>exact absurd (zD hq) F
     rw[X];have ec:=k5 F;subst ec;refine grow ?_ _ _ G J;rcases Nat.lt_or_ge E (sLen+d)with q|q
     .exact q
     .exact absurd (by simp only[zG,zAB];exact⟨Nat.ble_eq_true_of_le q,X⟩) y
 .cases h
end
end Ev
end
section
namespace Ev
section
variable {P:Program}{φ:Phi}{M:AM}{w:World}{f:Fr}{o:Oper}{m:Mem}{r:R}{ρ:Operand->Value}{next:Nat}
theorem VRL.atomA:∀{l:List Value},l.all Ev.atomA=true->VRL φ l l
 |[],_=>.nil
 | v::l,h=>by
   simp only[zAA,zG]at h;exact .cons (VR.atomA h.1) (VRL.atomA h.2)
theorem VR.atomR{v:Value}(h:atomR v=true):VR φ v v:=by
 unfold Ev.atomR at h;split at h
 .rename_i a
  have:=VR.tuple (VRL.atomA (φ:=φ) h)
  simpa using this
 .exact VR.atomA h
theorem yxb{a b:Value}{l':List Value}(h:VRL φ [a,b] l'):∃a' c,l'=[a',c]/\VR φ a a'/\VR φ b c:=by
 cases h with
 | cons d e=>cases e with
   |cons g i=>cases i;exact⟨_,_,rfl,d,g⟩
theorem yiq{a:Value}{l':List Value}(h:VRL φ [a] l'):∃a',l'=[a']/\VR φ a a':=by
 cases h with
 |cons b c=>cases c;exact⟨_,rfl,b⟩
theorem yiy{b:Builtin}{args:Array Operand}{a:Array TypeId}(c:o.op = .call { callee:=.builtin b,args:=args,argTypes:=a }) :
 execOp ρ o=builtin b a o.type (args.map fun | .const _=>true|_=>false) (args.map ρ):=by
 unfold execOp;rw[c];rfl
theorem ybfq{g:Option Addr}{n c:Nat}{e:Value}(h:VR φ (.slice g n c) e):∃A b,e = .slice A n b/\n<=b:=by
 cases h with
 | simple d=>cases g with
   | none=>cases n with
     |zero=>exact⟨_,_,rfl,Nat.zero_le _⟩
     |succ n=>simp[simple]at d
   |some a=>simp[simple]at d
 |slice j i k l p=>exact⟨_,_,rfl,i⟩
theorem ybyh {args:Array Operand}{y:Array TypeId}(G:o.op = .call { callee:=.builtin .append,args:=args,argTypes:=y }) (h:(ob (valsA f args.toList) fun vs=>evAppend P m vs y.toList)=some r)
 (Y:Rel φ M w) (hv:OV φ f o ρ) (hm:∀i∈r.foot,∀b,m.b.get i=some b->M i=some b) (hf:r.e.adds=true->φ m.next=none):OpOk P (execOp ρ o) φ M w m.next r.v r.e:=by
 obtain⟨vs,a3,L⟩:=yg h
 clear h
 have a2:=yej (φ:=φ) (ρ:=ρ) a3 (fun x hx=>hv x (by rw[G];simp[Op.operands,Call.operands];simpa using hx))
 unfold evAppend at L;split at L
 .rename_i s x t u E
  obtain⟨H,h3⟩:=ybi L
  clear L
  have H:=zD H;subst H;obtain⟨d,Z,N⟩:=yg h3
  clear h3
  obtain⟨s',x',l,C,W⟩:=yxb a2;split at N
  .rename_i elem
   unfold appendA at N;obtain⟨i,hi,h5⟩:=yg N;obtain⟨q,hq,h6⟩:=yg h5;unfold appendA1 at h6;obtain⟨hc,g⟩:=ybi h6
   clear N h5 h6
   simp only[zG]at hc;obtain⟨⟨⟨⟨c1,c2⟩,c3⟩,c4⟩,c5⟩:=hc;have c1:=zB c1;have c2:=zB c2;rw[ybh]at g;split at g
   .rename_i k
    have k:lenA x=0:=zD k
    obtain⟨sa,n,c,rfl,D⟩:∃a n c,s = .slice a n c/\r=⟨.slice a n c,.none,q.2⟩:=by
     unfold appNone at g;split at g
     .exact⟨_,_,_,rfl,(Option.some.inj g).symm⟩
     .cases g
    subst D
    .obtain⟨A,c',rfl,T⟩:=ybfq C
     obtain⟨xa,xn,xc,rfl⟩:∃a n c,x = .slice a n c:=by
      unfold rowOf at hq;split at hq
      .exact⟨_,_,_,rfl⟩
      .exact⟨_,_,_,rfl⟩
      .cases hq
     obtain rfl:xn=0:=k;obtain⟨X,I,rfl,_⟩:=ybfq W;refine OpOk.value Y (v':=.slice A n c') ?_ C;rw[yiy G];have K:args.map ρ = #[.slice A n c',.slice X 0 I]:=by apply Array.toList_inj.1;simp[<-l]
     have e2:y = #[t,t]:=by apply Array.toList_inj.1;simp[E]
     rw[K,e2]
     have Q:(Builtin.firstCells i.size 0 (.slice X 0 I)).run P w = .ok #[] w:=by
      cases X with
      |none=>exact run_firstCells_none _ _ _ _ _
      |some a=>exact run_firstCells_some (P:=P) w i.size 0 a 0 I [] (by simp) (by simp)
     cases A with
     |none=>simp[builtin,Builtin.append_,run_underlying Z,rSO hi,Builtin.lenOf,T,Q]
     |some a=>simp[builtin,Builtin.append_,run_underlying Z,rSO hi,Builtin.lenOf,T,Q,storeCells]
   .rename_i k
    have k:lenA x≠0:=fun e=>k (by rw[e];rfl)
    obtain⟨zl,a4⟩:=Option.isSome_iff_exists.1 c4;obtain⟨zv,z1,z2,z3,z4⟩:=yjs (φ:=φ) a4;have V:zv.cells.size=i.size:=by rw[<-z3,<-z2];simp
    have O:∀v' w',(Builtin.append_ #[t,t] o.type #[s',x']).run P w = .ok v' w'->(execOp ρ o).run P w = .ok (.value v') w':=by
     intro v' w' hr;rw[yiy G];have K:args.map ρ = #[s',x']:=by apply Array.toList_inj.1;simp[<-l]
     have e2:y = #[t,t]:=by apply Array.toList_inj.1;simp[E]
     rw[K,e2];simp[builtin,hr]
    have a0:∀j∈q.2,j∈r.foot:=by
     intro j J;unfold appendA2 at g;split at g
     .rw[ycg g];exact J
     .obtain⟨b,hb,D⟩:=yg g;unfold appSome at D;split at D
      .obtain⟨_,B⟩:=ybi D;rw[ybh]at B;split at B
       .unfold appIn at B;obtain⟨_,z⟩:=ybi B;rw[ybo]at z;cases z
        simp[J]
       .unfold appOut at B;rw[ybh]at B;split at B
        .rw[ycg B];simp[J]
        .obtain⟨a8,_,z⟩:=yg B;rw[ycg z];simp[J]
      .cases D
     .cases g
    obtain⟨xa,xc,p,k1,k2,k3,k4⟩:=ybsk hq W Y (fun j J=>hm j (a0 j J)) k;subst k1;unfold appendA2 at g;split at g
    .have hf:φ m.next=none:=hf (by rw[ycg g];rfl)
     rw[ycg g];have K:=C.eq_simple rfl;subst K;have F:p.length=lenA x*i.size:=by rw[<-k2.length];exact k3
     have c1:lenA x*i.bytes<=100000000:=by have:=c1;rw[show lenA (Value.slice none 0 0)=0 from rfl,zAE]at this;exact this
     have c2:lenA x<=100000000:=by have:=c2;rw[show lenA (Value.slice none 0 0)=0 from rfl,zAE]at this;exact this
     have U:=run_append_nil (P:=P) w t o.type elem i zv Z hi z1 xa (lenA x) xc p F k4 (by omega) (by omega) (by omega)
     have a1:=grownCap_ge w (lenA x) 0 elem;have a7:lenA x<=100000000:=c2;have S:=grownCap_le_maxLen w (lenA x) 0 elem (by unfold maxLen;omega)
     refine ycna (P:=P) Y hf (elem:=elem) (need:=lenA x) (cap:=grownCap w (lenA x) 0 elem) (sz:=i.size) (all:=q.1) (all':=p) (rest:=(Builtin.zeroCells zv.cells (grownCap w (lenA x) 0 elem-lenA x)).toList)
      k2 (by
       refine O _ _ ?_;rw[U];congr 3;apply Array.toList_inj.1;simp) a1 (by unfold maxLen at S;exact S) (by
       rw[k3,ybyc V,<-zAH];congr 1;omega) rfl (fun j v _ hg=>ymb hg)
    .rename_i a a6 a5
     obtain⟨b,hb,D⟩:=yg g;exact ybrq Z hi z1 V D hb hm Y hf C k3 k2 k4 c5 c1 c2 k O
    .cases g
  .cases N
 .cases L
theorem ydcr {args:Array Operand}{a:Array TypeId}(g:o.op = .call { callee:=.builtin .len,args:=args,argTypes:=a }) (h:(ob (valsA f args.toList) fun C=>evLen P f o C a.toList)=some r)
 (y:Rel φ M w) (B:OV φ f o ρ):OpOk P (execOp ρ o) φ M w next r.v r.e:=by
 obtain⟨C,q,j⟩:=yg h
 clear h
 have p:=yej (φ:=φ) (ρ:=ρ) q (fun x G=>B x (by rw[g];simp[Op.operands,Call.operands];simpa using G))
 unfold evLen at j;split at j
 .rename_i I n c t i
  obtain⟨d,F,k⟩:=yg j;obtain⟨H,b,v1⟩:=yiq p;split at k
  .rename_i u
   rw[ybo]at k;rw[ygi k]
   have z:∃A l,H = .slice A n l:=by
    cases v1 with
    |simple z=>exact⟨_,_,rfl⟩
    |slice _ _ _ _ _=>exact⟨_,_,rfl⟩
   obtain⟨A,l,rfl⟩:=z;refine OpOk.value y (v':=.int .i64 (.ofNat n)) ?_ (.simple rfl);rw[yiy g];have D:args.map ρ = #[.slice A n l]:=by apply Array.toList_inj.1;simp[<-b]
   have E:a = #[t]:=by apply Array.toList_inj.1;simp[i]
   rw[D,E];simp[builtin,Builtin.len_,run_underlying F,goInt]
  .cases k
 .exact yor (by rw[g];simp) j y B
theorem ybbg{k:Nat}{es:Array MapEntry}{cl:Nat}(h:w.heap[k]?=some (.map es cl)):(getObj k).run P w = .ok (.map es cl) w:=by
 simp[getObj,zX,h]
theorem VR.map_inv{b:Nat}{v':Value}(h:VR φ (.map (some b)) v'):∃l,φ b=some l/\v' = .map (some l.blk):=by
 cases h with
 |simple h=>simp[Ev.simple]at h
 |map h=>exact⟨_,h,rfl⟩
theorem Rel.mapAt(c:Rel φ M w){i:Nat}{es:Array MapEntry}{cl:Nat}{l:Loc}(h:M i=some (.map es cl))(d:φ i=some l):w.heap[l.blk]?=some (.map es cl):=by
 obtain⟨e,a,b⟩:=c.blk i _ h;rw[d]at a;cases a
 exact b
theorem ycec {t:TypeId}{x k:Operand}{ok:Bool}(a:o.op = .lookup t x k ok) (h:(ob (f.get k) fun k=>ob (P.underlying t) fun d=>ob (f.get x) (evLookup P m k ok d))=some r)
 (D:Rel φ M w) (E:OV φ f o ρ) (O:∀i∈r.foot,∀b,m.b.get i=some b->M i=some b):OpOk P (execOp ρ o) φ M w next r.v r.e:=by
 obtain⟨S,hk,A⟩:=yg h;obtain⟨d,L,B⟩:=yg A;obtain⟨W,Q,c⟩:=yg B
 clear h A B
 have v1:=E k (by rw[a];simp[Op.operands]) _ hk
 have T:=E x (by rw[a];simp[Op.operands]) _ Q
 unfold evLookup at c;split at c
 .rename_i n z q
  obtain⟨J,C⟩:=ybi c;obtain⟨b,K,p⟩:=yg C
  clear c C
  unfold evLookup1 at p;split at p
  .rename_i V U
   obtain⟨v,j,H⟩:=yg p;obtain⟨u,I⟩:=ybi H;cases I
   obtain⟨l,N,G⟩:=T.map_inv;have F:=v1.eq_atomA J;have g:=D.mapAt (O q (by simp) _ K) N
   refine OpOk.value D (v':=v) ?_ (VR.atomR u);have y:=yks P _ _ j w
   have n:(Instr.lookup t (.map (some l.blk)) S ok).run P w = .ok v w:=by
    simp only[Instr.lookup,zC,run_underlying L,zA,ybbg g,zH];unfold mapGet at y;simp only[zC]at y;exact y
   unfold execOp;rw[a];simp only[F,G,zC,n,zA,zH]
  .cases p
 .cases c
theorem Rel.setObj(g:Rel φ M w){i:Nat}{b:ABlk}{l:Loc}{es:Array MapEntry}{cl:Nat}(p:M i=some b)(A:φ i=some l)(B:l.blk<w.heap.size) :
 Rel φ (upd M i (some (.map es cl))) { w with heap:=w.heap.setIfInBounds l.blk (.map es cl) }/\WG φ M w φ (upd M i (some (.map es cl))) { w with heap:=w.heap.setIfInBounds l.blk (.map es cl) }:=by
 have z:∀k,k≠l.blk->(w.heap.setIfInBounds l.blk (.map es cl))[k]?=w.heap[k]?:=fun k hk=>by rw[zY,if_neg (fun e=>hk e.symm)]
 refine Rel0.step g ⟨⟨fun j x a=>?_,fun j k x y d C c a u n hk=>?_⟩,⟨rfl,rfl,rfl,by simp,fun k hk G=>z k (fun e=>G ⟨i,b,l,p,A,e.symm⟩),fun k hk h=>?_⟩⟩
 .unfold upd at a
  by_cases e:j=i
  .subst e;rw[if_pos rfl]at a;cases a
   exact⟨l,A,by show(w.heap.setIfInBounds l.blk _)[l.blk]?=_;simp[B]⟩
  .rw[if_neg e]at a;obtain⟨d,E,F⟩:=g.blk j x a;exact⟨d,E,F.keep (z _ (g.inj j i x b d l e a p E A))⟩
 .unfold upd at a u
  by_cases e:j=i
  .subst e;rw[if_neg (fun q=>c q.symm)]at u;exact g.inj j k b y d C c p u n hk
  .rw[if_neg e]at a
   by_cases D:k=i
   .subst D;exact g.inj j k x b d C c a p n hk
   .rw[if_neg D]at u;exact g.inj j k x y d C c a u n hk
 .obtain⟨j,x,d,a,n,t⟩:=h;unfold upd at a
  by_cases e:j=i
  .subst e;exact⟨j,b,d,p,n,t⟩
  .rw[if_neg e]at a;exact⟨j,x,d,a,n,t⟩
theorem ybtx{k:Nat}{es es':Array MapEntry}{cl cl':Nat}(h:w.heap[k]?=some (.map es cl)):(setObj k (.map es' cl')).run P w = .ok () { w with heap:=w.heap.setIfInBounds k (.map es' cl') }:=by
 simp[setObj,zX,h]
theorem yber {t:TypeId}{x k v:Operand}(j:o.op = .mapUpdate t x k v) (h:(ob (f.get k) fun k=>ob (f.get v) fun v=>ob (P.underlying t) fun d=>ob (f.get x) (evMapSet P m k v d))=some r)
 (L:Rel φ M w) (D:OV φ f o ρ) (Z:∀i∈r.foot,∀b,m.b.get i=some b->M i=some b):OpOk P (execOp ρ o) φ M w next r.v r.e:=by
 obtain⟨y,hk,G⟩:=yg h;obtain⟨O,E,H⟩:=yg G;obtain⟨d,X,I⟩:=yg H;obtain⟨xv,hx,z⟩:=yg I
 clear h G H I
 have v1:=D k (by rw[j];simp[Op.operands]) _ hk
 have v2:=D x (by rw[j];simp[Op.operands]) _ hx
 have v3:=D v (by rw[j];simp[Op.operands]) _ E
 unfold evMapSet at z;split at z
 .rename_i c F q
  obtain⟨C,J⟩:=ybi z;obtain⟨b,V,B⟩:=yg J
  clear z J
  simp only[zG]at C;unfold evMapSet1 at B;split at B
  .rename_i es cl
   obtain⟨p,A,U⟩:=yg B;cases U
   obtain⟨l,N,S⟩:=v2.map_inv;have Q:=v1.eq_atomA C.1;have T:=v3.eq_simple C.2;have K:=Z q (by simp) _ V
   have g:=L.mapAt K N;have hr:=yks P _ _ A w;have n:=L.setObj (es:=p.1) (cl:=p.2) K N (Array.getElem?_eq_some_iff.1 g).1;refine⟨φ,_,.skip,?_,rfl,φ.le_refl,fun _ _=>rfl,fun _=>rfl,n.1,n.2⟩
   have c:(Instr.mapUpdate t (.map (some l.blk)) y O).run P w=((mapSet c es cl y O).run P w).andThen (fun p w'=>(setObj l.blk (.map p.1 p.2)).run P w'):=by
    simp only[Instr.mapUpdate,mapSet,zC,run_underlying X,zA,ybbg g];cases W:(Instr.checkKey false 10000 c y).run P w with
    |halt a b=>rfl
    | ok u w1 =>
      simp only[zA];cases Y:(Instr.findKey c y es.toList).run P w1 with
      |halt a b=>rfl
      | ok q w2 =>
        simp only[zA];cases q with
        |none=>rfl
        | some q =>
          obtain⟨i,q⟩:=q;simp only[zC];cases(Instr.keyThatStays (((es[i]?).map (·.key)).getD y) y).run P w2 with
          |halt a b=>rfl
          |ok k2 w3=>rfl
   rw[hr,zA,ybtx g]at c;unfold execOp;rw[j];simp only[Q,S,T,zC,c,zA,zH]
  .cases B
 .cases z
theorem ybuq{t:TypeId}(a:o.op = .makeMap t none)(d:Rel φ M w)(c:φ m.next=none):OpOk P (execOp ρ o) φ M w m.next (.map (some m.next)) (.new (.map #[] 0)):=by
 have:=d.new (l:=⟨w.heap.size,0,0,0,none⟩) (b:=.map #[] 0) (o:=.map #[] 0) c rfl (yko w _);refine⟨_,_,.value (.map (some w.heap.size)),?_,VR.map (l:=⟨w.heap.size,0,0,0,none⟩) (ycq _ _),yjz c,fun i e=>ydj _ e,fun h=>(by cases h),this.1,this.2⟩
 unfold execOp;rw[a];simp[Instr.makeMap,newObj,zX]
theorem yxi{t:TypeId}{len:Nat}{parts:Array (Nat×Operand)}(h:(ob (partsA f parts.toList) fun a=>ob (P.underlying t) (evBuildSlice P m len a))=some r):r.e.adds=true:=by
 obtain⟨_,_,h⟩:=yg h;obtain⟨_,_,h⟩:=yg h;unfold evBuildSlice at h;split at h
 .obtain⟨_,_,h⟩:=yg h;obtain⟨_,_,h⟩:=yg h;obtain⟨_,h⟩:=ybi h;obtain⟨_,_,h⟩:=yg h;cases h;rfl
 .cases h
theorem yzm{t:TypeId}{x y:Operand}(h:(ob (f.get x) fun l=>ob (f.get y) (evMakeSlice P t m l))=some r):r.e.adds=true:=by
 obtain⟨_,_,h⟩:=yg h;obtain⟨_,_,h⟩:=yg h;unfold evMakeSlice at h;split at h
 .obtain⟨_,_,h⟩:=yg h;unfold evMakeSlice1 at h;split at h
  .obtain⟨_,_,h⟩:=yg h;obtain⟨_,_,h⟩:=yg h;obtain⟨_,h⟩:=ybi h;cases h;rfl
  .cases h
 .cases h
theorem ybag(h:evOp P f o m=some r)(g:Rel φ M w)(j:OV φ f o ρ)(p:∀i∈r.foot,∀b,m.b.get i=some b->M i=some b)(n:r.e.adds=true->φ m.next=none):OpOk P (execOp ρ o) φ M w m.next r.v r.e:=by
 unfold evOp at h;split at h
 .rename_i x d;exact ybyp (.inl d) h g j
 .rename_i x d;exact ybyp (.inr d) h g j
 .rename_i c a b d;exact ycvv d h g j
 .rename_i t d;exact ycrw d h g (n (by obtain⟨_,_,h⟩:=yg h;obtain⟨_,_,h⟩:=yg h;cases h;rfl))
 .rename_i t x d;exact ydcu d h g j (n (by obtain⟨_,_,h⟩:=yg h;obtain⟨_,h⟩:=ybi h;cases h;rfl))
 .rename_i t z d;exact ycmz d h g j
 .rename_i t len z d;exact ybeg d h g j (n (yxi h))
 .rename_i t a d;exact yczy d h g j p
 .rename_i t a x d;exact ycos d h g j p
 .rename_i x d;exact ybmk d h g j
 .rename_i s x k d;exact ybie d h g j
 .rename_i t x k d;exact ycnn d h g j
 .rename_i t x k d;exact ybjp d h g j
 .rename_i x k d;exact ybsv d h g j
 .rename_i fn a b d;exact ybke d h g j
 .rename_i t l c d;exact ybgn d h g j (n (yzm h))
 .rename_i t x B A d;exact ok_slice d h g j p
 .rename_i t d;cases h;exact ybuq d g (n rfl)
 .rename_i t x k b d;exact ycec d h g j p
 .rename_i t x k v d;exact yber d h g j p
 .rename_i c d
  obtain⟨q,u,y⟩:=c;unfold evCallB at h;simp only at h;split at h
  .exact ydcr d h g j
  .exact ybyh d h g j p n
  .exact yor (by rw[d];simp) h g j
  .exact yor (by rw[d];simp) h g j
  .cases h
 .rename_i d;exact yor (by rw[d];simp) h g j
 .rename_i d;exact yor (by rw[d];simp) h g j
 .rename_i d;exact yor (by rw[d];simp) h g j
 .rename_i d;exact yor (by rw[d];simp) h g j
 .cases h
end
end Ev
end
end Go.Proofs.YtlbonpgkofloeaaGreatDoor
