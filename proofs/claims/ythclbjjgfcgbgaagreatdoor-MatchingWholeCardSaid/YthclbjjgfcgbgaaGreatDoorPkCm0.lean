/- Joined. -/
import Derived.Orders
import Derived.LoopN
import Derived.KernelRfl
set_option linter.unusedSimpArgs false
set_option linter.unusedVariables false
open Nat renaming beq->zA,ble->zB,succ->zC,blt->zF,rec->zG,div->zH,testBit->zK,min->zL,sub->zM,add->zN,mul->zO
open Bool renaming rec->zD
open Option renaming rec->zI
open List renaming rec->zJ
open Go
namespace Go.Proofs.YthclbjjgfcgbgaaGreatDoor
section
namespace Ev
noncomputable section
inductive T (α:Type) where
 |leaf
 |node (v:Option α) (l r:T α)
def iteB{α:Type}(b:Bool)(t e:α):α:=zD e t b
def ob{α β:Type}(x:Option α)(k:α->Option β):Option β:=zI none k x
def even(k:Nat):Bool:=zA (Nat.mod k 2) 0
def T.get{α:Type}(t:T α):Nat->Option α :=
 T.rec (fun _=>none) (fun v _ _ gl gr n=>zG v (fun k _=>zD (gr (zH k 2)) (gl (zH k 2)) (even k)) n) t
def T.strict{α β:Type}(t:T α)(k:T α->β):β:=T.rec (k .leaf) (fun a b c _ _=>k (.node a b c)) t
def T.set{α:Type}(f:Nat):T α->Nat->Option α->T α :=
 zG (fun _ _ _=>.leaf) (fun _ ih t n x =>
  T.rec
   (zG (T.node x .leaf .leaf) (fun k _=>zD (T.strict (ih .leaf (zH k 2) x) fun r=>.node none .leaf r) (T.strict (ih .leaf (zH k 2) x) fun l=>.node none l .leaf) (even k)) n)
   (fun v l r _ _=>zG (T.node x l r) (fun k _=>zD (T.strict (ih r (zH k 2) x) fun r=>.node v l r) (T.strict (ih l (zH k 2) x) fun l=>.node v l r) (even k)) n) t) f
def T.sets(t:T Value):Nat->List Value->T Value
 |_,[]=>t
 |i,v::l=>T.strict (T.set (zC i) t i (some v)) fun t=>T.sets t (zC i) l
inductive ABlk where
 |cells (c:T Value) (n:Nat) (elem:TypeId) (sz:Nat)
 |map (es:Array MapEntry) (clock:Nat)
structure Mem where
 next:Nat
 b:T ABlk
 low:Nat
structure Fr where
 n:Nat
 t:T Value
abbrev CU:Nat:=1208925819614629174706176
def simple:Value->Bool
 |.bool _ | .int .. | .string _ | .float .. | .complex .. | .pointer none | .slice none 0 0 | .map none | .nilFunc | .nilIface=>true
 |_=>false
def atomA:Value->Bool
 |.agg cs=>cs.toList.all simple
 |v=>simple v
def runPure{α:Type}(P:Program):Sem α->Option α
 |.pure a=>some a
 |.program k=>runPure P (k P)
 |_=>none
def constA(v:Value):Option Value:=iteB (atomA v) (some v) none
def Fr.get(f:Fr):Operand->Option Value
 |.tmp t=>f.t.get t
 |.const v=>constA v
 |.global _=>none
 |.func g=>some (.func (.func g) #[] #[])
def forceN{α:Type}(n:Nat)(k:Nat->α):α:=Nat.casesOn n (k 0) fun m=>k (zC m)
def force{α:Type}(v:Value)(k:Value->α):α :=
 match v with
 |.int kd (.ofNat n)=>forceN n fun n=>k (.int kd (.ofNat n))
 |.int kd (.negSucc n)=>forceN n fun n=>k (.int kd (.negSucc n))
 |v=>k v
def Fr.set1(n:Nat)(t:T Value)(d:Nat)(v:Value):Option Fr:=force v fun v=>T.strict (T.set (zC d) t d (some v)) fun t=>some ⟨n,t⟩
def Fr.putD(v:Value)(d:Nat):Fr->Option Fr
 |⟨n,t⟩=>iteB (zF d n) (Fr.set1 n t d v) none
def Fr.put(f:Fr)(d:Option Tmp)(v:Value):Option Fr:=zI (some f) (fun d=>Fr.putD v d f) d
inductive Eff where
 |none
 |new (b:ABlk)
 |upd (i:Nat) (b:ABlk)
 |move (i:Nat) (b:ABlk)
def Mem.mk1(next:Nat)(b:T ABlk)(low:Nat):Mem:=forceN next fun next=>T.strict b fun b=>forceN low fun low=>⟨next,b,low⟩
def Mem.appE(next:Nat)(b:T ABlk)(low:Nat):Eff->Mem
 |.none=>⟨next,b,low⟩
 |.new x=>Mem.mk1 (zC next) (T.set (zC next) b next (some x)) low
 |.upd i x=>Mem.mk1 next (T.set (zC i) b i (some x)) (zL low i)
 |.move i x=>Mem.mk1 (zC next) (T.set (zC next) (T.set (zC i) b i none) next (some x)) (zL low i)
def Mem.app(m:Mem)(e:Eff):Mem:=match m with|⟨next,b,low⟩=>Mem.appE next b low e
def Mem.strict{β:Type}(m:Mem)(k:Mem->β):β:=match m with|⟨next,b,low⟩=>k ⟨next,b,low⟩
structure R where
 v:Value
 e:Eff
 foot:List Nat
def tOf(l:List Value):T Value:=T.sets .leaf 0 l
def rowBlk(elem sz:Nat)(l:List Value):ABlk:=.cells (tOf l) l.length elem sz
def isAggD:TypeDesc->Bool
 |.struct _ | .array _ _=>true
 |_=>false
def getCells(c:T Value)(off:Nat):Nat->Option (List Value)
 |0=>some []
 | n + 1=>match c.get off with
   |none=>none
   | some v=>match getCells c (off+1) n with
     |none=>none
     |some l=>some (v::l)
def loadA(P:Program)(m:Mem)(t:TypeId)(a:Addr):Option Value :=
 match a.spot,m.b.get a.block,P.underlying t,P.info? t with
 | none,some (.cells c n _ _),some d,some i =>
   bif isAggD d then bif zB (a.off+i.size) n then(match getCells c a.off i.size with|some l=>some (.agg l.toArray)|none=>none)else none
   else bif zF a.off n then c.get a.off else none
 |_,_,_,_=>none
def allGood:List Value->Bool
 |[]=>true
 |.agg _::_=>false
 |.tuple _::_=>false
 |_::l=>allGood l
def storeA(P:Program)(m:Mem)(t:TypeId)(a:Addr)(v:Value):Option Eff :=
 match a.spot,m.b.get a.block,P.info? t with
 | none,some (.cells c n e s),some i =>
   let l:=v.cells.toList
   bif zA l.length i.size&&allGood l&&zB (a.off+l.length) n && !(zA e CU)then some (.upd a.block (.cells (T.sets c a.off l) n e s))else none
 |_,_,_=>none
def takeFrom(l:List Value)(off n:Nat):Option (List Value) :=
 let r:=(l.drop off).take n
 bif zA r.length n then some r else none
def partA(P:Program)(t:TypeId)(cs:List Value)(off:Nat):Option Value :=
 match P.underlying t,P.info? t with
 |some d,some i=>bif isAggD d then(match takeFrom cs off i.size with|some l=>some (.agg l.toArray)|none=>none)else cs[off]?
 |_,_=>none
def fillA(place:Nat->Option (Nat×Nat))(cells:List Value):List (Nat×Value)->Option (List Value)
 |[]=>some cells
 | (i,v)::rest =>
   match place i with
   |none=>none
   | some (off,size) =>
     let l:=v.cells.toList
     bif zA l.length size&&zB (off+size) cells.length&&allGood l then fillA place (cells.take off++l++cells.drop (off+size)) rest else none
def valsA(f:Fr):List Operand->Option (List Value)
 |[]=>some []
 | x :: l=>match f.get x with
   |none=>none
   | some v=>match valsA f l with
     |none=>none
     |some vs=>some (v::vs)
def partsA(f:Fr):List (Nat×Operand)->Option (List (Nat×Value))
 |[]=>some []
 | (i,x)::l=>match f.get x with
   |none=>none
   | some v=>match partsA f l with
     |none=>none
     |some vs=>some ((i,v)::vs)
def placesA(P:Program):List Field->Option (List (Nat×Nat))
 |[]=>some []
 | f :: l=>match P.info? f.type with
   |none=>none
   | some i=>match placesA P l with
     |none=>none
     |some r=>some ((f.offset,i.size)::r)
def repl(n:Nat)(z:List Value):List Value:=zG [] (fun _ r=>z++r) n
def natIn(v:Option Value)(d hi:Nat):Option Nat :=
 match v with
 |none=>some d
 |some (.int _ (.ofNat n))=>bif zB n hi then some n else none
 |_=>none
def mapGet(key elem:TypeId)(es:Array MapEntry)(k:Value)(ok:Bool):Sem Value:=do
 Instr.checkKey es.isEmpty 10000 key k
 let (v,b) <-match <-Instr.findKey key k es.toList with
  |some (_,v)=>pure (v,true)
  |none=>pure (<-zeroValue elem,false)
 pure (if ok then .tuple #[v,.bool b]else v)
def mapSet(key:TypeId)(es:Array MapEntry)(clock:Nat)(k v:Value):Sem (Array MapEntry×Nat):=do
 Instr.checkKey false 10000 key k
 match <-Instr.findKey key k es.toList with
 | some (i,_) =>
   let k <-Instr.keyThatStays (((es[i]?).map (·.key)).getD k) k
   pure (es.modify i fun e=>{ e with key:=k,val:=v },clock)
 |none=>pure (es.push { key:=k,val:=v,born:=clock },clock+1)
def zeroA(i:TypeInfo):Option (List Value):=ob i.zero fun z=>iteB (atomA z&&zA z.cells.toList.length i.size) (some z.cells.toList) none
def szOf:ABlk->Option Nat
 |.cells _ _ _ z=>some z
 |.map _ _=>none
def sliceA2(a:Addr)(l h size cap:Nat):Option R :=
 forceN (zN a.off (zO l size)) fun o=>forceN (zM h l) fun n=>some ⟨.slice (some ⟨a.block,o,none⟩) n cap,.none,[a.block]⟩
def sliceA1(a:Addr)(z size len:Nat)(lo hi:Option Value)(cap:Nat->Nat):Option R :=
 iteB (a.spot.isNone&&(zA z size||zA z 0)) (ob (natIn hi len len) fun h=>ob (natIn lo 0 h) fun l=>sliceA2 a l h size (cap l)) none
def capA(cap l:Nat):Nat:=iteB (zA cap CU) CU (zM cap l)
def sliceA(P:Program)(m:Mem)(lo hi:Option Value):TypeDesc->Value->Option R
 |.string,.string s=>ob (natIn hi s.size s.size) fun h=>ob (natIn lo 0 h) fun l=>some ⟨.string ⟨((s.data.toList.drop l).take (h-l)).toArray⟩,.none,[]⟩
 |.slice elem,.slice (some a) len cap=>ob (P.info? elem) fun i=>ob (ob (m.b.get a.block) szOf) fun z=>sliceA1 a z i.size len lo hi (capA cap)
 |.slice elem,.slice none 0 0=>ob (P.info? elem) fun _=>ob (natIn hi 0 0) fun _=>ob (natIn lo 0 0) fun _=>some ⟨.slice none 0 0,.none,[]⟩
 |.array len elem,.pointer (some a)=>ob (P.info? elem) fun i=>ob (ob (m.b.get a.block) szOf) fun z=>iteB (zA z 0&&zB len 1000000) (sliceA1 a z i.size len lo hi (zM len)) none
 |_,_=>none
def rowOf (m:Mem)(size:Nat):Value->Option (List Value×List Nat)
 |.slice none 0 0=>some ([],[])
 | .slice (some a) len _=>(match a.spot with
   |some _=>none
   | none=>bif zA len 0 then some ([],[])else match m.b.get a.block with
     | some (.cells c n _ _)=>bif zB (a.off+len*size) n then(match getCells c a.off (len*size)with
        |some l=>some (l,[a.block])
        |none=>none)else none
     |_=>none)
 |_=>none
def lenA:Value->Nat
 |.slice _ n _=>n
 |_=>0
def appRes(m:Mem)(k:Nat)(e:Eff)(ft:List Nat):Option R:=forceN k fun k=>some ⟨.slice (some ⟨m.next,0,none⟩) k CU,e,ft⟩
def appIn(a:Addr)(c:T Value)(n e z sLen k sCap:Nat)(new:List Value)(ft:List Nat):Option R :=
 iteB (zB (a.off+sLen*z+new.length) n&&zF sCap 1000000000) (forceN k fun k=>some ⟨.slice (some a) k sCap,.upd a.block (.cells (T.sets c (a.off+sLen*z) new) n e z),ft⟩) none
def appOut(m:Mem)(a:Addr)(c:T Value)(e z sLen k sCap:Nat)(new:List Value)(ft:List Nat):Option R :=
 iteB (zA sCap CU&&zA a.off 0) (appRes m k (.move a.block (.cells (T.sets c (sLen*z) new) (sLen*z+new.length) e z)) ft)
  (ob (getCells c a.off (sLen*z)) fun old=>appRes m k (iteB (zA sCap CU) (.move a.block (.cells (tOf (old++new)) (old.length+new.length) e z)) (.new (.cells (tOf (old++new)) (old.length+new.length) e z))) ft)
def appSome(m:Mem)(i:TypeInfo)(elem:TypeId)(a:Addr)(sLen k sCap:Nat)(new:List Value)(fx:List Nat):ABlk->Option R
 | .cells c n e z=>iteB (zA e elem&&zA z i.size && !(zA z 0)&&zB (a.off+sLen*z) n&&a.spot.isNone && !(zA e CU))
    (iteB (zB k sCap && !(zA sCap CU)) (appIn a c n e z sLen k sCap new (a.block::fx)) (appOut m a c e z sLen k sCap new (a.block::fx))) none
 |_=>none
def appendA2(m:Mem)(i:TypeInfo)(elem:TypeId)(xLen:Nat)(new:List Value)(fx:List Nat):Value->Option R
 |.slice none 0 0=>appRes m xLen (.new (.cells (tOf new) new.length elem i.size)) fx
 |.slice (some a) sLen sCap=>ob (m.b.get a.block) fun b=>appSome m i elem a sLen (sLen+xLen) sCap new fx b
 |_=>none
def appNone(ft:List Nat):Value->Option R
 |.slice a n c=>some ⟨.slice a n c,.none,ft⟩
 |_=>none
def appendA1(m:Mem)(elem:TypeId)(s x:Value)(i:TypeInfo)(q:List Value×List Nat):Option R :=
 iteB (zB ((lenA s+lenA x)*i.bytes) 100000000&&zB (lenA s+lenA x) 100000000&&zB i.bytes 100000000&&(zeroA i).isSome&&allGood q.1)
  (iteB (zA (lenA x) 0) (appNone q.2 s) (appendA2 m i elem (lenA x) q.1 q.2 s)) none
def appendA(P:Program)(m:Mem)(elem:TypeId)(s x:Value):Option R :=
 ob (P.info? elem) fun i=>ob (rowOf m i.size x) fun q=>appendA1 m elem s x i q
def pureA(P:Program)(f:Fr)(o:Oper):Option R :=
 match valsA f o.op.operands.toList with
 |none=>none
 | some vs=>bif vs.all atomA then
    match runPure P (execOp (fun x=>(f.get x).getD undef) o)with
    |some (.value v)=>bif atomA v then some ⟨v,.none,[]⟩else none
    |_=>none
   else none
def atomR:Value->Bool
 |.tuple vs=>vs.toList.all atomA
 |v=>atomA v
def val(v:Value):Option R:=some ⟨v,.none,[]⟩
def evPick(f:Fr)(a b:Operand):Value->Option R
 |.bool t=>ob (f.get (iteB t a b)) val
 |_=>none
def evAlloc(t:TypeId)(m:Mem)(i:TypeInfo):Option R :=
 ob (zeroA i) fun z=>some ⟨.pointer (some ⟨m.next,0,none⟩),.new (rowBlk t 0 z),[]⟩
def evBox(t:TypeId)(m:Mem)(v:Value):Option R :=
 iteB (allGood v.cells.toList) (some ⟨.pointer (some ⟨m.next,0,none⟩),.new (rowBlk t 0 v.cells.toList),[]⟩) none
def evBuild1(P:Program)(z:List Value)(ps:List (Nat×Value)):TypeDesc->Option R
 |.struct fields=>ob (placesA P fields.toList) fun pl=>ob (fillA (fun k=>pl[k]?) z ps) fun l=>val (.agg l.toArray)
 |.array _ elem=>ob (P.info? elem) fun j=>ob (fillA (fun k=>some (k*j.size,j.size)) z ps) fun l=>val (.agg l.toArray)
 |_=>none
def evBuild(P:Program)(t:TypeId)(ps:List (Nat×Value)):Option R :=
 ob (P.info? t) fun i=>ob (zeroA i) fun z=>ob (P.underlying t) fun d=>evBuild1 P z ps d
def evBuildSlice1(m:Mem)(len:Nat)(elem:TypeId)(ps:List (Nat×Value))(i:TypeInfo)(z:List Value):Option R :=
 iteB (zB (len*i.size) 10000&&zB len 10000) (ob (fillA (fun k=>some (k*i.size,i.size)) (repl len z) ps) fun l=>some ⟨.slice (some ⟨m.next,0,none⟩) len len,.new (rowBlk elem i.size l),[]⟩) none
def evBuildSlice(P:Program)(m:Mem)(len:Nat)(ps:List (Nat×Value)):TypeDesc->Option R
 |.slice elem=>ob (P.info? elem) fun i=>ob (zeroA i) fun z=>evBuildSlice1 m len elem ps i z
 |_=>none
def evLoad(P:Program)(t:TypeId)(m:Mem):Value->Option R
 |.pointer (some a)=>ob (loadA P m t a) fun v=>some ⟨v,.none,[a.block]⟩
 |_=>none
def evStore(P:Program)(t:TypeId)(m:Mem)(v:Value):Value->Option R
 |.pointer (some a)=>ob (storeA P m t a v) fun e=>some ⟨undef,e,[a.block]⟩
 |_=>none
def evNilCheck:Value->Option R
 |.pointer (some a)=>val (.pointer (some a))
 |_=>none
def ptrAt(b o:Nat):Option R:=forceN o fun o=>val (.pointer (some ⟨b,o,none⟩))
def addrAt(a:Addr)(o:Nat):Option R:=match a with
 |⟨b,off,none⟩=>ptrAt b (zN off o)
 |_=>none
def evField1(P:Program)(a:Addr)(fd:Field):Option R :=
 ob (P.info? fd.type) fun i=>iteB (zA i.size 0) none (addrAt a fd.offset)
def evFieldAddr1(P:Program)(a:Addr)(k:Nat):TypeDesc->Option R
 |.struct fields=>ob fields[k]? fun fd=>evField1 P a fd
 |_=>none
def evFieldAddr(P:Program)(s:TypeId)(k:Nat):Value->Option R
 |.pointer (some a)=>ob (P.underlying s) fun d=>evFieldAddr1 P a k d
 |_=>none
def evFieldOf1(P:Program)(cs:Array Value)(k:Nat):TypeDesc->Option R
 |.struct fields=>ob fields[k]? fun fd=>ob (partA P fd.type cs.toList fd.offset) val
 |_=>none
def evFieldOf(P:Program)(t:TypeId)(k:Nat):Value->Option R
 |.agg cs=>ob (P.underlying t) fun d=>evFieldOf1 P cs k d
 |_=>none
def evIndex2(P:Program)(elem:TypeId)(a:Addr)(i len:Nat):Option R :=
 iteB (zF i len) (ob (P.info? elem) fun inf=>addrAt a (zO i inf.size)) none
def evIndex1(P:Program)(x:Value)(i:Nat):TypeDesc->Option R
 | .slice elem=>(match x with
   |.slice (some a) len _=>evIndex2 P elem a i len
   |_=>none)
 | .array len elem=>(match x with
   |.pointer (some a)=>evIndex2 P elem a i len
   |_=>none)
 |_=>none
def evIndexAddr(P:Program)(t:TypeId)(x:Value):Value->Option R
 |.int _ (.ofNat i)=>ob (P.underlying t) fun d=>evIndex1 P x i d
 |_=>none
def evExtract(k:Nat):Value->Option R
 |.tuple vs=>ob vs[k]? val
 |_=>none
def evMakeFunc(a b:List Value):Fn->Option R
 |.func g=>val (.func (.func g) a.toArray b.toArray)
 |_=>none
def evMakeSlice2(m:Mem)(elem:TypeId)(l c:Nat)(i:TypeInfo)(z:List Value):Option R :=
 iteB (zB l c&&zB (i.bytes*c) 1000000&&zB c 1000000) (some ⟨.slice (some ⟨m.next,0,none⟩) l c,.new (rowBlk elem i.size (repl c z)),[]⟩) none
def evMakeSlice1(P:Program)(m:Mem)(l c:Nat):TypeDesc->Option R
 |.slice elem=>ob (P.info? elem) fun i=>ob (zeroA i) fun z=>evMakeSlice2 m elem l c i z
 |_=>none
def evMakeSlice(P:Program)(t:TypeId)(m:Mem):Value->Value->Option R
 |.int _ (.ofNat l),.int _ (.ofNat c)=>ob (P.underlying t) fun d=>evMakeSlice1 P m l c d
 |_,_=>none
def evLookup1(P:Program)(key elem:TypeId)(k:Value)(ok:Bool)(r:Nat):ABlk->Option R
 |.map es _=>ob (runPure P (mapGet key elem es k ok)) fun v=>iteB (atomR v) (some ⟨v,.none,[r]⟩) none
 |_=>none
def evLookup(P:Program)(m:Mem)(k:Value)(ok:Bool):TypeDesc->Value->Option R
 |.map key elem,.map (some r)=>iteB (atomA k) (ob (m.b.get r) fun b=>evLookup1 P key elem k ok r b) none
 |_,_=>none
def evMapSet1(P:Program)(key:TypeId)(k v:Value)(r:Nat):ABlk->Option R
 |.map es cl=>ob (runPure P (mapSet key es cl k v)) fun q=>some ⟨undef,.upd r (.map q.1 q.2),[r]⟩
 |_=>none
def evMapSet(P:Program)(m:Mem)(k v:Value):TypeDesc->Value->Option R
 |.map key _,.map (some r)=>iteB (atomA k&&simple v) (ob (m.b.get r) fun b=>evMapSet1 P key k v r b) none
 |_,_=>none
def evLen(P:Program)(f:Fr)(o:Oper):List Value->List TypeId->Option R
 | [.slice _ n _],[t]=>ob (P.underlying t) fun
   |.slice _=>forceN n fun n=>val (.int .i64 (.ofNat n))
   |_=>none
 |_,_=>pureA P f o
def evAppend(P:Program)(m:Mem):List Value->List TypeId->Option R
 | [s,x],[t,u]=>iteB (zA t u) (ob (P.underlying t) fun
   |.slice elem=>appendA P m elem s x
   |_=>none) none
 |_,_=>none
def evCallB(P:Program)(f:Fr)(o:Oper)(m:Mem)(c:Call):Callee->Option R
 |.builtin .len=>ob (valsA f c.args.toList) fun vs=>evLen P f o vs c.argTypes.toList
 |.builtin .append=>ob (valsA f c.args.toList) fun vs=>evAppend P m vs c.argTypes.toList
 |.builtin .max=>pureA P f o
 |.builtin .min=>pureA P f o
 |_=>none
def evSlice(P:Program)(t:TypeId)(m:Mem)(x:Value)(lo hi:List Value):Option R:=ob (P.underlying t) fun d=>sliceA P m lo.head? hi.head? d x
def evOp(P:Program)(f:Fr)(o:Oper)(m:Mem):Option R :=
 match o.op with
 |.move x=>ob (f.get x) val
 |.assign x=>ob (f.get x) val
 |.pick c a b=>ob (f.get c) (evPick f a b)
 |.alloc t=>ob (P.info? t) (evAlloc t m)
 |.box t x=>ob (f.get x) (evBox t m)
 |.build t parts=>ob (partsA f parts.toList) (evBuild P t)
 |.buildSlice t len parts=>ob (partsA f parts.toList) fun ps=>ob (P.underlying t) (evBuildSlice P m len ps)
 |.load t a=>ob (f.get a) (evLoad P t m)
 |.store t a x=>ob (f.get x) fun v=>ob (f.get a) (evStore P t m v)
 |.nilCheck x=>ob (f.get x) evNilCheck
 |.fieldAddr s x k=>ob (f.get x) (evFieldAddr P s k)
 |.field t x k=>ob (f.get x) (evFieldOf P t k)
 |.indexAddr t x k=>ob (f.get x) fun x=>ob (f.get k) (evIndexAddr P t x)
 |.extract x k=>ob (f.get x) (evExtract k)
 |.makeFunc fn first captured=>ob (valsA f first.toList) fun a=>ob (valsA f captured.toList) fun b=>evMakeFunc a b fn
 |.makeSlice t l c=>ob (f.get l) fun l=>ob (f.get c) (evMakeSlice P t m l)
 |.slice t x lo hi none=>ob (f.get x) fun x=>ob (valsA f lo.toList) fun lo=>ob (valsA f hi.toList) (evSlice P t m x lo)
 |.makeMap _ none=>some ⟨.map (some m.next),.new (.map #[] 0),[]⟩
 |.lookup t x k ok=>ob (f.get k) fun k=>ob (P.underlying t) fun d=>ob (f.get x) (evLookup P m k ok d)
 |.mapUpdate t x k v=>ob (f.get k) fun k=>ob (f.get v) fun v=>ob (P.underlying t) fun d=>ob (f.get x) (evMapSet P m k v d)
 |.call c=>evCallB P f o m c c.callee
 |.binOp ..=>pureA P f o
 |.unOp ..=>pureA P f o
 |.convert ..=>pureA P f o
 |.index ..=>pureA P f o
 |_=>none
inductive Task where
 |code (c:Code) (f:Fr) (m:Mem)
 |call (g:FuncId) (args:List Value) (m:Mem)
inductive Out where
 |code (e:Exit) (f:Fr) (m:Mem)
 |call (v:Value) (m:Mem)
structure BlkL where
 i:Nat
 e:TypeId
 z:Nat
 l:List Value
structure Fact where
 g:FuncId
 args:List Value
 next0:Nat
 pre:List BlkL
 v:Value
 next1:Nat
 post:List BlkL
 low:Nat
structure Chunk where
 hi:Nat
 l:List Fact
structure Hooks where
 catch_:Option Nat
 indexByte:Option Nat
 symm:Option Nat
 symB:List (List (Int×Int))->Bool
 facts:List Chunk
 links:Option Nat
def eqK(a b:IntKind):Bool:=decide (a=b)
def eqInt:Int->Int->Bool
 |.ofNat a,.ofNat b=>zA a b
 |.negSucc a,.negSucc b=>zA a b
 |_,_=>false
def eqBytes:List UInt8->List UInt8->Bool
 |[],[]=>true
 |x::l,y::k=>zA x.toNat y.toNat&&eqBytes l k
 |_,_=>false
def eqAddr(a b:Addr):Bool:=zA a.block b.block&&zA a.off b.off&&a.spot.isNone&&b.spot.isNone
def eq1:Value->Value->Bool
 |.bool a,.bool b=>a==b
 |.int j a,.int k b=>eqK j k&&eqInt a b
 |.string a,.string b=>eqBytes a.data.toList b.data.toList
 |.pointer none,.pointer none=>true
 |.pointer (some a),.pointer (some b)=>eqAddr a b
 |.slice none m c,.slice none n d=>zA m n&&zA c d
 |.slice (some a) m c,.slice (some b) n d=>eqAddr a b&&zA m n&&zA c d
 |.map (some a),.map (some b)=>zA a b
 |.map none,.map none=>true
 |.nilFunc,.nilFunc=>true
 |.nilIface,.nilIface=>true
 |_,_=>false
def eqL1:List Value->List Value->Bool
 |[],[]=>true
 |x::l,y::k=>eq1 x y&&eqL1 l k
 |_,_=>false
def eq2:Value->Value->Bool
 |.agg a,.agg b=>eqL1 a.toList b.toList
 |.func (.func g) a c,.func (.func h) b d=>zA g h&&eqL1 a.toList b.toList&&eqL1 c.toList d.toList
 |x,y=>eq1 x y
def eqL2:List Value->List Value->Bool
 |[],[]=>true
 |x::l,y::k=>eq2 x y&&eqL2 l k
 |_,_=>false
def eqV:Value->Value->Bool
 |.tuple a,.tuple b=>eqL2 a.toList b.toList
 |x,y=>eq2 x y
def cellsAre(c:T Value):Nat->List Value->Bool
 |_,[]=>true
 | j,v::l=>(match c.get j with
   |some u=>eq2 u v
   |none=>false)&&cellsAre c (zC j) l
def blkIs(m:Mem)(b:BlkL):Bool:=match m.b.get b.i with
 |some (.cells c n e z)=>zA n b.l.length&&zA e b.e&&zA z b.z&&zF b.l.length 1000000&&cellsAre c 0 b.l
 |_=>false
def BlkL.blk(b:BlkL):ABlk:=.cells (tOf b.l) b.l.length b.e b.z
def blksT(t:T ABlk):List BlkL->T ABlk
 |[]=>t
 |b::l=>T.strict (T.set (zC b.i) t b.i (some b.blk)) fun t=>blksT t l
def dropT(t:T ABlk)(low:Nat):List BlkL->T ABlk
 |[]=>t
 |b::l=>iteB (zB low b.i) (T.strict (T.set (zC b.i) t b.i none) fun t=>dropT t low l) (dropT t low l)
def Fact.mem(f:Fact):Mem:=⟨f.next0,blksT .leaf f.pre,f.next0⟩
def Fact.fits(f:Fact)(g:FuncId)(args:List Value)(m:Mem):Bool :=
 zA f.g g&&zA f.next0 m.next&&eqL2 f.args args&&f.pre.all (blkIs m)
def Fact.out(f:Fact)(m:Mem):Out:=.call f.v ⟨f.next1,blksT (dropT m.b f.low f.pre) f.post,f.low⟩
def findIn(g:FuncId)(args:List Value)(m:Mem)(l:List Fact):Option Out:=zJ none (fun f _ ih=>iteB (f.fits g args m) (some (f.out m)) ih) l
def findFact(g:FuncId)(args:List Value)(m:Mem)(cs:List Chunk):Option Out:=zJ none (fun c _ ih=>iteB (zF c.hi m.next) ih (findIn g args m c.l)) cs
def inI64:Int->Bool
 |.ofNat n=>zB n 9223372036854775807
 |.negSucc n=>zB n 9223372036854775807
def pairsOf:List Value->Option (List (Int×Int))
 |[]=>some []
 | .int .i64 a :: .int .i64 b::l=>(match pairsOf l with
   |some r=>bif inI64 a&&inI64 b then some ((a,b)::r)else none
   |none=>none)
 |_=>none
def linksOf(m:Mem)(v:Value):Option (List (Int×Int)) :=
 match rowOf m 2 v with
 |some (l,_)=>pairsOf l
 |none=>none
def mapO{α β:Type}(f:α->Option β):List α->Option (List β)
 |[]=>some []
 | x :: l=>match f x with
   |none=>none
   | some y=>match mapO f l with
     |none=>none
     |some r=>some (y::r)
def portsOf(m:Mem)(v:Value):Option (List (List (Int×Int))) :=
 match rowOf m 1 v with
 |some (l,_)=>mapO (linksOf m) l
 |none=>none
def findByte(c:UInt8):List UInt8->Nat->Option Nat
 |[],_=>none
 |x::l,i=>bif zA x.toNat c.toNat then some i else findByte c l (i+1)
structure R2 where
 v:Value
 m:Mem
 foot:Option (List Nat)
 mods:Option (List Nat)
def Eff.mods:Eff->List Nat
 |.upd i _=>[i]
 |.move i _=>[i]
 |_=>[]
section
variable (P:Program) (self:Task->Option Out)
structure FM where
 f:Fr
 m:Mem
def backM(low:Nat)(m:Mem):Mem:=match m with|⟨next,b,low'⟩=>Mem.mk1 next b (zL low low')
def afterCall(m:Mem):Out->Option R2
 |.call v m'=>some ⟨v,backM m.low m',none,iteB (zB m.next m'.low) (some []) none⟩
 |_=>none
def evCall(m:Mem)(vs:List Value):Value->Option R2
 |.func (.func g) first captured=>ob (self (.call g (first.toList++vs++captured.toList) m)) (afterCall m)
 |_=>none
def afterOp(m:Mem)(r:R):Option R2:=some ⟨r.v,m.app r.e,some r.foot,some r.e.mods⟩
def evOne1(f:Fr)(o:Oper)(m:Mem):Op->Option R2
 |.call { callee:=.value fx,args,.. }=>ob (f.get fx) fun g=>ob (valsA f args.toList) fun vs=>evCall self m vs g
 |_=>ob (evOp P f o m) (afterOp m)
def evOne(f:Fr)(o:Oper)(m:Mem):Option R2:=evOne1 P self f o m o.op
def boolIs(want:Bool):Value->Bool
 |.bool b=>b==want
 |_=>false
def wantedD(f:Fr)(want:Bool):Option Tmp->Option Bool
 |none=>some false
 |some d=>ob (f.t.get d) fun v=>some (boolIs want v)
def wantedG(ops:List Oper)(f:Fr)(g:Nat×Bool):Option Bool :=
 match ops[g.1]? with
 |none=>some false
 |some oj=>wantedD f g.2 oj.dst
def wantedA(ops:List Oper)(f:Fr)(o:Oper):Option Bool:=zI (some true) (wantedG ops f) o.guard
def putNext(m:Mem)(k:Fr->Mem->Option FM)(x:Option Fr):Option FM:=ob x fun f=>Mem.strict m (k f)
def evOps1(o:Oper)(k:Fr->Mem->Option FM)(f:Fr)(m:Mem)(b:Bool):Option FM :=
 zD (putNext m k (f.put o.dst undef)) (ob (evOne P self f o m) fun r=>putNext r.m k (f.put o.dst r.v)) b
def evOps(ops:List Oper)(l:List Oper):Fr->Mem->Option FM :=
 zJ (fun f m=>some ⟨f,m⟩) (fun o _ k f m=>ob (wantedA ops f o) (evOps1 P self o k f m)) l
structure Rec where
 i:Nat
 foot:Option (List Nat)
 mods:Option (List Nat)
 lo:Nat
 hi:Nat
def before1(a b:Rec):Bool :=
 match b.mods with
 |none=>false
 | some ms=>match a.foot with
   |none=>ms.isEmpty&&zA b.lo b.hi
   |some fs=>fs.all fun x=>!(ms.elem x) && !(zB b.lo x&&zF x b.hi)
def apart2(a b:Rec):Bool :=
 before1 a b&&before1 b a&&(match a.mods,b.mods with|some x,some y=>x.all fun i=>!(y.elem i)|_,_=>false)
def ancOf(o:Oper)(acc:List Nat):Nat :=
 o.after.toList.foldl (fun s e=>bif Region.binds .any e then s|||2^e.on|||acc.getD (acc.length-1-e.on) 0 else s) 0
def ancs:List Oper->List Nat->List Nat
 |[],acc=>acc
 |o::l,acc=>ancs l (ancOf o acc::acc)
def tmpsOf(ops:List Oper)(o:Oper):List Nat :=
 (o.op.operands.toList.filterMap fun | .tmp t=>some t|_=>none)++(match o.guard with|none=>[]|some (j,_)=>(match ops[j]? with|some oj=>oj.dst.toList|none=>[]))++o.dst.toList
def dstApart(ops:List Oper)(a b:Oper):Bool :=
 (match a.dst with|none=>true|some d=>!((tmpsOf ops b).elem d))&&(match b.dst with|none=>true|some d=>!((tmpsOf ops a).elem d))
def slotsOk(ops:List Oper)(an:List Nat):Bool :=
 (ops.zipIdx.all fun(o,i)=>(o.after.toList.all fun e=>!(Region.binds .any e)||zF e.on i) &&
   ops.zipIdx.all fun(o',j)=>zB i j||(zK (an.getD i 0) j)||dstApart ops o o')
def idle(r:R2)(lo hi:Nat):Bool:=match r.foot,r.mods with
 |some [],some []=>zA lo hi
 |_,_=>false
def evDraw3(o:Oper)(i:Nat)(a:Nat)(rs:List Rec)(k:List Rec->Fr->Mem->Option FM)(f:Fr)(m:Mem)(r:R2):Option FM :=
 iteB (rs.all fun q=>zK a q.i||apart2 ⟨i,r.foot,r.mods,m.next,r.m.next⟩ q)
  (putNext r.m (k (⟨i,r.foot,r.mods,m.next,r.m.next⟩::rs)) (f.put o.dst r.v)) none
def evDraw2(o:Oper)(i:Nat)(a:Nat)(rs:List Rec)(k:List Rec->Fr->Mem->Option FM)(f:Fr)(m:Mem)(r:R2):Option FM :=
 iteB (idle r m.next r.m.next) (putNext r.m (k rs) (f.put o.dst r.v)) (evDraw3 o i a rs k f m r)
def evDraw1(o:Oper)(i:Nat)(a:Nat)(rs:List Rec)(k:List Rec->Fr->Mem->Option FM)(f:Fr)(m:Mem)(b:Bool):Option FM :=
 zD (putNext m (k rs) (f.put o.dst undef)) (ob (evOne P self f o m) (evDraw2 o i a rs k f m)) b
def evDraw(ops:List Oper):List Oper->Nat->List Nat->List Rec->Fr->Mem->Option FM
 |[],_,_,_,f,m=>some ⟨f,m⟩
 |o::rest,i,an,rs,f,m=>ob (wantedA ops f o) (evDraw1 P self o i (an.headD 0) rs (evDraw ops rest (zC i) an.tail) f m)
def again(k:Fr->Mem->Option Out):Out->Option Out
 |.code .normal f m=>k f m
 |r=>some r
def evLoop(c:Code)(n:Nat):Fr->Mem->Option Out :=
 zG (fun _ _=>none) (fun _ k f m=>ob (self (.code c f m)) (again k)) n
def resA(m:Mem)(f:Fr):List ResultVar->Option (List Value)
 |[]=>some []
 | .tmp t::l=>(match f.t.get t,resA m f l with
   |some v,some r=>some (v::r)
   |_,_=>none)
 | .cell a t::l=>match f.t.get a,resA m f l with
   | some (.pointer (some a)),some r=>(match loadA P m t a with
     |some v=>some (v::r)
     |none=>none)
   |_,_=>none
def enterM(m:Mem):Mem:=⟨m.next,m.b,m.next⟩
def leave(m0 m:Mem)(v:Value):Out :=
 iteB (zB m0.next m.low&&atomR v) (.call v ⟨m.next,m0.b,m.low⟩) (.call v m)
def oneOrTuple:List Value->Value
 |[v]=>v
 |vs=>.tuple vs.toArray
def leaveFn(m0:Mem)(rs:List ResultVar)(f:Fr)(m:Mem):Option Out:=ob (resA P m f rs) fun vs=>some (leave m0 m (oneOrTuple vs))
def endFn(m0:Mem)(rs:List ResultVar):Out->Option Out
 |.code .normal f m=>leaveFn P m0 rs f m
 |.code .ret f m=>leaveFn P m0 rs f m
 |_=>none
def enterBody(rs:List ResultVar)(args:List Value)(m:Mem)(n:Nat)(c:Code):Option Out :=
 ob (forceN (Nat.max args.length n) fun n=>T.strict (tOf args) fun t=>self (.code c ⟨n,t⟩ (enterM m))) (endFn P m rs)
def enterFn(args:List Value)(m:Mem)(fn:Func):Option Out:=ob fn.body fun c=>enterBody P self fn.results.toList args m fn.ntmps c
def afterCatch:Out->Option Out
 |.call _ m=>some (.call (.tuple #[.int .i64 0,.int .i64 0]) m)
 |_=>none
def evCatch(m:Mem):List Value->Option Out
 |[.func (.func h) first captured]=>ob (self (.call h (first.toList++captured.toList) m)) afterCatch
 |_=>none
def evIndexByte(m:Mem):List Value->Option Out
 | [.string s,.int .u8 (.ofNat c)]=>(match findByte c.toUInt8 s.data.toList 0 with
   |some i=>forceN i fun i=>some (.call (.int .i64 (.ofNat i)) (enterM m))
   |none=>some (.call (.int .i64 (.negSucc 0)) (enterM m)))
 |_=>none
def evSymm(symB:List (List (Int×Int))->Bool)(m:Mem):List Value->Option Out
 |[v]=>ob (portsOf m v) fun ps=>iteB (zB ps.length 1000) (some (.call (.bool (symB ps)) (enterM m))) none
 |_=>none
def hit(g:Nat)(h:Option Nat):Bool:=match h with
 |some k=>zA g k
 |none=>false
def callStep1(H:Hooks)(g:FuncId)(args:List Value)(m:Mem):Option Out :=
 iteB (hit g H.catch_) (evCatch self m args)
  (iteB (hit g H.indexByte) (evIndexByte m args)
    (iteB (hit g H.symm) (evSymm H.symB m args) (ob P.funcs[g]? (enterFn P self args m))))
def callStep(H:Hooks)(g:FuncId)(args:List Value)(m:Mem):Option Out :=
 zI (callStep1 P self H g args m) some (findFact g args m H.facts)
def thenCode(b:Code):Out->Option Out
 |.code .normal f m=>self (.code b f m)
 |r=>some r
def condStep(a b:Code)(f:Fr)(m:Mem):Value->Option Out
 |.bool t=>zD (self (.code b f m)) (self (.code a f m)) t
 |_=>none
def endBlock(id:Nat):Out->Option Out
 |.code (.exit i) f m=>iteB (zA i id) (some (.code .normal f m)) (some (.code (.exit i) f m))
 |r=>some r
def endRegion(x:FM):Option Out:=some (.code .normal x.f x.m)
def drawStep(ops:List Oper)(an:List Nat)(f:Fr)(m:Mem):Option Out :=
 iteB (slotsOk ops an) (ob (evDraw P self ops ops 0 an [] f m) endRegion) none
def regionStep(ops:List Oper)(d:Bool)(f:Fr)(m:Mem):Option Out :=
 zD (ob (evOps P self ops ops f m) endRegion) (drawStep P self ops (ancs ops []).reverse f m) d
def noRF:Code->Bool
 |.seq a b=>noRF a&&noRF b
 |.cond _ a b=>noRF a&&noRF b
 |.block _ b=>noRF b
 |.loop b=>noRF b
 |.scope b=>noRF b
 |.rangeFunc _ _ _ _=>false
 |_=>true
def boxPorts(m:Mem)(A:Addr):Option Value:=match A.spot,m.b.get A.block with
 |none,some (.cells c n _ _)=>bif zF (A.off+1) n then c.get (A.off+1)else none
 |_,_=>none
structure GV where
 v:Value
 us:List Value
 ps:List (List (Int×Int))
def graphOf(m:Mem)(A:Addr):Option GV :=
 ob (boxPorts m A) fun v=>ob (rowOf m 1 v) fun q=>ob (mapO (linksOf m) q.1) fun ps=>some ⟨v,q.1,ps⟩
def eqLk:List (Int×Int)->List (Int×Int)->Bool
 |[],[]=>true
 |x::l,y::k=>eqInt x.1 y.1&&eqInt x.2 y.2&&eqLk l k
 |_,_=>false
def eqPs:List (List (Int×Int))->List (List (Int×Int))->Bool
 |[],[]=>true
 |x::l,y::k=>eqLk x y&&eqPs l k
 |_,_=>false
def sameG(A:Addr)(g:GV)(m:Mem):Bool:=match graphOf m A with
 |some h=>eq1 h.v g.v&&eqL1 h.us g.us&&eqPs h.ps g.ps
 |none=>false
structure El where
 v:Nat
 a:Int
 b:Int
def flatAt(v:Nat):List (List (Int×Int))->List El
 |[]=>[]
 |ls::l=>(ls.map fun x=>⟨v,x.1,x.2⟩)++flatAt (v+1) l
def El.v0(x:El):Value:=.int .i64 (.ofNat x.v)
def El.v1(x:El):Value:=.agg #[.int .i64 x.a,.int .i64 x.b]
def bodyRound(body:Code):Out->Option Out
 |.code .normal f m=>self (.code body f m)
 |_=>none
def evRound(f:Fr)(p q:Nat)(assign body:Code)(x:El)(m:Mem):Option Out :=
 ob (forceN x.v fun v=>Fr.putD (.int .i64 (.ofNat v)) p f) fun f1=>ob (Fr.putD x.v1 q f1) fun f2=>ob (self (.code assign f2 m)) (bodyRound self body)
def afterRound(f:Fr)(k:Mem->Option Out):Out->Option Out
 |.code .normal _ m=>k m
 |.code .ret _ m=>some (.code .ret f m)
 |.code (.exit id) _ m=>some (.code (.exit id) f m)
 |_=>none
def evRounds(f:Fr)(p q:Nat)(assign body:Code)(ok:Mem->Bool)(l:List El):Mem->Option Out :=
 zJ (fun m=>iteB (ok m) (some (.code .normal f m)) none) (fun x _ ih m=>iteB (ok m) (ob (evRound self f p q assign body x m) (afterRound f ih)) none) l
def evRange(lk:Option Nat)(f:Fr)(m:Mem)(ps:List Nat)(assign body:Code):Value->Option Out
 | .func (.func g) first captured=>(match ps,first.toList,captured.toList with
   | [p,q],[],[.pointer (some A)]=>iteB (hit g lk&&noRF assign&&noRF body)
       (ob (graphOf m A) fun gv=>evRounds self f p q assign body (sameG A gv) (flatAt 0 gv.ps) m) none
   |_,_,_=>none)
 |_=>none
def codeStep(lk:Option Nat)(f:Fr)(m:Mem):Code->Option Out
 |.skip=>some (.code .normal f m)
 |.seq a b=>ob (self (.code a f m)) (thenCode self b)
 |.cond c a b=>ob (f.get c) (condStep self a b f m)
 |.block id b=>ob (self (.code b f m)) (endBlock id)
 |.loop b=>evLoop self b 1000000 f m
 |.exit id=>some (.code (.exit id) f m)
 |.ret=>some (.code .ret f m)
 |.region _ ops d=>regionStep P self ops.toList d f m
 |.rangeFunc g ps assign body=>ob (f.get g) (evRange self lk f m ps.toList assign body)
 |_=>none
def evStep(H:Hooks):Task->Option Out
 |.code c f m=>codeStep P self H.links f m c
 |.call g args m=>callStep P self H g args m
def ev(H:Hooks)(n:Nat):Task->Option Out:=zG (fun _=>none) (fun _ ih=>evStep P ih H) n
end
def mem0:Mem:=⟨0,.leaf,0⟩
def Fact.check(P:Program)(H:Hooks)(f:Fact):Bool:=match ev P H 3000 (.call f.g f.args f.mem)with
 |some (.call v m)=>eqV v f.v&&zA m.next f.next1&&zB f.low m.low&&f.post.all (fun b=>zB f.low b.i&&blkIs m b)
 |_=>false
end
end Ev
end
end Go.Proofs.YthclbjjgfcgbgaaGreatDoor
