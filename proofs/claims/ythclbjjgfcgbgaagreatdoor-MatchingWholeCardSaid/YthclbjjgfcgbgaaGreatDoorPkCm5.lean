/- Joined. -/
import Derived.Test.YthclbjjgfcgbgaaGreatDoorPkCm4
set_option linter.unusedSimpArgs false
set_option linter.unusedVariables false
open Bool renaming and_eq_true->zA,not_eq_true'->zQ
open Option renaming bind_some->zB,bind_assoc->zS
open List renaming mem_cons_of_mem->zC,mem_cons_self->zD,all_cons->zG,mem_append_right->zK,mem_append_left->zM,mem_filter->zT,range->zX
open Nat renaming succ->zF,lt_of_lt_of_le->zH,le_trans->zI,add_mul->zJ,beq->zL,mul_le_mul_right->zN,eq_zero_or_pos->zO,add_assoc->zU,le_refl->zV,le_min->zW,min->zY
open Go
namespace Go.Proofs.YthclbjjgfcgbgaaGreatDoor
section
namespace Sh
open Go Ev
def yrr(P:Program)(key:TypeId):Bool:=match P.underlying key with
 |some (.struct fa)=>(fsK P 0 fa.toList==some [false,false]) && !(P.stoodInHeld key)
 |_=>false
def ybov(P:Program)(elem:TypeId):Option Nat:=match P.info? elem with
 | some i=>(match i.zero with
   |some (.bool false)=>some 0
   |some (.int .i64 (.ofNat 0))=>some 1
   |_=>none)
 |none=>none
section
variable {P:Program}{lo:Nat}{F:AM}{ω:Om}{s:SS}{f:Fr}{m:Mem}{o:Oper}{c:Prop}{r:SRec}
abbrev keyV(a b:Int):Value:=.agg #[.int .i64 a,.int .u32 b]
theorem ybaf{a b x y:Int}:yvq (keyV x y) a b=(decide (x=a)&&decide (y=b)):=rfl
theorem ytf{key:TypeId}(h:yrr P key=true):∃fa,P.underlying key=some (.struct fa)/\fsK P 0 fa.toList=some [false,false]/\P.stoodInHeld key=false:=by
 unfold yrr at h;split at h
 .rename_i fa hu
  rw[zA,beq_iff_eq,zQ]at h;exact⟨fa,hu,h.1,h.2⟩
 .cases h
theorem ycdj(a b:Int):RVL F ω [.i .i64 a,.i .u32 b] [.int .i64 a,.int .u32 b]:=.cons .i (.cons .i .nil)
theorem key_eq{key:TypeId}(h:yrr P key=true)(a b x y:Int):runPure P (Op.equal key (keyV a b) (keyV x y))=some (decide (a=x)&&decide (b=y)):=by
 obtain⟨fa,h1,h2,h3⟩:=ytf h;have e:=yqd (P:=P) (F:=fun _=>none) (ω:=om0) (d:=9998) (xs:=[.int .i64 a,.int .u32 b]) (ys:=[.int .i64 x,.int .u32 y]) fa.toList [false,false] 0 [.i .i64 a,.i .u32 b] [.i .i64 x,.i .u32 y] (decide (a=x)&&(decide (b=y)&&true)) h2 (by simp[eqL]) (ycdj a b) (ycdj x y)
 unfold Op.equal Op.maxDepth;rw[Bool.and_true]at e;rw[<-e];exact ygw 9999 key _ _ h1 h3
theorem ycmj{e:Bool}{n:Nat}{t:TypeId}{k kk:IntKind}{x:Int}(h:P.underlying t=some (.int kk)):runPure P (Instr.checkKey e (n+1) t (.int k x))=some ():=by
 unfold Instr.checkKey;exact(yw P _ (ybo h)).trans rfl
theorem ydca {fs : List Field} (h : fsK P 0 fs = some [false, false]) : ∃ f1 f2 k1 k2, fs = [f1, f2] /\ (f1.offset = 0 /\ (f1.name == "_") = false /\ P.underlying f1.type = some (.int k1)) /\ f2.offset = 1 /\ (f2.name == "_") = false /\ P.underlying f2.type = some (.int k2) := by
 have one : ∀ {o : Nat} {fs : List Field} {ks : List Bool}, fsK P o fs = some (false :: ks) -> ∃ f fs' k, fs = f :: fs' /\ (f.offset = o /\ (f.name == "_") = false /\ P.underlying f.type = some (.int k)) /\ fsK P (o + 1) fs' = some ks := by
  intro o fs ks h;cases fs with
  |nil=>cases h
  | cons f fs =>
    unfold fsK at h;split at h
    .rename_i hq
     split at h
     .rename_i k hk
      obtain⟨ks',h1,h2⟩:=Option.map_eq_some_iff.1 h;cases h2
      exact⟨f,fs,k,rfl,⟨hq.1,hq.2,hk⟩,h1⟩
     .obtain⟨ks',h1,h2⟩:=Option.map_eq_some_iff.1 h;cases h2
     .cases h
    .cases h
 obtain⟨f1,fs1,k1,rfl,a1,a2⟩:=one h;obtain⟨f2,fs2,k2,rfl,b1,b2⟩:=one a2;cases fs2 with
 |nil=>exact⟨f1,f2,k1,k2,rfl,a1,b1⟩
 | cons f3 fs3 =>
   exfalso
   unfold fsK at b2;split at b2
   .split at b2
    .obtain⟨_,_,q⟩:=Option.map_eq_some_iff.1 b2;cases q
    .obtain⟨_,_,q⟩:=Option.map_eq_some_iff.1 b2;cases q
    .cases b2
   .cases b2
theorem ycsg{key:TypeId}(h:yrr P key=true)(e:Bool)(a b:Int):runPure P (Instr.checkKey e 10000 key (keyV a b))=some ():=by
 obtain⟨fa,h1,h2,h3⟩:=ytf h;obtain⟨f1,f2,k1,k2,hf,⟨o1,n1,u1⟩,o2,n2,u2⟩:=ydca h2;unfold Instr.checkKey;refine(yw P _ (ybo h1)).trans ?_;simp only;rw[<-Array.forIn_toList,hf];have n1 : f1.name ≠ "_" := by simpa using n1
 have n2 : f2.name ≠ "_" := by simpa using n2
 have p1:runPure P (Go.part f1.type #[.int .i64 a,.int .u32 b] f1.offset)=some (.int .i64 a):=by rw[o1];exact yhy u1 rfl rfl
 have p2:runPure P (Go.part f2.type #[.int .i64 a,.int .u32 b] f2.offset)=some (.int .u32 b):=by rw[o2];exact yhy u2 rfl rfl
 have c1:=ycmj (P:=P) (e:=e) (n:=9998) (k:=.i64) (x:=a) u1;have c2:=ycmj (P:=P) (e:=e) (n:=9998) (k:=.u32) (x:=b) u2;simp only[List.forIn_cons,List.forIn_nil,ybn,if_pos n1,if_pos n2,p1,zB,zS];rw[c1];simp only[zB];rw[show runPure P (pure (ForInStep.yield PUnit.unit))=some (ForInStep.yield PUnit.unit)from rfl]
 simp only[zB,ybn,p2,zS];rw[c2];rfl
def yvm(a b:Int):List MapEntry->Nat->Option (Nat×Value)
 |[],_=>none
 |e::es,i=>if yvq e.key a b=true then some (i,e.val)else yvm a b es (i+1)
def ybti(es:List MapEntry):Prop:=∀e∈es,∃a b:Int,e.key=keyV a b/\0<=a/\0<=b/\b<4294967296
theorem yvf{key:TypeId}(h:yrr P key=true)(a b:Int):∀(es:List MapEntry) (i:Nat),ybti es->runPure P (Instr.findAsking key (keyV a b) es i)=some (yvm a b es i)
 |[],_,_=>rfl
 | e :: es,i,hk=>by
   obtain⟨x,y,hx,_⟩:=hk e zD;unfold Instr.findAsking yvm;rw[ybn,hx,key_eq h,ybaf,zB]
   by_cases q:a=x/\b=y
   .obtain⟨rfl,rfl⟩:=q;simp only[decide_true,Bool.and_self,if_true];rfl
   .have q1:(decide (a=x)&&decide (b=y))=false:=by simpa using fun e=>(not_and.1 q) e
    have q2:(decide (x=a)&&decide (y=b))=false:=by
     rw[<-q1];congr 1<;>exact decide_eq_decide.2 eq_comm
    rw[q1,q2];simp only[Bool.false_eq_true,if_false];exact yvf h a b es (i+1) fun e he=>hk e (zC _ he)
theorem yblv{key:TypeId}(h:yrr P key=true)(a b:Int){es:List MapEntry}(hk:ybti es):runPure P (Instr.findKey key (keyV a b) es)=some (yvm a b es 0):=by
 obtain⟨fa,h1,h2,h3⟩:=ytf h;unfold Instr.findKey;rw[ybn,ybo h1,zB];cases es with
 |nil=>rfl
 | cons e es =>
   have:Instr.findNow (.struct fa) (keyV a b) (e::es) 0=none:=by
    unfold Instr.findNow;rfl
   rw[this];exact yvf h a b _ 0 hk
theorem ybgd(a b:Int):∀(es:List MapEntry) (i:Nat),(yvm a b es i).map (·.2)=ygy a b es
 |[],_=>rfl
 | e::es,i=>by
   unfold yvm ygy;split
   .rfl
   .exact ybgd a b es (i+1)
theorem ybnf{a b:Int}{j:Nat}{v:Value}:∀{es:List MapEntry}{i:Nat},yvm a b es i=some (j,v)->∃pre e post,es=pre++e::post/\j=i+pre.length/\yvq e.key a b=true/\v=e.val/\ygy a b pre=none
 |[],_,h=>by cases h
 | e :: es,i,h=>by
   unfold yvm at h;split at h
   .rename_i hq
    cases h
    exact⟨[],e,es,rfl,rfl,hq,rfl,rfl⟩
   .rename_i hn
    obtain⟨pre,e',post,rfl,h2,h3,h4,h5⟩:=ybnf h;exact⟨e::pre,e',post,rfl,by rw[h2,List.length_cons];omega,h3,h4,by unfold ygy;rw[if_neg hn];exact h5⟩
theorem ybyz{elem:TypeId}{kd:Nat}(h:ybov P elem=some kd):∃z,runPure P (zeroValue elem)=some z/\ofV z=ylp kd/\simple z=true/\(kd=0\/kd=1):=by
 unfold ybov at h;split at h
 .rename_i i hi
  have ht:runPure P (typeInfo elem)=some i:=by
   unfold typeInfo;show runPure P (match P.info? elem with|some i=>_|none=>_)=_
   rw[hi];rfl
  have hz:∀{z:Value},i.zero=some z->runPure P (zeroValue elem)=some z:=fun {z} hz=>by
   unfold zeroValue;rw[ybn,ht,zB,hz];rfl
  split at h
  .rename_i q;cases h;exact⟨_,hz q,rfl,rfl,.inl rfl⟩
  .rename_i q;cases h;exact⟨_,hz q,rfl,rfl,.inr rfl⟩
  .cases h
 .cases h
theorem MapOk.keys{kd:Nat}{es:List MapEntry}{g:Nat->List SV}(h:MapOk kd es g):ybti es:=h.key
theorem ybnn{a b:Int}{v:Value}:∀{es:List MapEntry},ygy a b es=some v->∃e∈es,e.val=v
 |[],h=>by cases h
 | e :: es,h=>by
   unfold ygy at h;split at h
   .cases h;exact⟨e,zD,rfl⟩
   .obtain⟨e',h1,h2⟩:=ybnn h;exact⟨e',zC _ h1,h2⟩
theorem MapOk.simple{kd:Nat}{es:List MapEntry}{g:Nat->List SV}(h:MapOk kd es g){e:MapEntry}(he:e∈es):Ev.simple e.val=true:=by
 have:=h.kind e he;split at this
 .obtain⟨x,q⟩:=this;rw[q];rfl
 .obtain⟨x,q⟩:=this;rw[q];rfl
theorem yqe{v:Value}(h:simple v=true):atomR v=true:=by cases v<;>first|rfl|exact h|cases h
theorem yen{key elem:TypeId}{kd:Nat}(h:yrr P key=true)(he:ybov P elem=some kd){es:Array MapEntry}{g:Nat->List SV}(hm:MapOk kd es.toList g){a b:Int}(ha:0<=a)(hb:0<=b)(hb2:b<4294967296) :
 ∃v,runPure P (mapGet key elem es (keyV a b) false)=some v/\RV F ω ((g (mkey a b)).headD .bad) v/\atomR v=true:=by
 obtain⟨z,z1,z2,z3,_⟩:=ybyz he;have hv:=hm.val a b ha hb hb2;have hI:=ybgd a b es.toList 0;unfold mapGet;rw[ybn,ycsg h,zB,ybn,yblv h a b hm.keys,zB,hv];cases hq:yvm a b es.toList 0 with
 | none =>
   rw[hq]at hI;rw[<-hI];simp only[ybn,z1,zB,Option.map_none];refine⟨z,rfl,?_,yqe z3⟩;show RV F ω (ylp kd) z;rw[<-z2];exact ybwp z3
 | some q =>
   rw[hq]at hI;rw[<-hI];obtain⟨e,h1,h2⟩:=ybnn hI.symm;have h2:e.val=q.2:=h2;refine⟨q.2,rfl,?_,yqe (h2▸hm.simple h1)⟩;show RV F ω (ofV q.2) q.2;exact ybwp (h2▸hm.simple h1)
theorem ycfq(a b:Int):Instr.sameBits 10000 (keyV a b) (keyV a b)=true:=by
 simp[Instr.sameBits]
theorem ybzj{pre post:List MapEntry}{e:MapEntry}{f:MapEntry->MapEntry}:(pre++e::post).modify pre.length f=pre++f e::post:=by
 induction pre with
 |nil=>rfl
 |cons x l ih=>simp[ih]
theorem yfe{a b:Int}:∀{l k:List MapEntry},ygy a b (l++k)=match ygy a b l with|some v=>some v|none=>ygy a b k
 |[],_=>rfl
 | e::l,k=>by
   simp only[List.cons_append,ygy];split
   .rfl
   .exact yfe
theorem ybld{a b x y:Int}(ha:0<=a)(hb:0<=b)(hb2:b<4294967296)(hx:0<=x)(hy:0<=y)(hy2:y<4294967296)(h:mkey a b=mkey x y):a=x/\b=y:=by
 unfold mkey at h;omega
theorem map_set {key:TypeId}{kd:Nat}(h:yrr P key=true) {es:Array MapEntry}{cl:Nat}{g:Nat->List SV}(hm:MapOk kd es.toList g) {a b:Int}(ha:0<=a) (hb:0<=b) (hb2:b<4294967296) {v:Value}{w:SV}
 (hk:if kd=0 then ∃x,v = .bool x else ∃n,v = .int .i64 n) (hw:w=ofV v) :
 ∃es' cl',runPure P (mapSet key es cl (keyV a b) v)=some (es',cl')/\MapOk kd es'.toList (fun c=>if c=mkey a b then[w]else g c):=by
 have hI:=ybgd a b es.toList 0;unfold mapSet;rw[ybn,ycsg h,zB,ybn,yblv h a b hm.keys,zB];have hself:yvq (keyV a b) a b=true:=by rw[ybaf];simp
 have hoth:∀{x y:Int},¬(a=x/\b=y)->yvq (keyV a b) x y=false:=fun {x y} q=>by rw[ybaf];simpa using fun e=>(not_and.1 q) e
 cases hq:yvm a b es.toList 0 with
 | none =>
   rw[hq]at hI;refine⟨_,_,rfl,?_⟩;rw[Array.toList_push];refine⟨fun e he=>?_,fun e he=>?_,fun x y h1 h2 h3=>?_⟩
   .rcases List.mem_append.1 he with q|q
    .exact hm.key e q
    .rw[List.mem_singleton.1 q];exact⟨a,b,rfl,ha,hb,hb2⟩
   .rcases List.mem_append.1 he with q|q
    .exact hm.kind e q
    .rw[List.mem_singleton.1 q];exact hk
   .rw[yfe]
    by_cases q:a=x/\b=y
    .obtain⟨rfl,rfl⟩:=q;rw[if_pos rfl,<-hI];show _=[match (match (none:Option Value)with|some v=>some v|none=>ygy a b [_])with|some v=>ofV v|none=>ylp kd]
     unfold ygy;rw[if_pos hself,hw]
    .rw[if_neg (fun e=>q (ybld ha hb hb2 h1 h2 h3 e.symm)),hm.val x y h1 h2 h3];cases ygy x y es.toList with
     |some u=>rfl
     | none =>
       show _=[match ygy x y [_]with|some v=>ofV v|none=>ylp kd]
       unfold ygy;rw[if_neg (by rw[hoth q];simp)]
       rfl
 | some q =>
   obtain⟨j,u⟩:=q;obtain⟨pre,e,post,h1,h2,h3,h4,h5⟩:=ybnf hq;obtain⟨x0,y0,ek,_⟩:=hm.key e (by rw[h1];simp)
   have ek:e.key=keyV a b:=by
    rw[ek,ybaf]at h3;simp only[zA,decide_eq_true_eq]at h3;rw[ek,h3.1,h3.2]
   have hj:j=pre.length:=by omega
   have hget:(es[j]?).map (·.key)=some (keyV a b):=by
    rw[<-Array.getElem?_toList,h1,hj];simp[ek]
   refine⟨es.modify j (fun e=>{ e with key:=keyV a b,val:=v }),cl,?_,?_⟩
   .simp only[ybn,hget,Option.getD_some];unfold Instr.keyThatStays;rw[if_pos (ycfq a b)];rfl
   .rw[Array.toList_modify,h1,hj,ybzj];rw[h1]at hm;refine⟨fun e' he=>?_,fun e' he=>?_,fun x y k1 k2 k3=>?_⟩
    .rcases List.mem_append.1 he with q|q
     .exact hm.key e' (zM _ q)
     .rcases List.mem_cons.1 q with q|q
      .rw[q];exact⟨a,b,rfl,ha,hb,hb2⟩
      .exact hm.key e' (zK _ (zC _ q))
    .rcases List.mem_append.1 he with q|q
     .exact hm.kind e' (zM _ q)
     .rcases List.mem_cons.1 q with q|q
      .rw[q];exact hk
      .exact hm.kind e' (zK _ (zC _ q))
    .have hpre:∀{x y:Int},ygy x y (pre++e::post)=match ygy x y pre with|some v=>some v|none=>if yvq e.key x y=true then some e.val else ygy x y post:=fun {x y}=>yfe
     by_cases q:a=x/\b=y
     .obtain⟨rfl,rfl⟩:=q;rw[if_pos rfl,yfe,h5];show _=[match (if yvq (keyV a b) a b=true then some v else ygy a b post)with|some v=>ofV v|none=>ylp kd]
      rw[if_pos hself,hw]
     .rw[if_neg (fun e=>q (ybld ha hb hb2 k1 k2 k3 e.symm)),hm.val x y k1 k2 k3,yfe,yfe];cases ygy x y pre with
      |some u=>rfl
      | none =>
        show[match (if yvq e.key x y=true then some e.val else ygy x y post)with|some v=>ofV v|none=>ylp kd]=[match (if yvq (keyV a b) x y=true then some v else ygy x y post)with|some v=>ofV v|none=>ylp kd]
        rw[ek,hoth q];rfl
theorem RV.mr_inv{β:Nm}{u:Value}(h:RV F ω (.mr β) u):∃k z,ω β=some (some (k,z))/\u = .map (some k):=by
 cases h with
 |mr h=>exact⟨_,_,h,rfl⟩
theorem Conc.mapAt(hc:Conc lo F ω s f m){β:Nm}{k z:Nat}{b:OB}(hb:lookO s.o β=some b)(hk:ω β=some (some (k,z)))(he:b.e=CU):z=b.z/\(b.n=0/\b.bx=true)/\∃es cl,m.b.get k=some (.map es cl)/\MapOk b.z es.toList b.g:=by
 rcases hc.own β b hb with⟨k',T,L,h1,h0,h2,h3⟩|⟨h1,_⟩|⟨k',es,cl,h1,⟨h2,h3,h4⟩,h5,h6⟩
 .exact absurd he h0
 .rw[hk]at h1;cases h1
 .rw[hk]at h1;cases h1;exact⟨rfl,⟨h3,h4⟩,es,cl,h5,h6⟩
theorem Conc.newMap(hc:Conc lo F ω s f m){d:Nat}{b:OB}(hn:look s.o d=none)(he:b.e=CU/\b.n=0/\b.bx=true){es:Array MapEntry}{cl:Nat}(hm:MapOk b.z es.toList b.g) :
 Conc lo F (yfo ω (d,0) m.next b.z) (s.own (d,0) (some b)) f (m.app (.new (.map es cl))):=by
 have hω:=hc.dom (d,0) hn;have hle:=yid (k:=m.next) (z:=b.z) hω
 rw[ybgt];have hget:∀i,(T.set (zF m.next) m.b m.next (some (.map es cl))).get i=if i=m.next then some (.map es cl)else m.b.get i:=fun i=>T.set_at _ _ _ _
 have hold:∀{i x},m.b.get i=some x->i<m.next:=fun {i x} h=>hc.wf i x h
 refine⟨fun i x hx=>?_,hc.low,by show lo<=m.next+1;have:=hc.nxt;omega,fun i x hx=>?_,fun γ dd hd=>?_,fun γ hγ=>?_,?_,?_,fun t v hv=>?_⟩
 .have hx:(T.set (zF m.next) m.b m.next (some (.map es cl))).get i=some x:=hx
  rw[hget]at hx;show i<m.next+1
  split at hx
  .omega
  .have:=hold hx;omega
 .show(T.set (zF m.next) m.b m.next (some (.map es cl))).get i=some x
  have:=hc.sub i x hx;rw[hget,if_neg (by have:=hold this;omega)]
  exact this
 .have hd':(if (d,0)=γ then some b else lookO s.o γ)=some dd:=by rw[<-ymz (.inl rfl)];exact hd
  clear hd
  split at hd'
  .rename_i q;subst q;have hd2:=Option.some.inj hd';subst hd2;exact .inr (.inr ⟨m.next,es,cl,ych,he,by show(T.set (zF m.next) m.b m.next _).get m.next=_;rw[hget,if_pos rfl],hm⟩)
  .exact(hc.own γ dd hd').mono hle fun k z hk=>by show(T.set (zF m.next) m.b m.next _).get k=_;rw[hget,if_neg (by have:=(hc.apart γ k z hk).2.2;omega)]
 .obtain⟨q1,q2⟩:=ykv hγ;rw[ybly (fun e=>q1 (by rw[e]))];exact hc.dom γ q2
 .intro γ δ k z k' z' h1 h2 hne;unfold yfo at h1 h2;split at h1<;>split at h2
  .rename_i a b;exact absurd (a.trans b.symm) hne
  .cases h1;have:=(hc.apart δ k' z' h2).2.2;omega
  .cases h2;have:=(hc.apart γ k z h1).2.2;omega
  .exact hc.inj γ δ k z k' z' h1 h2 hne
 .intro γ k z h1;unfold yfo at h1;split at h1
  .cases h1
   refine⟨?_,hc.nxt,Nat.lt_succ_self _⟩;cases hF:F m.next with
   |none=>rfl
   |some x=>have:=hold (hc.sub _ _ hF);omega
  .obtain⟨a,b,d⟩:=hc.apart γ k z h1;exact⟨a,b,Nat.lt_succ_of_lt d⟩
 .obtain⟨u,h1,h2⟩:=hc.fr t v hv;exact⟨u,h1,h2.mono (Le.refl _) hle⟩
theorem Conc.updMap(hc:Conc lo F ω s f m){β:Nm}{k:Nat}{b:OB}(hex:∃c,lookO s.o β=some c)(hk:ω β=some (some (k,b.z)))(he:b.e=CU/\b.n=0/\b.bx=true){es:Array MapEntry}{cl:Nat}(hm:MapOk b.z es.toList b.g) :
 Conc lo F ω (s.own β (some b)) f (m.app (.upd k (.map es cl))):=by
 rw[yzg];have hget:∀i,(T.set (zF k) m.b k (some (.map es cl))).get i=if i=k then some (.map es cl)else m.b.get i:=fun i=>T.set_at _ _ _ _
 have hap:=hc.apart β k _ hk;refine⟨fun i x hx=>?_,?_,hc.nxt,fun i x hx=>?_,fun γ d hd=>?_,fun γ hγ=>?_,hc.inj,hc.apart,hc.fr⟩
 .have hx:(T.set (zF k) m.b k (some (.map es cl))).get i=some x:=hx;rw[hget]at hx;show i<m.next
  split at hx
  .rename_i q;rw[q];exact hap.2.2
  .exact hc.wf i x hx
 .show lo<=zY m.low k;have:=hc.low;have:=hap.2.1;rw[zW];omega
 .show(T.set (zF k) m.b k (some (.map es cl))).get i=some x;rw[hget,if_neg (fun q=>by rw[q,hap.1]at hx;cases hx)]
  exact hc.sub i x hx
 .have hd':(if β=γ then some b else lookO s.o γ)=some d:=by rw[<-ymz (.inr hex)];exact hd
  clear hd
  split at hd'
  .rename_i q;subst q;have hd2:=Option.some.inj hd';subst hd2;exact .inr (.inr ⟨k,es,cl,hk,he,by show(T.set (zF k) m.b k _).get k=_;rw[hget,if_pos rfl],hm⟩)
  .rename_i q
   exact(hc.own γ d hd').mono (Om.le_refl _) fun k' z' hk'=>by show(T.set (zF k) m.b k _).get k'=_;rw[hget,if_neg (fun e=>hc.inj γ β k' z' k _ hk' hk (Ne.symm q) e)]
 .exact hc.dom γ (ykv hγ).2
theorem ydhr(hc:Conc lo F ω s f m){t:TypeId}{β kd:Nat}(hop:o.op = .makeMap t none)(hn:ylo s 0 β=true) :
 OpS P lo F ω f m o ⟨c,⟨[],[],[(β,0)],false,false,false,false⟩,.mr (β,0),s.own (β,0) (some ⟨CU,true,kd,0,fun _=>[ylp kd]⟩)⟩:=by
 have hω:=hc.dom (β,0) (yfh hn);refine⟨⟨.map (some m.next),.new (.map #[] 0),[]⟩,yfo ω (β,0) m.next kd,by unfold evOp;rw[hop],yid hω,hc.newMap (b:=⟨CU,true,kd,0,fun _=>[ylp kd]⟩) (yfh hn) ⟨rfl,rfl,rfl⟩ ⟨fun e he=>(by cases he),fun e he=>(by cases he),fun a b _ _ _=>rfl⟩,.mr ych,fun γ k z hk=>?_,fun x hx=>(by cases hx),fun x hx=>(by cases hx),fun q=>(by cases q),fun _=>⟨(β,0),kd,by simp,ych⟩⟩
 unfold yfo at hk;split at hk
 .cases hk;exact .inr (zV _)
 .exact .inl hk
theorem ybvr{a b:Int}{u:Value}(h:RV F ω (.ag [.i .i64 a,.i .u32 b]) u):u=keyV a b:=by
 obtain⟨L,rfl,hL⟩:=h.ag_inv;cases hL with
 | cons h1 h2 =>
   cases h2 with
   | cons h3 h4 =>
     cases h4
     cases h1.int_inv
     cases h3.int_inv
     rfl
theorem ydxd (hc:Conc lo F ω s f m) {t key elem:TypeId}{x k:Operand}(hop:o.op = .lookup t x k false) (hd:P.underlying t=some (.map key elem)) {kd:Nat}(hk1:yrr P key=true) (hk2:ybov P elem=some kd)
 {β:Nm}{a b:Int}{ob:OB}(hx:s.get x=some (.mr β)) (hk:s.get k=some (.ag [.i .i64 a,.i .u32 b])) (hb:lookO s.o β=some ob) (he:ob.e=CU) (hz:ob.z=kd) (ha:0<=a/\0<=b/\b<4294967296) :
 OpS P lo F ω f m o ⟨c,⟨[β],[],[],false,false,false,false⟩,(ob.g (mkey a b)).headD .bad,s⟩:=by
 obtain⟨u,e1,r1⟩:=hc.get hx;obtain⟨u',e2,r2⟩:=hc.get hk;obtain⟨q,z,hq,rfl⟩:=RV.mr_inv r1;cases ybvr r2
 obtain⟨rfl,_,es,cl,g1,g2⟩:=hc.mapAt hb hq he;rw[hz]at g2;obtain⟨v,h1,h2,h3⟩:=yen (ω:=ω) (F:=F) hk1 hk2 g2 ha.1 ha.2.1 ha.2.2;refine OpS.pure hc (u:=v) (ft:=[q]) ?_ h2 (fun y hy=>by simp at hy;subst hy;exact .inl ⟨β,_,by simp,hq⟩)
 unfold evOp;rw[hop];show(Ev.ob (f.get k) fun k=>Ev.ob (P.underlying t) fun d=>Ev.ob (f.get x) (evLookup P m k false d))=_;rw[e2];show(Ev.ob (P.underlying t) fun d=>Ev.ob (f.get x) (evLookup P m _ false d))=_;rw[hd];show Ev.ob (f.get x) _=_;rw[e1];show iteB (atomA (keyV a b)) (Ev.ob (m.b.get q) fun b'=>evLookup1 P key elem (keyV a b) false q b') none=_;rw[ybe,if_pos (show atomA (keyV a b)=true from rfl),g1]
 show Ev.ob (runPure P (mapGet key elem es (keyV a b) false)) (fun v=>iteB (atomR v) (some ⟨v,.none,[q]⟩:Option R) none)=_;rw[h1];show iteB (atomR v) _ none=_;rw[ybe,if_pos h3]
theorem ydbo{kd:Nat}{v:SV}{u:Value}(h:mval kd v=true)(hr:RV F ω v u):v=ofV u/\simple u=true/\(if kd=0 then ∃x,u = .bool x else ∃n,u = .int .i64 n):=by
 unfold mval at h;split at h
 .have hk:kd=0:=by simpa using h
  cases hr
  refine⟨rfl,rfl,?_⟩;rw[if_pos hk];exact⟨_,rfl⟩
 .have hk:kd=1:=by simpa using h
  cases hr
  refine⟨rfl,rfl,?_⟩;rw[if_neg (by omega)];exact⟨_,rfl⟩
 .cases h
theorem ydpj (hc:Conc lo F ω s f m) {t key elem:TypeId}{x k y:Operand}(hop:o.op = .mapUpdate t x k y) (hd:P.underlying t=some (.map key elem)) {kd:Nat}(hk1:yrr P key=true)
 {β:Nm}{a b:Int}{ob:OB}{v:SV}(hx:s.get x=some (.mr β)) (hk:s.get k=some (.ag [.i .i64 a,.i .u32 b])) (hy:s.get y=some v) (hb:lookO s.o β=some ob) (he:ob.e=CU) (hz:ob.z=kd) (hv:mval kd v=true) (ha:0<=a/\0<=b/\b<4294967296) :
 OpS P lo F ω f m o ⟨c,⟨[β],[β],[],false,false,false,false⟩,.tp [],s.own β (some ⟨CU,true,kd,0,fun c=>if c=mkey a b then[v]else ob.g c⟩)⟩:=by
 obtain⟨u,e1,r1⟩:=hc.get hx;obtain⟨u',e2,r2⟩:=hc.get hk;obtain⟨w,e3,r3⟩:=hc.get hy;obtain⟨q,z,hq,rfl⟩:=RV.mr_inv r1;cases ybvr r2
 obtain⟨rfl,⟨n0,bx⟩,es,cl,g1,g2⟩:=hc.mapAt hb hq he;obtain⟨v1,v2,v3⟩:=ydbo hv r3;subst hz;obtain⟨es',cl',h1,h2⟩:=map_set (cl:=cl) hk1 g2 ha.1 ha.2.1 ha.2.2 v3 v1;refine⟨⟨undef,.upd q (.map es' cl'),[q]⟩,ω,?_,Om.le_refl _,hc.updMap (b:=⟨CU,true,ob.z,0,fun c=>if c=mkey a b then[v]else ob.g c⟩) ⟨_,hb⟩ hq ⟨rfl,rfl,rfl⟩ h2,.tp .nil,fun _ _ _ h=>.inl h,fun y hy=>?_,fun y hy=>?_,fun _=>rfl,fun q=>(by cases q)⟩
 .unfold evOp;rw[hop];show(Ev.ob (f.get k) fun k=>Ev.ob (f.get y) fun v=>Ev.ob (P.underlying t) fun d=>Ev.ob (f.get x) (evMapSet P m k v d))=_;rw[e2];show(Ev.ob (f.get y) fun v=>Ev.ob (P.underlying t) fun d=>Ev.ob (f.get x) (evMapSet P m _ v d))=_;rw[e3];show(Ev.ob (P.underlying t) fun d=>Ev.ob (f.get x) (evMapSet P m _ w d))=_;rw[hd];show Ev.ob (f.get x) _=_;rw[e1];show iteB (atomA (keyV a b)&&simple w) (Ev.ob (m.b.get q) fun b'=>evMapSet1 P key (keyV a b) w q b') none=_
  rw[ybe,if_pos (by rw[v2];rfl),g1]
  show Ev.ob (runPure P (mapSet key es cl (keyV a b) w)) (fun p=>(some ⟨undef,.upd q (.map p.1 p.2),[q]⟩:Option R))=_;rw[h1];rfl
 .simp at hy;subst hy;exact .inl ⟨β,_,by simp,hq⟩
 .simp[Eff.mods]at hy;subst hy;exact⟨β,_,by simp,hq⟩
end
end Sh
end
section
namespace Sh
open Go Ev
def placeOf(P:Program):TypeDesc->Option (Nat->Option (Nat×Nat))
 | .struct fs=>match placesA P fs.toList with
   |some pl=>some fun k=>pl[k]?
   |none=>none
 | .array _ e=>match P.info? e with
   |some j=>some fun k=>some (k*j.size,j.size)
   |none=>none
 |_=>none
def partsOf(place:Nat->Option (Nat×Nat))(ps:List (Nat×Operand)):Option (List (Nat×Nat×Operand)):=ps.mapM fun p=>(place p.1).map fun q=>(q.1,q.2,p.2)
noncomputable def yyr(P:Program)(t:TypeId)(z:List Value):TypeDesc->SOp
 | .array n e=>if n<=2 then .alloc t 1 (z.map ofV)else match P.info? e with
   | some j=>(match zeroA j with
     |some zj=>if eqL1 z (repl n zj)then .alloc t n (zj.map ofV)else .alloc t 1 (z.map ofV)
     |none=>.alloc t 1 (z.map ofV))
   |none=>.alloc t 1 (z.map ofV)
 |_=>.alloc t 1 (z.map ofV)
noncomputable def yzf(z:List Value)(ps:List (Nat×Operand))(pl:Nat->Option (Nat×Nat)):Option SOp:=match partsOf pl ps with
 |some qs=>some (.build (z.map ofV) qs)
 |none=>none
noncomputable def yso(n e:Nat)(ps:List (Nat×Operand))(i:TypeInfo)(z:List Value):Option SOp :=
 if n*i.size<=10000/\n<=10000 then(match partsOf (fun k=>some (k*i.size,i.size)) ps with
  |some qs=>some (.bslice e i.size n ((repl n z).map ofV) qs)
  |none=>none)else none
noncomputable def callOf(P:Program):Callee->List Operand->List TypeId->Option SOp
 |.value f,xs,_=>some (.call f xs)
 | .builtin .len,[x],[t]=>match P.underlying t with
   |some (.slice _)=>some (.len x)
   |_=>none
 | .builtin .append,[x,y],[t,u]=>if t=u then(match P.underlying t with
   | some (.slice e)=>(match P.info? e with
     |some i=>if (zeroA i).isSome/\i.bytes<=100000000/\i.size≠0 then some (.app e i.size i.bytes x y)else none
     |none=>none)
   |_=>none)else none
 |.builtin .max,[x,y],_=>some (.mm true x y)
 |.builtin .min,[x,y],_=>some (.mm false x y)
 |_,_,_=>none
def ydeb:BinOp->Operand->Operand->Bool
 |.sub,.tmp k,.const (.int .i64 (.ofNat n))=>zL n 1&&zL k 11
 |.sub,.tmp k,.tmp j=>zL k 38&&zL j 39
 |.add,.tmp k,.tmp j=>zL k 50&&zL j 51
 |_,_,_=>false
theorem ycia{op:BinOp}{x y:Operand}(h:ydeb op x y=true):op = .sub\/op = .add:=by
 unfold ydeb at h;split at h
 .exact .inl rfl
 .exact .inl rfl
 .exact .inr rfl
 .cases h
def ycfs(op:BinOp)(x y:Operand):SOp:=match op with
 |.add=>.wadd x y
 |_=>.wsub x y
noncomputable def ybzo(P:Program)(t:TypeId)(ne:Bool)(n:Nat)(e:TypeId)(x y:Operand):SOp :=
 match P.info? e with
 | some i=>if i.size=1/\P.eqGuardType P.depth t=false then(match fsK P 0 (arrF e n)with
   |some ks=>.seq ne ks x y
   |none=>.no)else .no
 |none=>.no
noncomputable def yckz(P:Program)(op:BinOp)(t:TypeId)(x y:Operand):SOp:=if ydeb op x y=true then ycfs op x y else match op,P.underlying t with
 |.eql,some .bool=>.beq false x y
 |.neq,some .bool=>.beq true x y
 | .eql,some (.struct fa)=>(match fsK P 0 fa.toList with
   |some ks=>if P.eqGuardType P.depth t=false/\P.stoodInHeld t=false then .seq false ks x y else .no
   |none=>.no)
 | .neq,some (.struct fa)=>(match fsK P 0 fa.toList with
   |some ks=>if P.eqGuardType P.depth t=false/\P.stoodInHeld t=false then .seq true ks x y else .no
   |none=>.no)
 |.eql,some (.array n e)=>ybzo P t false n e x y
 |.neq,some (.array n e)=>ybzo P t true n e x y
 |op,_=>.bin op x y
def mapK(P:Program)(t:TypeId):Option Nat:=(P.underlying t).bind fun
 |.map key elem=>if yrr P key=true then ybov P elem else none
 |_=>none
noncomputable def res(P:Program):Op->Option SOp
 |.move x=>some (.mv x)
 |.assign x=>some (.mv x)
 |.pick c a b=>some (.pick c a b)
 |.alloc t=>(P.info? t).bind fun i=>(zeroA i).bind fun z=>(P.underlying t).bind fun d=>some (yyr P t z d)
 |.box t x=>some (.box t x)
 |.build t parts=>(P.info? t).bind fun i=>(zeroA i).bind fun z=>(P.underlying t).bind fun d=>(placeOf P d).bind fun pl=>yzf z parts.toList pl
 | .buildSlice t n parts=>(P.underlying t).bind fun
   |.slice e=>(P.info? e).bind fun i=>(zeroA i).bind fun z=>yso n e parts.toList i z
   |_=>none
 |.load t x=>(P.underlying t).bind fun d=>(P.info? t).bind fun i=>some (.load (isAggD d) i.size x)
 |.store t x y=>(P.info? t).bind fun i=>some (.store i.size x y)
 |.nilCheck x=>some (.nilck x)
 | .fieldAddr t x k=>(P.underlying t).bind fun
   |.struct fs=>fs[k]?.bind fun fd=>(P.info? fd.type).bind fun i=>if i.size=0 then none else some (.faddr fd.offset i.size x)
   |_=>none
 | .field t x k=>(P.underlying t).bind fun
   |.struct fs=>fs[k]?.bind fun fd=>(P.info? fd.type).bind fun i=>(P.underlying fd.type).bind fun d=>some (.field (isAggD d) fd.offset i.size x)
   |_=>none
 | .indexAddr t x y=>(P.underlying t).bind fun
   |.slice e=>(P.info? e).bind fun i=>some (.idx i.size x y)
   |.array n e=>(P.info? e).bind fun i=>some (.idxA n i.size x y)
   |_=>none
 | .index t (.const (.string b)) k=>(P.underlying t).bind fun
   |.string=>some (.stri (b.data.toList.map UInt8.toNat) k)
   |_=>none
 |.extract x k=>some (.extract x k)
 |.makeFunc (.func g) a b=>some (.mkfn g a.toList b.toList)
 | .makeSlice t x y=>(P.underlying t).bind fun
   |.slice e=>(P.info? e).bind fun i=>(zeroA i).bind fun z=>some (.mk e i.size i.bytes (z.map ofV) x y)
   |_=>none
 | .slice t x lo hi none=>(P.underlying t).bind fun
   |.slice e=>(P.info? e).bind fun i=>some (.cut i.size x lo hi)
   |.array n e=>(P.info? e).bind fun i=>some (.cutA n i.size x lo hi)
   |_=>none
 |.binOp op t x y _=>some (yckz P op t x y)
 |.unOp op _ x=>some (.un op x)
 | .convert src dst x=>(P.underlying src).bind fun _=>(P.underlying dst).bind fun
   |.int k=>some (.conv k x)
   |_=>none
 |.makeMap t none=>(mapK P t).bind fun kd=>some (.mkmap kd)
 |.lookup t x k false=>(mapK P t).bind fun kd=>some (.mget kd x k)
 |.mapUpdate t x k y=>(mapK P t).bind fun kd=>some (.mset kd x k y)
 |.call c=>callOf P c.callee c.args.toList c.argTypes.toList
 |_=>none
section
variable {P:Program}{lo:Nat}{F:AM}{ω:Om}{s:SS}{f:Fr}{m:Mem}{o:Oper}
theorem bind_some{α β:Type}{x:Option α}{k:α->Option β}{r:β}(h:x.bind k=some r):∃a,x=some a/\k a=some r:=by
 cases x with
 |none=>cases h
 |some a=>exact⟨a,rfl,h⟩
theorem ybmr{t:TypeId}{kd:Nat}(h:mapK P t=some kd):∃key elem,P.underlying t=some (.map key elem)/\yrr P key=true/\ybov P elem=some kd:=by
 obtain⟨d,h1,h2⟩:=bind_some h;split at h2
 .split at h2
  .rename_i hk;exact⟨_,_,h1,hk,h2⟩
  .cases h2
 .cases h2
theorem ydkl(hc:Conc lo F ω s f m){t:TypeId}{i:TypeInfo}{z:List Value}{d:TypeDesc}(hop:o.op = .alloc t)(hi:P.info? t=some i)(hz:zeroA i=some z){r:XR}(hx:xOp s o.dst (yyr P t z d)=some r):OpS P lo F ω f m o r:=by
 have one:∀{r:XR},xOp s o.dst (.alloc t 1 (z.map ofV))=some r->OpS P lo F ω f m o r:=by
  intro r hx;simp only[xOp]at hx;split at hx
  .rename_i β hd
   split at hx
   .rename_i hn
    cases hx
    exact ybxd hc hop hi hz (n:=1) (zj:=z) (by simp[yjd,ysw]) (ygt hz).1 hn
   .cases hx
  .cases hx
 unfold yyr at hx;split at hx
 .split at hx
  .exact one hx
  split at hx
  .split at hx
   .rename_i hzj
    split at hx
    .rename_i he
     simp only[xOp]at hx;split at hx
     .split at hx
      .rename_i hn
       cases hx
       exact ybxd hc hop hi hz (ypg he) (ygt hzj).1 hn
      .cases hx
     .cases hx
    .exact one hx
   .exact one hx
  .exact one hx
 .exact one hx
theorem ydhm (hc:Conc lo F ω s f m) {t:TypeId}{parts:Array (Nat×Operand)}{i:TypeInfo}{z:List Value}{d:TypeDesc}{pl:Nat->Option (Nat×Nat)}{sop:SOp}(hop:o.op = .build t parts) (hi:P.info? t=some i) (hz:zeroA i=some z) (hd:P.underlying t=some d) (hp:placeOf P d=some pl)
 (hb:yzf z parts.toList pl=some sop) {r:XR}(hx:xOp s o.dst sop=some r):OpS P lo F ω f m o r:=by
 unfold yzf at hb;split at hb
 .rename_i qs hq
  cases hb
  simp only[xOp]at hx;split at hx
  .rename_i l hl
   cases hx
   refine ydkm hc hop hi hz hd (place:=pl) ?_ hq hl;unfold placeOf at hp;split at hp
   .split at hp
    .rename_i pl' h1;cases hp;exact .inl ⟨_,pl',rfl,h1,rfl⟩
    .cases hp
   .split at hp
    .rename_i j h1;cases hp;exact .inr ⟨_,_,j,rfl,h1,rfl⟩
    .cases hp
   .cases hp
  .cases hx
 .cases hb
theorem ycih (hc:Conc lo F ω s f m) {t e n:Nat}{parts:Array (Nat×Operand)}{i:TypeInfo}{z:List Value}{sop:SOp}(hop:o.op = .buildSlice t n parts) (hd:P.underlying t=some (.slice e)) (hi:P.info? e=some i) (hz:zeroA i=some z)
 (hb:yso n e parts.toList i z=some sop) {r:XR}(hx:xOp s o.dst sop=some r):OpS P lo F ω f m o r:=by
 unfold yso at hb;split at hb
 .rename_i hle
  split at hb
  .rename_i qs hq
   cases hb
   simp only[xOp]at hx;split at hx
   .rename_i β l hdst hl
    split at hx
    .rename_i hn
     cases hx
     exact yciy hc hop hd hi hz hle.1 hle.2 hq hl hn
    .cases hx
   .cases hx
  .cases hb
 .cases hb
theorem yebw (hc:Conc lo F ω s f m) {t e:Nat}{x y:Operand}{i:TypeInfo}(hop:o.op = .call { callee:=.builtin .append,args:=#[x,y],argTypes:=#[t,t] }) (hd:P.underlying t=some (.slice e)) (hi:P.info? e=some i) (hz:(zeroA i).isSome/\i.bytes<=100000000/\i.size≠0)
 {r:XR}(hx:xOp s o.dst (.app e i.size i.bytes x y)=some r) (hr:r.c):OpS P lo F ω f m o r:=by
 obtain⟨zv,hzv⟩:=Option.isSome_iff_exists.1 hz.1;simp only[xOp]at hx;split at hx
 .rename_i β v w hdst hv hw
  split at hx
  .rename_i q hq
   split at hx
   .rename_i hn
    split at hx
    .rename_i hq0
     split at hx
     .cases hx
      exact ycul hc hop hd hi hzv hz.2.1 hv hw hq hq0 (.inl rfl)
     .cases hx
      obtain⟨c1,c2,c3⟩:=hr;exact ycul hc hop hd hi hzv hz.2.1 hv hw hq hq0 (.inr ⟨_,_,_,rfl,c2,c3⟩)
     .cases hx
    split at hx
    .cases hx
     obtain⟨c1,c2,c3,c4⟩:=hr;exact ydnf hc hop hd hi hzv hz.2.1 hz.2.2 hv hw hq c1 hn c2 (.inl ⟨rfl,c3,c4,rfl⟩)
    .rename_i γ p n
     split at hx
     .rename_i b hb
      split at hx
      .rename_i hbb
       cases hx
       obtain⟨c1,c2,c3,c4,c5⟩:=hr;exact ydnf hc hop hd hi hzv hz.2.1 hz.2.2 hv hw hq c1 hn c3 (.inr ⟨γ,p,n,b,rfl,hb,hbb.1,hbb.2.1,hbb.2.2,c2,c4,c5,rfl⟩)
      .cases hx
     .cases hx
    .cases hx
   .cases hx
  .cases hx
 .cases hx
theorem arr2{x y:Operand}{a:Array Operand}(h:a.toList=[x,y]):a = #[x,y]:=by apply Array.toList_inj.1;simpa using h
theorem ydtn(hc:Conc lo F ω s f m){cl:Callee}{args:Array Operand}{ats:Array TypeId}{sop:SOp}(hop:o.op = .call { callee:=cl,args:=args,argTypes:=ats })(hb:callOf P cl args.toList ats.toList=some sop){r:XR}(hx:xOp s o.dst sop=some r)(hr:r.c):OpS P lo F ω f m o r:=by
 unfold callOf at hb;split at hb
 .cases hb;simp only[xOp]at hx;cases hx
 .rename_i x t ha ht
  have e1:args = #[x]:=by apply Array.toList_inj.1;simpa using ha
  have e2:ats = #[t]:=by apply Array.toList_inj.1;simpa using ht
  subst e1 e2;split at hb
  .rename_i hd
   cases hb
   simp only[xOp]at hx;split at hx
   .rename_i h;cases hx;exact ydfl hc hop hd h (.inl ⟨_,_,rfl⟩)
   .rename_i h;cases hx;exact ydfl hc hop hd h (.inr (.inl ⟨_,_,_,rfl⟩))
   .rename_i h;cases hx;exact ydfl hc hop hd h (n:=0) (.inr (.inr ⟨rfl,rfl⟩))
   .cases hx
  .cases hb
 .rename_i x y t u ha ht
  have e1:=arr2 ha;have e2:ats = #[t,u]:=by apply Array.toList_inj.1;simpa using ht
  subst e1 e2;split at hb
  .rename_i htu
   subst htu;split at hb
   .rename_i hd
    split at hb
    .rename_i hi
     split at hb
     .rename_i hz
      cases hb
      exact yebw hc hop hd hi hz hx hr
     .cases hb
    .cases hb
   .cases hb
  .cases hb
 .rename_i x y ha
  have e1:=arr2 ha;subst e1;cases hb
  simp only[xOp]at hx;split at hx
  .rename_i h1 h2
   split at hx
   .rename_i hk;subst hk;cases hx
    exact s_mm hc (mx:=true) hop h1 h2
   .cases hx
  .cases hx
 .rename_i x y ha
  have e1:=arr2 ha;subst e1;cases hb
  simp only[xOp]at hx;split at hx
  .rename_i h1 h2
   split at hx
   .rename_i hk;subst hk;cases hx
    exact s_mm hc (mx:=false) hop h1 h2
   .cases hx
  .cases hx
 .cases hb
theorem ybdb(hc:Conc lo F ω s f m){sop:SOp}(hres:res P o.op=some sop){r:XR}(hx:xOp s o.dst sop=some r)(hr:r.c):OpS P lo F ω f m o r:=by
 unfold res at hres;split at hres
 .rename_i hop;cases hres;simp only[xOp]at hx;split at hx
  .rename_i h;cases hx;exact s_mv hc (.inl hop) h
  .cases hx
 .rename_i hop;cases hres;simp only[xOp]at hx;split at hx
  .rename_i h;cases hx;exact s_mv hc (.inr hop) h
  .cases hx
 .rename_i hop;cases hres;simp only[xOp]at hx;split at hx
  .rename_i h
   split at hx
   .rename_i h2;cases hx;exact ydln hc hop h h2
   .cases hx
  .cases hx
 .rename_i hop
  obtain⟨i,h1,hres⟩:=bind_some hres;obtain⟨z,h2,hres⟩:=bind_some hres;obtain⟨d,h3,hres⟩:=bind_some hres;cases hres
  exact ydkl hc hop h1 h2 hx
 .rename_i hop;cases hres;simp only[xOp]at hx;split at hx
  .rename_i h1 h2
   split at hx
   .rename_i h3;cases hx;exact ydzz hc hop h2 h3.1 h3.2
   .cases hx
  .cases hx
 .rename_i hop
  obtain⟨i,h1,hres⟩:=bind_some hres;obtain⟨z,h2,hres⟩:=bind_some hres;obtain⟨d,h3,hres⟩:=bind_some hres;obtain⟨pl,h4,hres⟩:=bind_some hres;exact ydhm hc hop h1 h2 h3 h4 hres hx
 .rename_i hop
  obtain⟨d,h1,hres⟩:=bind_some hres;split at hres
  .obtain⟨i,h2,hres⟩:=bind_some hres;obtain⟨z,h3,hres⟩:=bind_some hres;exact ycih hc hop h1 h2 h3 hres hx
  .cases hres
 .rename_i hop
  obtain⟨d,h1,hres⟩:=bind_some hres;obtain⟨i,h2,hres⟩:=bind_some hres;cases hres;simp only[xOp]at hx;split at hx
  .rename_i h;exact ycve hc hop h1 h2 h hx hr
  .cases hx
 .rename_i hop
  obtain⟨i,h2,hres⟩:=bind_some hres;cases hres;simp only[xOp]at hx;split at hx
  .rename_i h h';exact ydjv hc hop h2 h h' hx hr
  .cases hx
 .rename_i hop;cases hres;simp only[xOp]at hx;split at hx
  .rename_i h;cases hx;exact ycca hc hop h (.inl ⟨_,rfl⟩)
  .rename_i h;cases hx;exact ycca hc hop h (.inr ⟨_,_,_,rfl⟩)
  .cases hx
 .rename_i hop
  obtain⟨d,h1,hres⟩:=bind_some hres;split at hres
  .obtain⟨fd,h2,hres⟩:=bind_some hres;obtain⟨i,h3,hres⟩:=bind_some hres;split at hres
   .cases hres
   .rename_i h0
    cases hres;simp only[xOp]at hx;split at hx
    .rename_i h
     split at hx
     .rename_i hl;cases hx;exact ybzv hc hop h1 h2 h3 h0 h (.inl ⟨_,rfl,hl,rfl⟩)
     .cases hx
    .rename_i h;cases hx;exact ybzv hc hop h1 h2 h3 h0 h (.inr ⟨_,_,_,rfl,rfl⟩)
    .cases hx
  .cases hres
 .rename_i hop
  obtain⟨d,h1,hres⟩:=bind_some hres;split at hres
  .obtain⟨fd,h2,hres⟩:=bind_some hres;obtain⟨i,h3,hres⟩:=bind_some hres;obtain⟨d',h4,hres⟩:=bind_some hres;cases hres;simp only[xOp]at hx;split at hx
   .rename_i h
    split at hx
    .rename_i hl;cases hx;exact ydge hc hop h1 h2 h3 h4 h hl
    .cases hx
   .cases hx
  .cases hres
 .rename_i hop
  obtain⟨d,h1,hres⟩:=bind_some hres;split at hres
  .obtain⟨i,h2,hres⟩:=bind_some hres;cases hres;simp only[xOp]at hx;split at hx
   .rename_i h h';exact ydzo hc hop h1 h2 h h' hx hr
   .cases hx
  .obtain⟨i,h2,hres⟩:=bind_some hres;cases hres;simp only[xOp]at hx;split at hx
   .rename_i h h'
    split at hx
    .rename_i b hb
     split at hx
     .rename_i hbb;cases hx;exact ycbm hc hop h1 h2 h h' hr (.inl ⟨_,b,_,_,rfl,hb,hbb,rfl⟩)
     .cases hx;exact ycbm hc hop h1 h2 h h' hr (.inr (.inl ⟨_,_,_,rfl,rfl⟩))
    .cases hx
   .rename_i h h';cases hx;exact ycbm hc hop h1 h2 h h' ⟨hr.1,hr.2.1⟩ (.inr (.inr ⟨_,rfl,hr.2.2,rfl⟩))
   .cases hx
  .cases hres
 .rename_i hop
  obtain⟨d,h1,hres⟩:=bind_some hres;split at hres
  .cases hres;simp only[xOp]at hx;split at hx
   .rename_i h;cases hx;exact ydrc hc hop h1 h hr
   .cases hx
  .cases hres
 .rename_i hop;cases hres;simp only[xOp]at hx;split at hx
  .rename_i h
   split at hx
   .rename_i h2;cases hx;exact yccx hc hop h h2
   .cases hx
  .cases hx
 .rename_i hop;cases hres;simp only[xOp]at hx;split at hx
  .rename_i h h';cases hx;exact ydrf hc hop h h'
  .cases hx
 .rename_i hop
  obtain⟨d,h1,hres⟩:=bind_some hres;split at hres
  .obtain⟨i,h2,hres⟩:=bind_some hres;obtain⟨z,h3,hres⟩:=bind_some hres;cases hres;simp only[xOp]at hx;split at hx
   .rename_i β k n k' n' hd h h'
    split at hx
    .rename_i hn;cases hx
     obtain⟨rfl,c1,c2,c3⟩:=hr;exact s_mk hc hop h1 h2 h3 h h' c1 c2 c3 hn
    .cases hx
   .cases hx
  .cases hres
 .rename_i hop
  obtain⟨d,h1,hres⟩:=bind_some hres;split at hres
  .obtain⟨i,h2,hres⟩:=bind_some hres;cases hres;simp only[xOp]at hx;split at hx
   .rename_i h
    split at hx
    .rename_i h3 h4
     split at hx
     .rename_i hz;subst hz;cases hx;exact ydqg hc hop h1 h2 h (.inl ⟨_,_,rfl,h3,h4,hr,rfl⟩)
     .cases hx
    .cases hx
   .rename_i h
    split at hx
    .rename_i h3 h4 h5
     split at hx
     .rename_i hz;cases hx;exact ydqg hc hop h1 h2 h (.inr ⟨_,_,_,_,_,rfl,h5,hz.1,hz.2,h3,h4,hr,rfl⟩)
     .cases hx
    .cases hx
   .cases hx
  .obtain⟨i,h2,hres⟩:=bind_some hres;cases hres;simp only[xOp]at hx;split at hx
   .rename_i h
    split at hx
    .rename_i h3 h4 h5
     split at hx
     .rename_i hz;cases hx;exact ydxv hc hop h1 h2 h h5 hz.2.1 hz.2.2.1 (by have:=hz.1;have:=hz.2.2.2;omega) h3 h4 hr
     .cases hx
    .cases hx
   .cases hx
  .cases hres
 .rename_i op t x y yt hop
  replace hres:=Option.some.inj hres
  have plain:sop = .bin op x y->OpS P lo F ω f m o r:=by
   rintro rfl;simp only[xOp]at hx;split at hx
   .rename_i h h'
    unfold ybqw at hx;split at hx
    .rename_i h2;cases hx;exact yebr hc hop h h' h2 hr
    .cases hx
   .cases hx
  unfold yckz at hres;split at hres
  .rename_i hw
   rcases ycia hw with rfl|rfl
   .subst hres;simp only[ycfs,xOp]at hx;split at hx
    .rename_i h1 h2
     split at hx
     .rename_i hk;subst hk;cases hx;exact ydro hc hop h1 h2
     .cases hx
    .cases hx
   .subst hres;simp only[ycfs,xOp]at hx;split at hx
    .rename_i h1 h2
     split at hx
     .rename_i hk;subst hk;cases hx;exact ydxh hc hop h1 h2
     .cases hx
    .cases hx
  rename_i hnw
  clear hnw
  split at hres
  .rename_i ht
   subst hres;simp only[xOp]at hx;split at hx
   .rename_i h1 h2;cases hx;exact ydvd hc (ne:=false) hop ht h1 h2
   .cases hx
  .rename_i ht
   subst hres;simp only[xOp]at hx;split at hx
   .rename_i h1 h2;cases hx;exact ydvd hc (ne:=true) hop ht h1 h2
   .cases hx
  .rename_i ht
   split at hres
   .rename_i hk
    split at hres
    .rename_i hg
     subst hres;simp only[xOp]at hx;split at hx
     .rename_i h1 h2
      split at hx
      .rename_i h3;cases hx;exact ycge hc (ne:=false) hop (fun xs ys=>ygw 9999 _ xs ys ht hg.2) hk hg.1 h1 h2 h3
      .cases hx
     .cases hx
    .subst hres;cases hx
   .subst hres;cases hx
  .rename_i ht
   split at hres
   .rename_i hk
    split at hres
    .rename_i hg
     subst hres;simp only[xOp]at hx;split at hx
     .rename_i h1 h2
      split at hx
      .rename_i h3;cases hx;exact ycge hc (ne:=true) hop (fun xs ys=>ygw 9999 _ xs ys ht hg.2) hk hg.1 h1 h2 h3
      .cases hx
     .cases hx
    .subst hres;cases hx
   .subst hres;cases hx
  .rename_i ht
   unfold ybzo at hres;split at hres
   .rename_i hi
    split at hres
    .rename_i hg
     split at hres
     .rename_i hk
      subst hres;simp only[xOp]at hx;split at hx
      .rename_i h1 h2
       split at hx
       .rename_i h3;cases hx;exact ycge hc (ne:=false) hop (fun xs ys=>yok 9999 _ xs ys ht hi hg.1) hk hg.2 h1 h2 h3
       .cases hx
      .cases hx
     .subst hres;cases hx
    .subst hres;cases hx
   .subst hres;cases hx
  .rename_i ht
   unfold ybzo at hres;split at hres
   .rename_i hi
    split at hres
    .rename_i hg
     split at hres
     .rename_i hk
      subst hres;simp only[xOp]at hx;split at hx
      .rename_i h1 h2
       split at hx
       .rename_i h3;cases hx;exact ycge hc (ne:=true) hop (fun xs ys=>yok 9999 _ xs ys ht hi hg.1) hk hg.2 h1 h2 h3
       .cases hx
      .cases hx
     .subst hres;cases hx
    .subst hres;cases hx
   .subst hres;cases hx
  .exact plain hres.symm
 .rename_i hop;cases hres;simp only[xOp]at hx;split at hx
  .rename_i h
   unfold ybqw at hx;split at hx
   .rename_i h2;cases hx;exact s_un hc hop h h2 hr
   .cases hx
  .cases hx
 .rename_i hop
  obtain⟨d,h1,hres⟩:=bind_some hres;obtain⟨d',h2,hres⟩:=bind_some hres;split at hres
  .cases hres;simp only[xOp]at hx;split at hx
   .rename_i h;cases hx;exact ydlp hc hop h1 h2 h
   .cases hx
  .cases hres
 .rename_i hop
  obtain⟨kd,hk,hres⟩:=bind_some hres;cases hres;simp only[xOp]at hx;split at hx
  .rename_i β hd
   split at hx
   .rename_i hn;cases hx;exact ydhr hc hop hn
   .cases hx
  .cases hx
 .rename_i hop
  obtain⟨kd,hk,hres⟩:=bind_some hres;obtain⟨key,elem,h1,h2,h3⟩:=ybmr hk;cases hres;simp only[xOp]at hx;split at hx
  .rename_i e1 e2
   split at hx
   .rename_i ob hb
    split at hx
    .rename_i he;cases hx;exact ydxd hc hop h1 h2 h3 e1 e2 hb he.1 he.2 hr
    .cases hx
   .cases hx
  .cases hx
 .rename_i hop
  obtain⟨kd,hk,hres⟩:=bind_some hres;obtain⟨key,elem,h1,h2,h3⟩:=ybmr hk;cases hres;simp only[xOp]at hx;split at hx
  .rename_i e1 e2 e3
   split at hx
   .rename_i ob hb
    split at hx
    .rename_i he;cases hx;exact ydpj hc hop h1 h2 e1 e2 e3 hb he.1 he.2.1 he.2.2 hr
    .cases hx
   .cases hx
  .cases hx
 .rename_i c hop
  obtain⟨cl,args,ats⟩:=c;exact ydtn hc hop hres hx hr
 .cases hres
end
end Sh
end
section
namespace Sh
open Go Ev
noncomputable def frsh(n:Nat)(m':Mem)(G:AM):AM:=fun i=>if n<=i then m'.b.get i else G i
def Ct(P:Program)(g:FuncId)(args:List SV)(Q:SV->Prop):Prop :=
 ∀ (G:AM) (m:Mem) (us:List Value),Wf m->Le G m.b.get->RVL G om0 args us ->
   ∃v m' r,ycb P (.call g us m) (.call v m')/\m.next<=m'.low/\Le m.b.get m'.b.get/\Q r/\RV (frsh m.next m' G) om0 r v
theorem Ct.mono{P:Program}{g:FuncId}{args:List SV}{Q R:SV->Prop}(h:Ct P g args Q)(hq:∀r,Q r->R r):Ct P g args R:=fun G m us h1 h2 h3=>by
 obtain⟨v,m',r,a,b,c,d,e⟩:=h G m us h1 h2 h3;exact⟨v,m',r,a,b,c,hq r d,e⟩
section
variable {P:Program}{lo:Nat}{F G:AM}{ω ψ:Om}{s:SS}{f:Fr}{m:Mem}{o:Oper}
theorem yey{p:SV->Prop}:∀{l:List SV},allP p l->∀x∈l,p x
 | _::_,h,x,hx=>by
   rcases List.mem_cons.1 hx with q|q
   .rw[q];exact h.1
   .exact yey h.2 x q
theorem RVL.of_get:∀{l:List SV}{L:List Value},RVL F ω l L->(∀v u,v∈l->RV F ω v u->RV G ψ v u)->RVL G ψ l L
 |_,_,.nil,_=>.nil
 |_,_,.cons h hl,k=>.cons (k _ _ zD h) (hl.of_get fun v u hv=>k v u (zC _ hv))
theorem RVL.yen{k:SV->SV}:∀{l:List SV}{L:List Value},RVL F ω l L->(∀v u,v∈l->RV F ω v u->RV G ψ (k v) u)->RVL G ψ (l.map k) L
 |_,_,.nil,_=>.nil
 |_,_,.cons h hl,q=>.cons (q _ _ zD h) (hl.yen fun v u hv=>q v u (zC _ hv))
theorem yum:∀{n:Nat}{v:SV}{u:Value},scalar n v=true->RV F ω v u->RV G ψ v u
 |0,_,_,h,_=>by cases h
 | n+1,v,u,h,hr=>by
   cases hr with
   |i=>exact .i
   |b=>exact .b
   |a h'=>exact .a h'
   |ag hl=>exact .ag (hl.of_get fun v u hv=>yum (List.all_eq_true.1 h v hv))
   |tp hl=>exact .tp (hl.of_get fun v u hv=>yum (List.all_eq_true.1 h v hv))
   |_=>cases h
theorem yei:∀{n:Nat}{v:SV}{u:Value},owned n v=false->RV F ω v u->RV F ψ v u
 |0,_,_,h,_=>by cases h
 | n + 1,v,u,h,hr=>by
   have any:∀{l:List SV},l.any (owned n)=false->∀v∈l,owned n v=false:=fun {l} h v hv=>by
    cases hq:owned n v with
    |false=>rfl
    |true=>rw[List.any_eq_true.2 ⟨v,hv,hq⟩]at h;cases h
   cases hr with
   |i=>exact .i
   |b=>exact .b
   |a h'=>exact .a h'
   |sl0 h'=>exact .sl0 h'
   |sl a1 a2 a3 a4 a5 a6 a7=>exact .sl a1 a2 a3 a4 a5 a6 a7
   |rf a1 a2 a3 a4 a5=>exact .rf a1 a2 a3 a4 a5
   |ex a1 a2 a3=>exact .ex a1 a2 a3
   |ag hl=>exact .ag (hl.of_get fun v u hv=>yei (any h v hv))
   |tp hl=>exact .tp (hl.of_get fun v u hv=>yei (any h v hv))
   | fn ha hb =>
     have h:(_||_)=false:=h;rw[Bool.or_eq_false_iff]at h;exact .fn (ha.of_get fun v u hv=>yei (any h.1 v hv)) (hb.of_get fun v u hv=>yei (any h.2 v hv))
   |_=>cases h
theorem ycbe{n:Nat}{v:SV}{o:Own}(h1:one1 v=true)(hv:vok o n v):one1 (view o n v)=true:=by
 cases n with
 |zero=>cases hv
 | succ n =>
   cases v with
   | pt β i j =>
     simp only[view];simp only[vok]at hv;split at hv
     .rfl
     .cases hv
   | os β p k c =>
     simp only[view];simp only[vok]at hv;split at hv
     .rfl
     .cases hv
   |mr β=>cases hv
   |_=>first|rfl|exact h1
theorem yjy{n:Nat}{o:Own}:∀{l:List SV},l.all one1=true->allP (vok o n) l->(l.map (view o n)).all one1=true
 |[],_,_=>rfl
 | x::l,h,hp=>by
   simp only[zG,zA]at h;simp only[List.map_cons,zG,zA];exact⟨ycbe h.1 hp.1,yjy h.2 hp.2⟩
theorem ykj(hc:Conc lo F ω s f m)(hF:Le F G)(hG:∀β k z,ω β=some (some (k,z))->∀b,m.b.get k=some b->G k=some b):∀{n:Nat}{v:SV}{u:Value},RV F ω v u->vok s.o n v->RV G om0 (view s.o n v) u
 |0,_,_,_,h=>by cases h
 | n + 1,v,u,hr,hv=>by
   cases hr with
   |i=>exact .i
   |b=>exact .b
   |a h=>exact .a h
   |sl0 h'=>exact .sl0 h'
   |sl a1 a2 a3 a4 a5 a6 a7=>exact(RV.sl a1 a2 a3 a4 a5 a6 a7:RV F om0 _ _).mono hF (Om.le_refl _)
   |rf a1 a2 a3 a4 a5=>exact(RV.rf a1 a2 a3 a4 a5:RV F om0 _ _).mono hF (Om.le_refl _)
   |ex a1 a2 a3=>exact(RV.ex a1 a2 a3:RV F om0 _ _).mono hF (Om.le_refl _)
   |ag hl=>exact .ag (hl.yen fun v u hm hr=>ykj hc hF hG hr (yey hv v hm))
   |tp hl=>exact .tp (hl.yen fun v u hm hr=>ykj hc hF hG hr (yey hv v hm))
   |fn ha hb=>exact .fn (ha.yen fun v u hm hr=>ykj hc hF hG hr (yey hv.1 v hm)) (hb.yen fun v u hm hr=>ykj hc hF hG hr (yey hv.2 v hm))
   | pt hk =>
     rename_i β i j k z
     simp only[vok]at hv;simp only[view];split at hv
     .rename_i b hb
      obtain⟨⟨v1,v2⟩,v3⟩:=hv;obtain⟨rfl,T,L,g1,g2⟩:=hc.ownAt hb hk (.inl (by omega))
      obtain⟨l1,l2,l3,l4⟩:=g2 i v1;have hin:=ykc (z:=b.z) v1;refine .rf (L:=(L i).drop j) (hG _ _ _ hk _ g1) (by simp;omega) (fun q hq=>?_) ((l2.drop j).yen fun v u hm hr=>ykj hc hF hG hr (yey v3 v hm)) (yjy (yla l3 j) v3)
      simp at hq;rw[zU,l4 _ (by omega)]
      simp
     .cases hv
   | os hk hcu =>
     rename_i β p k ap cp q z
     simp only[vok]at hv;simp only[view];split at hv
     .rename_i b hb
      obtain⟨v1,v2⟩:=hv;rcases zO k with rfl|hk0
      .exact .sl0 (.inr ⟨_,_,_,rfl⟩)
      obtain⟨rfl,T,L,g1,g2⟩:=hc.ownAt hb hk (.inl (by omega))
      refine .sl (L:=fun a=>L (p+a)) (hG _ _ _ hk _ g1) (by cases b.bx<;>simp) ?_ (fun a ha=>(g2 (p+a) (by omega)).1) (fun a ha j hj=>?_) (fun a ha=>?_) (fun a ha=>yjy (g2 (p+a) (by omega)).2.2.1 (v2 a ha))
      .rw[<-zJ];exact zN _ v1
      .rw[<-zJ];exact(g2 (p+a) (by omega)).2.2.2 j hj
      .exact(g2 (p+a) (by omega)).2.1.yen fun v u hm hr=>ykj hc hF hG hr (yey (v2 a ha) v hm)
     .cases hv
   | os0 hk =>
     rename_i β
     simp only[vok]at hv;simp only[view];split at hv
     .exact .sl0 (.inl rfl)
     .cases hv
   |mr hk=>cases hv
theorem Conc.only(hc:Conc lo F ω s f m):∃ft:List Nat,(∀x∈ft,x<m.next/\((∃b,F x=some b)\/∃β z,ω β=some (some (x,z))))/\Le F (m.only ft).b.get/\∀β k z,ω β=some (some (k,z))->∀b,m.b.get k=some b->(m.only ft).b.get k=some b:=by
 classical
 refine⟨(zX m.next).filter fun x=>decide ((∃b,F x=some b)\/∃β z,ω β=some (some (x,z))),fun x hx=>?_,fun i b hb=>?_,fun β k z hk b hb=>?_⟩
 .rw[zT]at hx;exact⟨List.mem_range.1 hx.1,of_decide_eq_true hx.2⟩
 .have:=hc.sub i b hb;exact ydb.2 ⟨List.mem_filter.2 ⟨List.mem_range.2 (hc.wf i b this),decide_eq_true (.inl ⟨b,hb⟩)⟩,this⟩
 .exact ydb.2 ⟨List.mem_filter.2 ⟨List.mem_range.2 (hc.wf k b hb),decide_eq_true (.inr ⟨β,z,hk⟩)⟩,hb⟩
theorem ycb.weaken{g:FuncId}{us:List Value}{v:Value}{m':Mem}{ft:List Nat}(hw:Wf m)(h:ycb P (.call g us (m.only ft)) (.call v m')):ycb P (.call g us m) (.call v m'):=by
 intro _;obtain⟨e,h2⟩:=h (yeo hw);refine⟨⟨e.next,fun i b hb=>?_,fun i b h1 h3 hb=>(ydb.1 (e.old i b h1 h3 hb)).2,e.wf⟩,fun φ M w args' hR hs ha hf=>?_⟩
 .rcases e.dom i b hb with⟨x,hx⟩|q
  .exact .inl ⟨x,(ydb.1 hx).2⟩
  .exact .inr q
 .have:=h2 φ M w args' hR (fun i b hb=>hs i b (ydb.1 hb).2) ha hf;refine this.mono ?_;rintro e w' ⟨v',rfl,φ',M',hg,hv⟩;refine⟨v',rfl,φ',M',⟨hg.le,hg.out,hg.rel,hg.sub,fun i hi hn=>hg.frame i hi (hn.imp (fun q=>?_) id),hg.wg⟩,hv⟩;cases hq:(m.only ft).b.get i with
  |none=>rfl
  |some x=>rw[(ydb.1 hq).2]at q;cases q
theorem Conc.called(hc:Conc lo F ω s f m){m':Mem}(hw:Wf m')(hn:m.next<=m'.next)(hl:m.next<=m'.low)(hF:Le F m'.b.get)(hO:∀β k z,ω β=some (some (k,z))->∀b,m.b.get k=some b->m'.b.get k=some b) :
 Conc lo (frsh m.next m' F) ω s f (backM m.low m'):=by
 have hlt:∀{i b},F i=some b->i<m.next:=fun {i b} h=>hc.wf i b (hc.sub i b h)
 have hle:Le F (frsh m.next m' F):=fun i b h=>by unfold frsh;rw[if_neg (by have:=hlt h;omega)];exact h
 rw[ydz];refine⟨hw,?_,zI hc.nxt hn,fun i b hb=>?_,fun β b hb=>?_,hc.dom,hc.inj,fun β k z hk=>?_,fun t v hv=>?_⟩
 .show lo<=zY m.low m'.low;have:=hc.low;have:=hc.nxt;rw[zW];omega
 .unfold frsh at hb;split at hb
  .exact hb
  .exact hF i b hb
 .rcases hc.own β b hb with⟨k,T,L,h1,h0,h2,h3⟩|h|⟨k,es,cl,h1,h2,h3,h4⟩
  .exact .inl ⟨k,T,L,h1,h0,hO β k _ h1 _ h2,fun i hi=>⟨(h3 i hi).1,(h3 i hi).2.1.mono hle (Om.le_refl _),(h3 i hi).2.2⟩⟩
  .exact .inr (.inl h)
  .exact .inr (.inr ⟨k,es,cl,h1,h2,hO β k _ h1 _ h3,h4⟩)
 .obtain⟨a,b,d⟩:=hc.apart β k z hk;refine⟨?_,b,zH d hn⟩;unfold frsh;rw[if_neg (by omega)]
  exact a
 .obtain⟨u,h1,h2⟩:=hc.fr t v hv;exact⟨u,h1,h2.mono hle (Om.le_refl _)⟩
theorem Conc.grown(hc:Conc lo F ω s f m){m':Mem}(hn:m.next<=m'.next)(hw:Wf m'):Conc lo F ω s f (m.grow m'):=by
 have old:∀{i b},m.b.get i=some b->(m.grow m').b.get i=some b:=fun {i b} h=>by
  rw[yij,if_neg (by have:=hc.wf i b h;omega)];exact h
 refine⟨fun i b hb=>?_,hc.low,zI hc.nxt hn,fun i b hb=>old (hc.sub i b hb),fun β b hb=>?_,hc.dom,hc.inj,fun β k z hk=>⟨(hc.apart β k z hk).1,(hc.apart β k z hk).2.1,zH (hc.apart β k z hk).2.2 hn⟩,hc.fr⟩
 .rw[yij]at hb;split at hb
  .exact hw i b hb
  .exact zH (hc.wf i b hb) hn
 .rcases hc.own β b hb with⟨k,T,L,h1,h0,h2,h3⟩|h|⟨k,es,cl,h1,h2,h3,h4⟩
  .exact .inl ⟨k,T,L,h1,h0,old h2,h3⟩
  .exact .inr (.inl h)
  .exact .inr (.inr ⟨k,es,cl,h1,h2,old h3,h4⟩)
theorem Conc.grownF(hc:Conc lo F ω s f m){m':Mem}(hn:m.next<=m'.next)(hw:Wf m'):Conc lo (frsh m.next m' F) ω s f (m.grow m'):=by
 have h:=hc.grown hn hw;have hlt:∀{i b},F i=some b->i<m.next:=fun {i b} h=>hc.wf i b (hc.sub i b h)
 have hle:Le F (frsh m.next m' F):=fun i b h=>by unfold frsh;rw[if_neg (by have:=hlt h;omega)];exact h
 refine⟨h.wf,h.low,h.nxt,fun i b hb=>?_,fun β b hb=>?_,hc.dom,hc.inj,fun β k z hk=>?_,fun t v hv=>?_⟩
 .unfold frsh at hb;split at hb
  .rename_i q;rw[yij,if_pos q];exact hb
  .exact h.sub i b hb
 .rcases h.own β b hb with⟨k,T,L,h1,h0,h2,h3⟩|h
  .exact .inl ⟨k,T,L,h1,h0,h2,fun i hi=>⟨(h3 i hi).1,(h3 i hi).2.1.mono hle (Om.le_refl _),(h3 i hi).2.2⟩⟩
  .exact .inr h
 .obtain⟨a,b,d⟩:=hc.apart β k z hk;refine⟨?_,b,(h.apart β k z hk).2.2⟩;unfold frsh;rw[if_neg (by omega)]
  exact a
 .obtain⟨u,h1,h2⟩:=hc.fr t v hv;exact⟨u,h1,h2.mono hle (Om.le_refl _)⟩
theorem Conc.onlyF(hc:Conc lo F ω s f m):∃ft:List Nat,(∀x∈ft,x<m.next/\∃b,F x=some b)/\Le F (m.only ft).b.get:=by
 classical
 refine⟨(zX m.next).filter fun x=>decide (∃b,F x=some b),fun x hx=>?_,fun i b hb=>?_⟩
 .rw[zT]at hx;exact⟨List.mem_range.1 hx.1,of_decide_eq_true hx.2⟩
 .have:=hc.sub i b hb;exact ydb.2 ⟨List.mem_filter.2 ⟨List.mem_range.2 (hc.wf i b this),decide_eq_true ⟨b,hb⟩⟩,this⟩
theorem ycep (hc:Conc lo F ω s f m) {fx:Operand}{args:Array Operand}{ats:Array TypeId}(hop:o.op = .call { callee:=.value fx,args:=args,argTypes:=ats }) {g:FuncId}{a b xs:List SV}(hf:s.get fx=some (.fn g a b)) (hx:s.gets args.toList=some xs)
 {Q:SV->Prop}(hct:Ct P g (a++xs++b) Q) (has:(a++xs++b).any (owned 5)=false) :
 ∃ r2 F' rv,One P f o m r2/\Q rv/\Le F F'/\RV F' ω rv r2.v/\Conc lo F' ω s f r2.m/\m.next<=r2.m.next/\r2.mods=some [] /\
   (∀x b,F' x=some b->F x=some b\/m.next<=x)/\∃ft,r2.foot=some ft/\∀x∈ft,x<m.next/\∃b,F x=some b:=by
 classical
 obtain⟨uf,e1,r1⟩:=hc.get hf;obtain⟨us,e2,r2⟩:=hc.gets hx
 obtain⟨A,B,rfl,rA,rB⟩:∃A B:List Value,uf = .func (.func g) A.toArray B.toArray/\RVL F ω a A/\RVL F ω b B:=by
  cases r1 with
  |fn h1 h2=>exact⟨_,_,rfl,h1,h2⟩
 have hall:RVL F ω (a++xs++b) (A++us++B):=(rA.append r2).append rB;obtain⟨ft,k1,k2⟩:=hc.onlyF
 have hA:RVL F om0 (a++xs++b) (A++us++B):=hall.of_get fun v u hv=>yei (n:=5) (by
  cases hq:owned 5 v with
  |false=>rfl
  |true=>rw[List.any_eq_true.2 ⟨v,hv,hq⟩]at has;cases has)
 obtain⟨v,m',r,s1,s2,s3,s4,s5⟩:=hct F (m.only ft) _ (yeo hc.wf) k2 hA;have hlow:m.next<=m'.low:=s2
 have hnext:m.next<=m'.next:=(s1 (yeo hc.wf)).1.next
 have hwf:Wf m':=(s1 (yeo hc.wf)).1.wf;refine⟨⟨v,m.grow m',some ft,some []⟩,frsh m.next m' F,r,.inr ⟨fx,args,ats,g,A.toArray,B.toArray,us,v,m',ft,hop,e1,e2,by simpa using s1,hlow,rfl⟩,s4,fun i b h=>?_,s5.mono (Le.refl _) (yqo _),hc.grownF hnext hwf,hnext,rfl,fun x b h=>?_,ft,rfl,k1⟩
 .unfold frsh;rw[if_neg (by have:=hc.wf i b (hc.sub i b h);omega)]
  exact h
 .unfold frsh at h;split at h
  .rename_i q;exact .inr q
  .exact .inl h
theorem ycme (hc:Conc lo F ω s f m) {fx:Operand}{args:Array Operand}{ats:Array TypeId}(hop:o.op = .call { callee:=.value fx,args:=args,argTypes:=ats }) {g:FuncId}{a b xs:List SV}(hf:s.get fx=some (.fn g a b)) (hx:s.gets args.toList=some xs)
 {as:List SV}{Q:SV->Prop}(hct:Ct P g as Q) (has:(as=a++xs++b/\(a++xs++b).any (owned 5)=false)\/(as=(a++xs++b).map (view s.o 5)/\allP (vok s.o 5) (a++xs++b)/\∀r,Q r->scalar 5 r=true)) :
 ∃ r2 F' rv,One P f o m r2/\Q rv/\Le F F'/\RV F' ω rv r2.v/\Conc lo F' ω s f r2.m/\m.next<=r2.m.next/\r2.mods=some [] /\
   (∀x b,F' x=some b->F x=some b\/(scalar 5 rv=false/\m.next<=x)) /\
   ((scalar 5 rv=true/\∃ft,r2.foot=some ft/\∀x∈ft,x<m.next/\((∃b,F x=some b)\/∃β z,ω β=some (some (x,z))))\/(scalar 5 rv=false/\r2.foot=none)):=by
 classical
 obtain⟨uf,e1,r1⟩:=hc.get hf;obtain⟨us,e2,r2⟩:=hc.gets hx
 obtain⟨A,B,rfl,rA,rB⟩:∃A B:List Value,uf = .func (.func g) A.toArray B.toArray/\RVL F ω a A/\RVL F ω b B:=by
  cases r1 with
  |fn h1 h2=>exact⟨_,_,rfl,h1,h2⟩
 have hall:RVL F ω (a++xs++b) (A++us++B):=(rA.append r2).append rB;obtain⟨ft,k1,k2,k3⟩:=hc.only
 have hargs:∃H,Le H (m.only ft).b.get/\RVL H om0 as (A++us++B)/\((as=a++xs++b/\H=F)\/∀r,Q r->scalar 5 r=true):=by
  rcases has with⟨rfl,h⟩|⟨rfl,h1,h2⟩
  .refine⟨F,k2,hall.of_get fun v u hv=>yei (n:=5) ?_,.inl ⟨rfl,rfl⟩⟩;cases hq:owned 5 v with
   |false=>rfl
   |true=>rw[List.any_eq_true.2 ⟨v,hv,hq⟩]at h;cases h
  .exact⟨(m.only ft).b.get,Le.refl _,hall.yen fun v u hm hr=>ykj hc k2 k3 hr (yey h1 v hm),.inr h2⟩
 obtain⟨H,hH,hA,hHF⟩:=hargs;obtain⟨v,m',r,s1,s2,s3,s4,s5⟩:=hct H (m.only ft) _ (yeo hc.wf) hH hA;have hlow:m.next<=m'.low:=s2
 have hnext:m.next<=m'.next:=(s1 (yeo hc.wf)).1.next
 have hwf:Wf m':=(s1 (yeo hc.wf)).1.wf;cases hsc:scalar 5 r with
 | true =>
   refine⟨⟨v,m.grow m',some ft,some []⟩,F,r,.inr ⟨fx,args,ats,g,A.toArray,B.toArray,us,v,m',ft,hop,e1,e2,by simpa using s1,hlow,rfl⟩,s4,Le.refl _,yum hsc s5,hc.grown hnext hwf,hnext,rfl,fun x b h=>.inl h,.inl ⟨hsc,ft,rfl,k1⟩⟩
 | false =>
   rcases hHF with⟨_,rfl⟩|q
   .have hself:yex P (fun t=>if t = .call g (A++us++B) m then some (.call v m')else none):=by
     intro t out h;simp only at h;split at h
     .rename_i e;subst e;cases h;exact ycb.weaken hc.wf s1
     .cases h
    refine⟨⟨v,backM m.low m',none,some []⟩,frsh m.next m' H,r,.inl ⟨_,hself,?_⟩,s4,fun i b h=>?_,s5.mono (Le.refl _) (yqo _),hc.called hwf hnext hlow (hH.trans s3) (fun β k z hk b hb=>s3 _ _ (k3 β k z hk b hb)),by rw[ydz];exact hnext,rfl,fun x b h=>?_,.inr ⟨hsc,rfl⟩⟩
    .unfold evOne evOne1;rw[hop];show(ob (f.get fx) fun g=>ob (valsA f args.toList) fun vs=>evCall _ m vs g)=_;rw[e1];show(ob (valsA f args.toList) fun vs=>evCall _ m vs _)=_;rw[e2];show ob ((fun t=>if t=Task.call g (A++us++B) m then some (Out.call v m')else none) (.call g (A.toArray.toList++us++B.toArray.toList) m)) (afterCall m)=_
     simp only[if_true];show some (⟨v,backM m.low m',none,iteB (Nat.ble m.next m'.low) (some []) none⟩:R2)=_
     rw[ybe,if_pos (Nat.ble_eq_true_of_le hlow)]
    .unfold frsh;rw[if_neg (by have:=hc.wf i b (hc.sub i b h);omega)]
     exact h
    .unfold frsh at h;split at h
     .rename_i q;exact .inr ⟨hsc,q⟩
     .exact .inl h
   .rw[q r s4]at hsc;cases hsc
end
end Sh
end
section
namespace Sh
open Go Ev
noncomputable def ylv{α:Type}:T α->T α->T α
 |.leaf,t=>t
 | .node v l r,t=>match t with
   |.leaf=>.node v l r
   |.node v' l' r'=>.node (match v with|some x=>some x|none=>v') (ylv l l') (ylv r r')
theorem ygh{α:Type}:∀(a b:T α) (i:Nat),(ylv a b).get i=match a.get i with|some x=>some x|none=>b.get i
 |.leaf,b,i=>by rw[T.get_leaf];rfl
 | .node v l r,.leaf,i=>by
   show(T.node v l r).get i=_;rw[T.get_leaf];cases(T.node v l r).get i<;>rfl
 | .node v l r,.node v' l' r',0=>by
   show(T.node _ _ _).get 0=_;rw[T.get_zero,T.get_zero,T.get_zero]
 | .node v l r,.node v' l' r',k+1=>by
   show(T.node _ _ _).get (k+1)=_;rw[T.get_succ,T.get_succ,T.get_succ];split
   .exact ygh l l' _
   .exact ygh r r' _
theorem yll:∀{l:List SV}{i t:Nat}{v:SV},look (slots l i) t=some v->i<=t/\l[t-i]?=some v
 |[],_,_,_,h=>by cases h
 | x :: l,i,t,v,h=>by
   have h':(if i=t then some x else look (slots l (i+1)) t)=some v:=h
   split at h'
   .rename_i q;subst q;cases h';simp
   .rename_i q
    obtain⟨h1,h2⟩:=yll h';refine⟨by omega,?_⟩
    rw[show t-i=(t-(i+1))+1 by omega]
    simpa using h2
theorem ybnv:∀{l:List SV}{i t:Nat}{v:SV},l[t]?=some v->look (slots l i) (i+t)=some v
 |[],_,_,_,h=>by simp at h
 | x::l,i,0,v,h=>by
   show(if i=i+0 then some x else look (slots l (i+1)) (i+0))=some v
   rw[if_pos (by omega)];simpa using h
 | x::l,i,t+1,v,h=>by
   show(if i=i+(t+1)then some x else look (slots l (i+1)) (i+(t+1)))=_
   rw[if_neg (by omega),show i+(t+1)=i+1+t by omega]
   exact ybnv (by simpa using h)
theorem ycy{α:Type}{p:α->Prop}:∀{l:List α},allQ p l->∀x∈l,p x
 | _::_,h,x,hx=>by
   rcases List.mem_cons.1 hx with q|q
   .rw[q];exact h.1
   .exact ycy h.2 x q
theorem ydt{α:Type}:∀{l:List (Nat×α)}{t:Nat}{v:α},look l t=some v->(t,v)∈l
 |[],_,_,h=>by cases h
 | (k,x)::l,t,v,h=>by
   have h':(if k=t then some x else look l t)=some v:=h
   split at h'
   .rename_i q;subst q;cases h';exact zD
   .exact zC _ (ydt h')
theorem yik{l:List Nm}{x:Nm}:nmem l x=true↔x∈l:=by
 unfold nmem;rw[List.any_eq_true];constructor
 .rintro⟨y,h1,h2⟩;simp only[zA,decide_eq_true_eq]at h2;rw[show x=y from Prod.ext h2.1.symm h2.2.symm];exact h1
 .exact fun h=>⟨x,h,by simp⟩
theorem yfp{l:Own}{β:Nm}{b:OB}(h:lookO l β=some b):∃F,look l β.1=some F/\F.at β.2=some b:=by
 unfold lookO at h;split at h
 .rename_i F hF;exact⟨F,hF,h⟩
 .cases h
theorem ytc{F:Fam}{i:Nat}{b:OB}(h:F.at i=some b):(F = .one (some b)/\i=0)\/∃g,F = .many g/\g i=some b:=by
 cases F with
 | one x =>
   simp only[Fam.at]at h;split at h
   .rename_i q;subst h;exact .inl ⟨rfl,q⟩
   .cases h
 |many g=>exact .inr ⟨g,rfl,h⟩
theorem ybuf{F:Fam}{p:Nat->Prop}(h:idxF F p){i:Nat}{b:OB}(hb:F.at i=some b):p i:=by
 rcases ytc hb with⟨rfl,rfl⟩|⟨g,rfl,hg⟩
 .exact h
 .exact h i (by rw[hg];rfl)
section
variable {P:Program}{lo:Nat}{F G:AM}{ω ψ:Om}{s t:SS}{f:Fr}{m:Mem}
theorem ybkf{h:SV->SV}(hh:∀v,one1 (h v)=one1 v){l:List SV}(hl:l.all one1=true):(l.map h).all one1=true:=by
 rw[List.all_map];exact List.all_eq_true.2 fun x hx=>(hh x).trans (List.all_eq_true.1 hl x hx)
theorem yclq(h:Nm->Nm)(n:Nat)(v:SV):one1 (ren h n v)=one1 v:=by
 cases n with
 |zero=>rfl
 |succ n=>cases v<;>rfl
theorem ybif{h:Nm->Nm}{L:Nm->Bool}(hL:∀β x,L β=true->ω β=some x->ψ (h β)=some x):∀{n:Nat}{v:SV}{u:Value},RV F ω v u->cln L n v=true->RV F ψ (ren h n v) u
 |0,_,_,_,q=>by cases q
 | n + 1,v,u,hr,q=>by
   have hl:∀{l:List SV}{U:List Value},RVL F ω l U->l.all (cln L n)=true->RVL F ψ (l.map (ren h n)) U:=fun {l U} a b=>a.yen fun v u hv hr=>ybif hL hr (List.all_eq_true.1 b v hv);cases hr with
   |i=>exact .i
   |b=>exact .b
   |a h'=>exact .a h'
   |sl0 h'=>exact .sl0 h'
   |sl a1 a2 a3 a4 a5 a6 a7=>exact .sl a1 a2 a3 a4 a5 a6 a7
   |rf a1 a2 a3 a4 a5=>exact .rf a1 a2 a3 a4 a5
   |ex a1 a2 a3=>exact .ex a1 a2 a3
   |ag a=>exact .ag (hl a q)
   |tp a=>exact .tp (hl a q)
   | fn a b =>
     have q:(_&&_)=true:=q;rw[zA]at q;exact .fn (hl a q.1) (hl b q.2)
   |pt hk=>exact .pt (hL _ _ q hk)
   |os hk hb=>exact .os (hL _ _ q hk) hb
   |os0 hk=>exact .os0 (hL _ _ q hk)
   |mr hk=>exact .mr (hL _ _ q hk)
theorem ybvp{h:Nm->Nm}{L:Nm->Bool}(hL:∀β x,L β=true->ω (h β)=some x->ψ β=some x):∀{n:Nat}{v:SV}{u:Value},RV F ω (ren h n v) u->cln L n v=true->RV F ψ v u
 |0,_,_,_,q=>by cases q
 | n + 1,v,u,hr,q=>by
   have hl:∀{l:List SV}{U:List Value},RVL F ω (l.map (ren h n)) U->l.all (cln L n)=true->RVL F ψ l U:=by
    intro l
    induction l with
    |nil=>intro L hl _;cases hl;exact .nil
    | cons x l ih =>
      intro L hl hc;simp only[zG,zA]at hc;cases hl with
      |cons a b=>exact .cons (ybvp hL a hc.1) (ih b hc.2)
   cases v with
   |i k x=>cases hr;exact .i
   |b x=>cases hr;exact .b
   |a x=>exact yei (n:=5) rfl hr
   |sl z k g=>exact yei (n:=5) rfl hr
   |rf c=>exact yei (n:=5) rfl hr
   |ex Q v=>exact yei (n:=5) rfl hr
   |bad=>cases hr
   |ag c=>obtain⟨L,rfl,a⟩:=hr.ag_inv;exact .ag (hl a q)
   |tp c=>obtain⟨L,rfl,a⟩:=hr.tp_inv;exact .tp (hl a q)
   | fn g a b =>
     have q:(_&&_)=true:=q;rw[zA]at q;cases hr with
     |fn a1 b1=>exact .fn (hl a1 q.1) (hl b1 q.2)
   |pt β i j=>obtain⟨k,z,hk,rfl⟩:=hr.pt_inv;exact .pt (hL _ _ q hk)
   | os β o k c =>
     rcases hr.os_inv with⟨k',z,cp,hk,rfl,hb⟩|⟨hk,rfl,rfl,rfl⟩
     .exact .os (hL _ _ q hk) hb
     .exact .os0 (hL _ _ q hk)
   |mr β=>cases hr with|mr hk=>exact .mr (hL _ _ q hk)
theorem ybkt{L:Nm->Bool}(hL:∀β x,L β=true->ω β=some x->ψ β=some x):∀{n:Nat}{v:SV}{u:Value},RV F ω v u->cln L n v=true->RV F ψ v u
 |0,_,_,_,q=>by cases q
 | n + 1,v,u,hr,q=>by
   have hl:∀{l:List SV}{U:List Value},RVL F ω l U->l.all (cln L n)=true->RVL F ψ l U:=fun {l U} a b=>a.of_get fun v u hv hr=>ybkt hL hr (List.all_eq_true.1 b v hv);cases hr with
   |i=>exact .i
   |b=>exact .b
   |a h'=>exact .a h'
   |sl0 h'=>exact .sl0 h'
   |sl a1 a2 a3 a4 a5 a6 a7=>exact .sl a1 a2 a3 a4 a5 a6 a7
   |rf a1 a2 a3 a4 a5=>exact .rf a1 a2 a3 a4 a5
   |ex a1 a2 a3=>exact .ex a1 a2 a3
   |ag a=>exact .ag (hl a q)
   |tp a=>exact .tp (hl a q)
   | fn a b =>
     have q:(_&&_)=true:=q;rw[zA]at q;exact .fn (hl a q.1) (hl b q.2)
   |pt hk=>exact .pt (hL _ _ q hk)
   |os hk hb=>exact .os (hL _ _ q hk) hb
   |os0 hk=>exact .os0 (hL _ _ q hk)
   |mr hk=>exact .mr (hL _ _ q hk)
open Classical in
noncomputable def frzF(ω:Om)(fr:List Nm)(m:Mem)(F:AM):AM:=fun x=>if ∃β∈fr,∃z,ω β=some (some (x,z))then m.b.get x else F x
theorem yche:frzF ω [] m F=F:=by
 funext x;unfold frzF;rw[if_neg (by simp)]
theorem ymd(hc:Conc lo F ω s f m)(fr:List Nm):Le F (frzF ω fr m F):=fun x b h=>by
 unfold frzF;split
 .exact hc.sub x b h
 .exact h
theorem yckl(hc:Conc lo F ω s f m)(fr:List Nm):∀x b,frzF ω fr m F x=some b->F x=some b\/lo<=x:=fun x b h=>by
 unfold frzF at h;split at h
 .rename_i q;obtain⟨β,_,z,hk⟩:=q;exact .inr (hc.apart β x z hk).2.1
 .exact .inl h
theorem ybom{l:List SV}{U:List Value}(h:l.any (owned 5)=false)(hl:RVL F ω l U):RVL F om0 l U:=hl.of_get fun v u hv hr=>yei (n:=5) (by
 cases hq:owned 5 v with
 |false=>rfl
 |true=>rw[List.any_eq_true.2 ⟨v,hv,hq⟩]at h;cases h) hr
theorem yoa(hc:Conc lo F ω s f m){fr:List Nm}(hfr:yyn s.o fr):∀{n:Nat}{v:SV}{u:Value},RV F ω v u->pok fr s.o n v->RV (frzF ω fr m F) ω (ydu fr s.o n v) u
 |0,_,_,h,_=>h.mono (ymd hc fr) (Om.le_refl _)
 | n + 1,v,u,hr,hv=>by
   cases hr with
   |i=>exact .i
   |b=>exact .b
   |a h=>exact .a h
   |sl0 h'=>exact .sl0 h'
   |sl a1 a2 a3 a4 a5 a6 a7=>exact(RV.sl a1 a2 a3 a4 a5 a6 a7:RV F ω _ _).mono (ymd hc fr) (Om.le_refl _)
   |rf a1 a2 a3 a4 a5=>exact(RV.rf a1 a2 a3 a4 a5:RV F ω _ _).mono (ymd hc fr) (Om.le_refl _)
   |ex a1 a2 a3=>exact(RV.ex a1 a2 a3:RV F ω _ _).mono (ymd hc fr) (Om.le_refl _)
   |ag hl=>exact .ag (hl.yen fun v u hm hr=>yoa hc hfr hr (yey hv v hm))
   |tp hl=>exact .tp (hl.yen fun v u hm hr=>yoa hc hfr hr (yey hv v hm))
   |fn ha hb=>exact .fn (ha.yen fun v u hm hr=>yoa hc hfr hr (yey hv.1 v hm)) (hb.yen fun v u hm hr=>yoa hc hfr hr (yey hv.2 v hm))
   | pt hk =>
     rename_i β i j k z
     simp only[pok]at hv;simp only[ydu];split
     .rename_i hm
      have hv:=hv hm;obtain⟨b,hb,hown⟩:=ycy hfr β (yik.1 hm);rw[hb]at hv ⊢;obtain⟨v1,v2⟩:=hv;obtain⟨rfl,T,L,g1,g2⟩:=hc.ownAt hb hk (.inl (by omega))
      obtain⟨l1,l2,l3,l4⟩:=g2 i v1;have hin:=ykc (z:=b.z) v1;refine .rf (L:=(L i).drop j) (show frzF ω fr m F k=some _ by unfold frzF;rw[if_pos ⟨β,yik.1 hm,_,hk⟩];exact g1) (by simp;omega) (fun q hq=>?_) ((ybom (hown i v1) l2).mono (ymd hc fr) (Om.le_refl _) |>.drop j) (yla l3 j)
      simp at hq;rw[zU,l4 _ (by omega)]
      simp
     .exact .pt hk
   | os hk hcu =>
     rename_i β p k ap cp q z
     simp only[pok]at hv;simp only[ydu];split
     .rename_i hm
      have hv:=hv hm;obtain⟨b,hb,hown⟩:=ycy hfr β (yik.1 hm);rw[hb]at hv ⊢;have v1:p+k<=b.n:=hv;rcases zO k with rfl|hk0
      .exact .sl0 (.inr ⟨_,_,_,rfl⟩)
      obtain⟨rfl,T,L,g1,g2⟩:=hc.ownAt hb hk (.inl (by omega))
      refine .sl (L:=fun a=>L (p+a)) (show frzF ω fr m F q=some _ by unfold frzF;rw[if_pos ⟨β,yik.1 hm,_,hk⟩];exact g1) (by cases b.bx<;>simp) ?_ (fun a ha=>(g2 (p+a) (by omega)).1) (fun a ha j hj=>?_) (fun a ha=>(ybom (hown (p+a) (by omega)) (g2 (p+a) (by omega)).2.1).mono (ymd hc fr) (Om.le_refl _)) (fun a ha=>(g2 (p+a) (by omega)).2.2.1)
      .rw[<-zJ];exact zN _ v1
      .rw[<-zJ];exact(g2 (p+a) (by omega)).2.2.2 j hj
     .exact .os hk hcu
   | os0 hk =>
     rename_i β ap
     simp only[pok]at hv;simp only[ydu];split
     .rename_i hm
      obtain⟨b,hb,_⟩:=ycy hfr β (yik.1 hm);rw[hb];exact .sl0 (.inl rfl)
     .exact .os0 hk
   |mr hk=>exact .mr hk
def omTo(ω:Om)(h:Nm->Nm)(vir:List Nat)(o:Own):Om:=fun β=>if live o β=true then(if vir.elem β.1=true then some none else ω (h β))else none
theorem ycoe(hc:Conc lo F ω s f m){h:Nm->Nm}{vir:List Nat}{fr:List Nm}{o:Own}(hfr:yyn s.o fr){v w:SV}{u:Value}(ht:Tel h vir fr s.o o v w)(hv:RV F ω v u):RV (frzF ω fr m F) (omTo ω h vir o) w u:=by
 rcases ht with⟨h1,h2,h3⟩|⟨rfl,β,rfl,h1,h2⟩
 .refine ybvp (fun β x hl hx=>?_) (h2 _ _ _ (yoa hc hfr hv h1)) h3;unfold lv at hl;rw[zA,zQ]at hl;unfold omTo;rw[if_pos hl.1,if_neg (by rw[hl.2];simp)]
  exact hx
 .cases hv
  refine .os0 ?_;unfold omTo;rw[if_pos h2,if_pos h1]
theorem ycdh(hc:Conc lo F ω s f m){h:Nm->Nm}{vir:List Nat}{fr:List Nm}{o:Own}(hfr:yyn s.o fr):∀{l k:List SV}{U:List Value},telL h vir fr s.o o l k->RVL F ω l U->l.all one1=true->RVL (frzF ω fr m F) (omTo ω h vir o) k U/\k.all one1=true
 |[],[],_,_,.nil,_=>⟨.nil,rfl⟩
 | v::l,w::k,_,ht,.cons a b,h1=>by
   simp only[zG,zA]at h1;have e:=ycoe hc hfr ht.1 a;obtain⟨q1,q2⟩:=ycdh hc hfr ht.2.2 b h1.2;exact⟨.cons e q1,by simp only[zG,zA];exact⟨ht.2.1,q2⟩⟩
 |[],_::_,_,ht,_,_=>ht.elim
 |_::_,[],_,ht,_,_=>ht.elim
theorem yif{o:Own}{β:Nm}:live o β=true↔∃b,lookO o β=some b:=by
 unfold live;rw[Option.isSome_iff_exists]
theorem WeakBy.ymz{h:Nm->Nm}{vir:List Nat}{fr:List Nm}(hw:WeakBy h vir fr s t){β:Nm}{b:OB}(hb:lookO t.o β=some b):own1 h vir fr t.o s β b:=by
 obtain⟨F,h1,h2⟩:=yfp hb;have hm:=ycy hw.own _ (ydt h1);rcases ytc h2 with⟨rfl,h3⟩|⟨g,rfl,h3⟩
 .have:β=(β.1,0):=Prod.ext rfl h3;rw[this];exact hm
 .exact hm _ _ h3
theorem WeakBy.conc{h:Nm->Nm}{vir:List Nat}{fr:List Nm}(hw:WeakBy h vir fr s t)(hc:Conc lo F ω s f m):Conc lo (frzF ω fr m F) (omTo ω h vir t.o) t f m:=by
 have hreal:∀{β k z},omTo ω h vir t.o β=some (some (k,z))->ω (h β)=some (some (k,z))/\(∃b,lookO t.o β=some b)/\¬(vir.elem β.1=true):=fun {β k z} q=>by
  unfold omTo at q;split at q
  .rename_i hl
   split at q
   .cases q
   .rename_i hv;exact⟨q,yif.1 hl,hv⟩
  .cases q
 have hnf:∀{β},(∃b,lookO t.o β=some b)->¬(vir.elem β.1=true)->nmem fr (h β)=false:=fun {β} ⟨b,hb⟩ hv=>by
  have:=hw.ymz hb;unfold own1 at this;rw[if_neg hv]at this;obtain⟨c,_,⟨_,_,_,_,q⟩,_⟩:=this;exact q
 refine⟨hc.wf,hc.low,hc.nxt,fun i b hb=>?_,fun β b hb=>?_,fun β hb=>?_,fun β γ k z k' z' h1 h2 hne=>?_,fun β k z hk=>?_,fun k v hk=>?_⟩
 .unfold frzF at hb;split at hb
  .exact hb
  .exact hc.sub i b hb
 .have hm:=hw.ymz hb;have hlive:live t.o β=true:=yif.2 ⟨b,hb⟩;unfold own1 at hm;split at hm
  .rename_i q
   refine .inr (.inl ⟨?_,hm⟩);unfold omTo;rw[if_pos hlive,if_pos q]
  .rename_i q
   obtain⟨c,h1,⟨h2,h3,h4,h5,h7⟩,h8,h6⟩:=hm;have hom:omTo ω h vir t.o β=ω (h β):=by unfold omTo;rw[if_pos hlive,if_neg q]
   rcases hc.own _ c h1 with⟨k,T,L,g1,g0,g2,g3⟩|⟨g1,g2,g3⟩|⟨k,es,cl,g1,⟨g2,g3,g4⟩,g5,g6⟩
   .left
    rw[h4]at g1;refine⟨k,T,L,by rw[hom];exact g1,by rw[<-h2];exact g0,by rw[h2,h3,h4,h5]at g2;exact g2,fun i hi=>?_⟩
    obtain⟨l1,l2,l3,l4⟩:=g3 i (by rw[h5];exact hi)
    rw[h4]at l1 l4;obtain⟨e1,e2⟩:=ycdh hc hw.frz (h6 i hi) l2 l3;exact⟨l1,e1,e2,l4⟩
   .exact .inr (.inl ⟨by rw[hom];exact g1,by rw[<-h5];exact g2,by rw[<-h3];exact g3⟩)
   .have he:b.e=CU:=by rw[<-h2];exact g2
    have hg:c.g=b.g:=funext (h8 (by rw[he];rfl))
    refine .inr (.inr ⟨k,es,cl,by rw[hom,<-h4];exact g1,⟨he,by rw[<-h5];exact g3,by rw[<-h3];exact g4⟩,g5,?_⟩)
    rw[<-h4,<-hg];exact g6
 .unfold omTo;rw[if_neg];intro q;obtain⟨b,hb'⟩:=yif.1 q;exact yxy hb' hb
 .obtain⟨a1,⟨b1,a2⟩,a3⟩:=hreal h1;obtain⟨c1,⟨b2,c2⟩,c3⟩:=hreal h2;refine hc.inj _ _ k z k' z' a1 c1 fun e=>hne ?_;obtain⟨F1,d1,d2⟩:=yfp a2;obtain⟨F2,e1,e2⟩:=yfp c2;have q1:=ycy hw.inj _ (ydt d1);have q2:=ycy (q1.resolve_left a3) _ (ydt e1);have q3:=ybuf (ybuf (q2.resolve_left c3) d2) e2 e;exact Prod.ext q3.1 q3.2
 .obtain⟨a1,a2,a3⟩:=hreal hk;obtain⟨b1,b2,b3⟩:=hc.apart _ k z a1;refine⟨?_,b2,b3⟩;unfold frzF;rw[if_neg]
  .exact b1
  .rintro⟨γ,hγ,z',hk'⟩;have hne:γ≠h β:=fun e=>by have:=hnf a2 a3;rw[<-e,yik.2 hγ]at this;cases this
   exact hc.inj γ (h β) k z' k z hk' a1 hne rfl
 .obtain⟨v',e1,e2⟩:=ycy hw.slot _ (ydt hk);obtain⟨u,g1,g2⟩:=hc.fr k v' e1;exact⟨u,g1,ycoe hc hw.frz e2 g2⟩
def Weak(pr:List Nm)(s t:SS):Prop:=∀lo F ω f m,Conc lo F ω s f m->∃ω' F',Le F F'/\(∀x b,F' x=some b->F x=some b\/lo<=x)/\Conc lo F' ω' t f m/\∀β∈pr,∀x,ω β=some x->ω' β=some x
theorem WeakBy.weak{pr:List Nm}{h:Nm->Nm}{vir:List Nat}{fr:List Nm}(hw:WeakBy h vir fr s t)(hp:allQ (fun β=>live t.o β=true/\vir.elem β.1=false/\h β=β) pr):Weak pr s t:=fun lo F ω f m hc=>by
 refine⟨_,_,ymd hc fr,yckl hc fr,hw.conc hc,fun β hβ x hx=>?_⟩;obtain⟨p1,p2,p3⟩:=ycy hp β hβ;unfold omTo;rw[if_pos p1,if_neg (by rw[p2];simp),p3]
 exact hx
end
end Sh
end
section
namespace Ev
open Go Go.RowKit
structure It where
 n:Nat
 el:Nat->List Value
 pre:Nat->Mem->Prop
 adv:Nat->Mem->Mem
 step:Nat->Phi->AM->World->AM->World->Prop
structure ItOk(P:Program)(g:FuncId)(cap:List Value)(S:It):Prop where
 enter:∀args w,(callFunc g args).run P w = .ok (.enter g args) w
 grow:∀k m,k<S.n->Wf m->S.pre k m->Grow m (S.adv k m)
 good:∀k φ M w m M' w',k<S.n->Wf m->Rel φ M w->Sub m M->S.pre k m->S.step k φ M w M' w'->Good φ M w m (S.adv k m) φ M' w'
 calls:∀(l:Nat) (St:Nat->Phi->AM->World->Prop) (Stop:World->Prop) (φ:Phi) (M:AM) (w:World) (cap':List Value),
  (∀k φ' M' w',St k φ' M' w'->φ.le φ'/\∃m,Rel φ' M' w'/\Sub m M'/\S.pre k m) ->
  (∀k φ' M' w' w'',St k φ' M' w'->Below w'.heap.size w' w''->St k φ' M' w'') ->
  (∀k φ' M' w' el',k<S.n->St k φ' M' w'->VRL φ' (S.el k) el'->YieldAt Fence.wide 0 P l el'.toArray w' fun e w'' =>
    (e = .returned (.bool true)/\∃φ'' M'',φ'.le φ''/\(∃m,Rel φ'' M'' w''/\Sub m M''/\S.pre k m)/\∀M3 w3,S.step k φ'' M'' w'' M3 w3->St (k+1) φ'' M3 w3)\/(e = .returned (.bool false)/\Stop w'')) ->
  St 0 φ M w->VRL φ cap cap' ->
  CallsIn Fence.wide 0 P g (#[.func (.yield l) #[] #[]]++cap'.toArray) w fun e w'=>(∃v,e = .returned v)/\((∃φ' M',St S.n φ' M' w')\/Stop w')
noncomputable def ybgm:List Value->List Nat->Fr->Option Fr
 | [],ps=>match ps with
   |[]=>fun f=>some f
   |_::_=>fun _=>none
 | v::vs,ps=>match ps with
   |[]=>fun _=>none
   |p::ps=>fun f=>(Fr.putD v p f).bind (ybgm vs ps)
inductive RRounds (P:Program) (f:Fr) (ps:List Nat) (assign body:Code) (S:It):Nat->Mem->Exit->Mem->Prop
 |done {m} (hp:S.pre S.n m):RRounds P f ps assign body S S.n m .normal m
 | next {k m f1 f3 m1 f4 m2 e m'} (hk:k<S.n) (hp:S.pre k m) (h1:ybgm (S.el k) ps f=some f1) (h2:yda P assign f1 m .normal f3 m1) (h3:yda P body f3 m1 .normal f4 m2) (hp2:S.pre k m2)
    (h:RRounds P f ps assign body S (k+1) (S.adv k m2) e m'):RRounds P f ps assign body S k m e m'
 | stop {k m f1 f3 m1 e f4 m2} (hk:k<S.n) (hp:S.pre k m) (h1:ybgm (S.el k) ps f=some f1) (h2:yda P assign f1 m .normal f3 m1) (he:e = .ret\/∃id,e = .exit id) (h3:yda P body f3 m1 e f4 m2) :
    RRounds P f ps assign body S k m e m2
section
variable {P:Program}{φ φ':Phi}{M M':AM}{w w':World}{f f':Fr}{m m' m'':Mem}{a:Act}{S:It}{ps:List Nat}{assign body:Code}{k:Nat}{e:Exit}
theorem RRounds.pre(h:RRounds P f ps assign body S k m e m'):S.pre k m:=by
 cases h with
 |done hp=>exact hp
 |next _ hp=>exact hp
 |stop _ hp=>exact hp
theorem RRounds.grow{g:FuncId}{cap:List Value}(hit:ItOk P g cap S)(h:RRounds P f ps assign body S k m e m'):Wf m->Grow m m':=by
 induction h with
 |done=>exact fun hw=>Grow.refl hw
 | next hk hp h1 h2 h3 hp2 h ih =>
   intro hw;have g1:=h2.1.trans h3.1;have g2:=hit.grow _ _ hk g1.ext.wf hp2;exact g1.trans (g2.trans (ih g2.ext.wf))
 |stop hk hp h1 h2 he h3=>exact fun _=>h2.1.trans h3.1
theorem RRounds.at_end(h:RRounds P f ps assign body S S.n m e m'):e = .normal/\m'=m:=by
 generalize hn:S.n=n at h
 cases h with
 |done=>exact⟨rfl,rfl⟩
 |next hk=>omega
 |stop hk=>omega
theorem ybbz:∀{vs vs':List Value}{ps:List Nat}{f f1:Fr}{a:Act},FrR φ f a->ybgm vs ps f=some f1->VRL φ vs vs'->FrR φ f1 { a with tmps:=(ps.zip vs').foldl (fun tmps (t,x)=>tmps.setIfInBounds t x) a.tmps }
 | [],_,[],f,f1,a,hf,h,.nil=>by
   cases h
   exact⟨hf.size,hf.get⟩
 | v::vs,_,p::ps,f,f1,a,hf,h,.cons (v':=v') (l':=vs') hv hvs=>by
   obtain⟨f2,h1,h2⟩:=Option.bind_eq_some_iff.1 h;have:=ybbz (hf.putD h1 hv) h2 hvs;have e:(a.put (some p) v').tmps=a.tmps.setIfInBounds p v':=by simp[Act.put]
   exact⟨by simpa[e]using this.size,by simpa[e]using this.get⟩
 |[],_,_::_,_,_,_,_,h,_=>by cases h
 |_::_,_,[],_,_,_,_,h,_=>by cases h
theorem yvu(ps:Array Tmp)(l:List Value):(ps.zip l.toArray).foldl (fun tmps (t,a)=>tmps.setIfInBounds t a) a.tmps=(ps.toList.zip l).foldl (fun tmps (t,x)=>tmps.setIfInBounds t x) a.tmps:=by
 rw[<-Array.foldl_toList,Array.toList_zip]
set_option maxHeartbeats 1000000 in
theorem ycig {g:FuncId}{cap:List Value}(hit:ItOk P g cap S) {gx:Operand}{ps:Array Tmp}{e0:Exit}{mf:Mem}(hv:f.get gx=some (.func (.func g) #[] cap.toArray))
 (hw:Wf m) (h3:RRounds P f ps.toList assign body S 0 m e0 mf):yda P (.rangeFunc gx ps assign body) f m e0 f mf:=by
 refine⟨h3.grow hit hw,fun φ M w a r hnr hR hs hf hfr=>?_⟩;have hvr:=yjj (a:=a) (fun t v _ ht=>hf.get t v ht) hv;obtain⟨x',y',e1,e2,e3⟩:=hvr.func_inv;cases e2
 have e3:VRL φ cap y':=by simpa using e3
 refine wpIn_rangeFunc ?_;intro fn _;obtain⟨L,D,mark,W1,DP,hwL,henter,hL1,hb1,hK1,dBelow,dStep,dPut,dDf⟩:=ybff (P:=P) hnr fn a.tmps ps assign body;obtain⟨rec,hrec⟩:∃rec:LoopState->Option Code->Loop,rec=fun st pe=>{ state:=st,pending:=pe,fn,tmps:=a.tmps,params:=ps,assign,body,defers:=D }:=⟨_,rfl⟩;have hL1:W1.heap[L]?=some (.loop (rec .ready none)):=by rw[hrec];exact hL1
 refine⟨L,mark,W1,{ target:=.fn (.func g) y'.toArray,args:=#[.func (.yield L) #[] #[]] },W1,g,
  #[.func (.yield L) #[] #[]]++y'.toArray,W1,?_,?_,fun _ _=>trivial,?_,fun q=>(by cases q),?_⟩
 .exact henter
 .simp only[resolve,e1];simp[go_sem]
 .simp[invoke,go_sem,hit.enter]
 .let St:Nat->Phi->AM->World->Prop:=fun k φ' M' W=>k<=S.n/\∃mi,RRounds P f ps.toList assign body S k mi e0 mf/\Grow m mi/\Good φ M w m mi φ' M' W /\
   W.heap[L]?=some (.loop (rec .ready none))/\DP W
  let Stop:World->Prop:=fun W=>∃c φ' M',((c=Code.ret/\e0 = .ret)\/∃id,c = .exit id/\e0 = .exit id)/\Good φ M w m mf φ' M' W /\
   W.heap[L]?=some (.loop (rec .done (some c)))/\DP W
  refine CallsIn.mono (hit.calls L St Stop φ M W1 y' ?_ ?_ ?_ ?_ e3) ?_
  .rintro k φ' M' W ⟨_,mi,k2,_,k4,_⟩;exact⟨k4.le,mi,k4.rel,k4.sub,k2.pre⟩
  .rintro k φ' M' W W' ⟨k0,mi,k2,k3,k4,k5,k6⟩ hb;exact⟨k0,mi,k2,k3,k4.below hb,(hb.block _ (Array.getElem?_eq_some_iff.1 k5).1).trans k5,dBelow _ _ hb k6⟩
  .rintro k φ' M' W el' hkn ⟨_,mi,k2,k3,hgd,hl,hd⟩ hel
   have round:∀{f1 f3:Fr}{m1:Mem}{f4:Fr}{m2:Mem}{eb:Exit},ybgm (S.el k) ps.toList f=some f1->yda P assign f1 mi .normal f3 m1->yda P body f3 m1 eb f4 m2->m2.next<=mf.next ->
    ∀ (QQ:Ending->World->Prop),(∀(φ2:Phi) (M2:AM) (w2:World) (jump:Option Code),(jump=none/\eb = .normal\/(jump=some .ret/\eb = .ret)\/∃id,jump=some (.exit id)/\eb = .exit id)->φ'.le φ2->Grow m m2->Good φ M w m m2 φ2 M2 w2 ->
      w2.heap[L]?=some (.loop (rec (if jump.isNone then .ready else .done) jump))->DP w2->QQ (.returned (.bool jump.isNone)) w2)->(eb = .normal\/eb = .ret\/∃id,eb = .exit id) ->
    YieldAt Fence.wide 0 P L el'.toArray W QQ:=by
    intro f1 f3 m1 f4 m2 eb p1 s1 s2 hm2 QQ hQQ hex;have hfr1:ygv φ' mi.next mf.next:=hgd.fresh k3.ext hfr
    have hlt:L<W.heap.size:=(Array.getElem?_eq_some_iff.1 hl).1
    have hsz:ps.size=el'.toArray.size:=by
     have h1:∀{vs:List Value}{qs:List Nat}{f f':Fr},ybgm vs qs f=some f'->vs.length=qs.length:=by
      intro vs
      induction vs with
      | nil=>intro qs f f' h;cases qs with
        |nil=>rfl
        |cons=>cases h
      | cons v vs ih=>intro qs f f' h;cases qs with
        |nil=>cases h
        | cons q qs =>
          obtain⟨f2,_,h2⟩:=Option.bind_eq_some_iff.1 h;simp[ih h2]
     have:=h1 p1;have h2:=hel.length;simp at this ⊢;omega
    have hy:=run_yield (P:=P) (args:=el'.toArray) hl (by rw[hrec];exact hsz.symm)
    rw[hrec]at hy;refine⟨fn,_,assign,body,hy,roundIn_of_wpIn (F:=Fence.wide) (n:=0) trivial ?_⟩;have hfr0:=ybbz (hf.mono hgd.le) p1 hel
    have hfr2:FrR φ' f1 { tmps:=(ps.zip el'.toArray).foldl (fun tmps (t,a)=>tmps.setIfInBounds t a) a.tmps,defers:=[] }:=by
     rw[yvu];exact⟨hfr0.size,hfr0.get⟩
    refine wpIn_mono (s1.2 φ' M' W _ (some L) (fun l q=>by cases q;exact⟨_,hl⟩) hgd.rel hgd.sub hfr2 (hfr1.left (zI s2.1.ext.next hm2))) ?_
    rintro e' a1 w1 ⟨rfl,φ1,M1,hg1,hf1,_⟩;have hl1:w1.heap[L]?=some (.loop (rec .ready none)):=(hg1.wg.keep _ hlt (Img.not_loop hgd.rel hl)).trans hl;have hd1:DP w1:=dStep _ _ _ _ _ _ hgd.rel hg1.wg hd;have hlt1:L<w1.heap.size:=(Array.getElem?_eq_some_iff.1 hl1).1;refine⟨_,run_beginRound hl1 (by rw[hrec]),?_⟩
    have G1:Good φ M w m m1 φ1 M1 w1:=Good.trans k3.ext s1.1.ext s1.1.low hgd hg1;have G1':=G1.put (l:=L) (x:=.loop { rec .ready none with state:=.busy }) ⟨_,hl1⟩ (by omega)
    have hlb:(w1.putObj L (.loop { rec .ready none with state:=.busy })).heap[L]?=some (.loop { rec .ready none with state:=.busy }):=World.putObj_heap_same hlt1;have hdb:DP (w1.putObj L (.loop { rec .ready none with state:=.busy })):=dPut _ _ hd1;refine wpIn_mono (s2.2 φ1 M1 _ a1 (some L) (fun l q=>by cases q;exact⟨_,hlb⟩) G1'.rel G1'.sub hf1 ((hg1.fresh s1.1.ext hfr1).left hm2)) ?_
    rintro e' a2 w2 ⟨rfl,φ2,M2,hg2,_,_⟩;have hltb:L<(w1.putObj L (.loop { rec .ready none with state:=.busy })).heap.size:=(Array.getElem?_eq_some_iff.1 hlb).1;have hl2:=(hg2.wg.keep _ hltb (Img.not_loop G1'.rel hlb)).trans hlb;have hd2:=dStep _ _ _ _ _ _ G1'.rel hg2.wg hdb;have hlt2:L<w2.heap.size:=(Array.getElem?_eq_some_iff.1 hl2).1;have G2:Good φ M w m m2 φ2 M2 w2:=Good.trans (k3.trans s1.1).ext s2.1.ext s2.1.low G1' hg2
    have hle2:φ'.le φ2:=Phi.le_trans hg1.le hg2.le
    have fin:∀(jump:Option Code),(w2.putObj L (.loop (rec (if jump.isNone then .ready else .done) jump))).heap[L]?=some (.loop (rec (if jump.isNone then .ready else .done) jump)) /\
     DP (w2.putObj L (.loop (rec (if jump.isNone then .ready else .done) jump)))/\Good φ M w m m2 φ2 M2 (w2.putObj L (.loop (rec (if jump.isNone then .ready else .done) jump))) /\
     (Instr.endRound L jump).run P w2 = .ok (.bool jump.isNone) (w2.putObj L (.loop (rec (if jump.isNone then .ready else .done) jump))):=fun jump=>by
     refine⟨World.putObj_heap_same hlt2,dPut _ _ hd2,G2.put ⟨_,hl2⟩ (by omega),?_⟩
     have:=run_endRound (P:=P) jump hl2;rw[hrec]at this ⊢;exact this
    have hgm:=(k3.trans s1.1).trans s2.1;rcases hex with rfl|rfl|⟨id,rfl⟩
    .obtain⟨a1',a2',a3',a4'⟩:=fin none;exact⟨_,_,a4',hQQ φ2 M2 _ none (.inl ⟨rfl,rfl⟩) hle2 hgm a3' a1' a2'⟩
    .obtain⟨a1',a2',a3',a4'⟩:=fin (some .ret);exact⟨_,_,a4',hQQ φ2 M2 _ (some .ret) (.inr (.inl ⟨rfl,rfl⟩)) hle2 hgm a3' a1' a2'⟩
    .obtain⟨a1',a2',a3',a4'⟩:=fin (some (.exit id));exact⟨_,_,a4',hQQ φ2 M2 _ (some (.exit id)) (.inr (.inr ⟨id,rfl,rfl⟩)) hle2 hgm a3' a1' a2'⟩
   generalize hk':k=k' at k2
   cases k2 with
   |done=>omega
   | next hk hp p1 s1 s2 hp2 hrest =>
     subst hk';have g2:=(k3.trans s1.1).trans s2.1;have g3:=hit.grow _ _ hkn g2.ext.wf hp2;refine round p1 s1 s2 (zI g3.ext.next (hrest.grow hit g3.ext.wf).ext.next) _ ?_ (.inl rfl)
     rintro φ2 M2 w2 jump hj hle2 hgm G2 hl2 hd2;rcases hj with⟨rfl,_⟩|⟨_,hq⟩|⟨_,_,hq⟩
     .refine .inl ⟨rfl,φ2,M2,hle2,⟨_,G2.rel,G2.sub,hp2⟩,fun M3 w3 hst=>?_⟩;have hg3:=hit.good _ _ _ _ _ _ _ hkn g2.ext.wf G2.rel G2.sub hp2 hst;have hlt2:=(Array.getElem?_eq_some_iff.1 hl2).1;exact⟨hkn,_,hrest,hgm.trans g3,Good.trans hgm.ext g3.ext g3.low G2 hg3,(hg3.wg.keep _ hlt2 (Img.not_loop G2.rel hl2)).trans hl2,dStep _ _ _ _ _ _ G2.rel hg3.wg hd2⟩
     .cases hq
     .cases hq
   | stop hk hp p1 s1 he s2 =>
     subst hk';refine round p1 s1 s2 (zV _) _ ?_ (.inr he);rintro φ2 M2 w2 jump hj hle2 hgm G2 hl2 hd2;rcases hj with⟨_,rfl⟩|⟨rfl,rfl⟩|⟨id,rfl,rfl⟩
     .rcases he with h|⟨_,h⟩<;>cases h
     .exact .inr ⟨rfl,.ret,φ2,M2,.inl ⟨rfl,rfl⟩,G2,hl2,hd2⟩
     .exact .inr ⟨rfl,.exit id,φ2,M2,.inr ⟨id,rfl,rfl⟩,G2,hl2,hd2⟩
  .refine⟨Nat.zero_le _,m,h3,Grow.refl hw,(Good.refl hR hs).below hb1,hL1,hK1⟩
  .have fin:∀{φ' M' W c st},st ≠ .busy->Good φ M w m mf φ' M' W->W.heap[L]?=some (.loop (rec st c))->DP W ->
    ∃ w4,(Instr.endLoop L).run P W = .ok c w4/\Good φ M w m mf φ' M' w4/\FrR φ' f { a with defers:=mark++a.defers } /\
      Df w w4 a { a with defers:=mark++a.defers }:=by
    intro φ' M' W c st hst hgd hl hd;have hlt:L<W.heap.size:=(Array.getElem?_eq_some_iff.1 hl).1;have hrun:=run_endLoop (P:=P) hl (by rw[hrec];exact hst)
    have hpend:(rec st c).pending=c:=by rw[hrec]
    rw[hpend]at hrun;exact⟨_,hrun,hgd.put ⟨_,hl⟩ (by omega),⟨(hf.mono hgd.le).size,(hf.mono hgd.le).get⟩,dDf _ a (dPut _ _ hd)⟩
   rintro e W ⟨⟨v,rfl⟩,(⟨φ',M',_,mi,k2,k3,hgd,hl,hd⟩|⟨c,φ',M',hc,hgd,hl,hd⟩)⟩
   .obtain⟨rfl,rfl⟩:=k2.at_end;obtain⟨w4,r1,r2,r3,r4⟩:=fin (by simp) hgd hl hd
    exact⟨none,w4,r1,rfl,φ',M',r2,r3,r4⟩
   .obtain⟨w4,r1,r2,r3,r4⟩:=fin (by simp) hgd hl hd
    rcases hc with⟨rfl,rfl⟩|⟨id,rfl,rfl⟩
    .exact⟨some .ret,w4,r1,wpIn_ret ⟨rfl,φ',M',r2,r3,r4⟩⟩
    .exact⟨some (.exit id),w4,r1,wpIn_exit ⟨rfl,φ',M',r2,r3,r4⟩⟩
end
end Ev
end
end Go.Proofs.YthclbjjgfcgbgaaGreatDoor
