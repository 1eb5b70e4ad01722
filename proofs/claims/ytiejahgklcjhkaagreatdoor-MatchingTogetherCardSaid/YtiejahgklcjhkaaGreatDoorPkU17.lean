/- Joined. -/
import Derived.Test.YtiejahgklcjhkaaGreatDoorPkU16
import Derived.Lib.TrailingZeros
import Derived.Test.YtiejahgklcjhkaaGreatDoorTie
import Derived.Test.YtiejahgklcjhkaaGreatDoorCards
import Derived.LaidMore
set_option linter.unusedSimpArgs false
set_option linter.unusedVariables false
set_option maxRecDepth 1000000
open Nat renaming reduceEqDiff→zA,reduceLeDiff→zB,reduceAdd→zD,reduceBEq→zF,reduceBNe→zG,reduceMul→zH,reduceLT→zI,beq_refl→zQ,beq→zS,le_of_ble_eq_true→zT,eq_of_beq_eq_true→zW,ble_eq_true_of_le→zY,blt→zAA,not_lt_zero→zAB,zero_le→zAE,mod_eq_of_lt→zAG,ble→zAK,lt_succ_self→zAX,le_refl→zBF
open Int renaming reduceToNat→zC,natCast_zero→zM,tmod_eq_emod_of_nonneg→zZ,toNat_natCast→zAD
open Bool renaming and_eq_true→zJ,not_eq_true'→zAN,true_and→zAU
open Option renaming getD_none→zK,getD_some→zL,getD→zO
open Go.Proofs.Tryz renaming prog→zN,checked→zAV,underlying3→zBA,f17→zBD,func64→zBE,func17→zBG
open List renaming map_congr_left→zU,mem_cons_self→zV,length_map→zX,getElem?_cons_zero→zAC,length_cons→zAF,length_singleton→zAH,mem_cons_of_mem→zAI,map_map→zAJ,length_append→zAL,map_cons→zAM,pairwise_map→zAO,getElem?_cons_succ→zAP,nodup_cons→zAQ,getElem_replicate→zAR,mem_of_mem_take→zAS,mem_of_mem_drop→zAT,getElem_mem→zAW,ext_getElem→zAY,getElem_map→zAZ,nodup_nil→zBB,range→zBH
open Eq renaming trans→zBC
open Go
namespace Go.Proofs.YtiejahgklcjhkaaGreatDoor
section
namespace Ev
open Go Go.RowKit
def mzF:List Fact:=[Mzm0,ybof,ybkv]
theorem ydcv:ybg mzF:=(ybg.cons (f:=Mzm0) ycvj (ybg.cons (f:=ybof) (ybg.at_ ybvr 0 rfl) (ybg.cons (f:=ybkv) (ybg.at_ ycaz 0 rfl) ybg.nil)))
def mzH:Hooks:=⟨some 149,some 261,some 153,symB,[⟨1000000000000,mzF⟩],some 158⟩
theorem ycym:HooksOk zN mzH:=⟨fun g h=>(by cases h;exact ybgb),fun g h=>(by cases h;exact ynn),fun g h=>(by cases h;exact ybup),yeh.cons ydcv yeh.nil,fun g h=>(by cases h;exact yvr)⟩
def mzT:Option Value->Bool
 |some (.bool b)=>b
 |_=>false
theorem ycyi:∀{o:Option Value},mzT o=true->o=some (.bool true)
 |some (.bool true),_=>rfl
set_option maxRecDepth 1000000 in
theorem ybbc:outV (ev zN mzH 3000 (.call 64 [] mem0))=some (.bool true):=ycyi (by kernel_rfl)
theorem ycsj(w:World)(hG:GlW w):Calls zN 64 #[] w fun e w'=>e = .returned (.bool true)/\Below w.heap.size w w' :=
 yve mix yrn ycym ybbc rfl rfl ⟨_,_,zBE,rfl⟩ w hG
end Ev
end
section
namespace Sh
open Go Ev Go.RowKit
theorem ybcw:Returns zN 64 [] (.b true):=by
 refine yblf ⟨_,_,zBE,rfl⟩ (fun _=>.b) (fun _=>.simple rfl) fun G m us hG hr φ M w us' hRl hs hv=>?_;cases hr
 cases hv
 exact ycsj w fun x hx=>(hRl.gl x hx).1
end Sh
end
section
namespace Ev
theorem ynv:∀l:List UInt8,eqBytes l l=true
 |[]=>rfl
 | x::l=>by
   show(zS x.toNat x.toNat&&eqBytes l l)=true;rw[zQ,ynv l];rfl
theorem ysq{ρ:Nat->Nat}{a:Addr}(h:a.spot.isNone=true):eqAddr (renA ρ a) (renA ρ a)=true:=by
 rw[yij];unfold eqAddr;simp only[zQ,h,Bool.and_self]
theorem ybuu{ρ:Nat->Nat}{v:Value}(hf:yor v=true)(h:eq1 v v=true):eq1 (ren1 ρ v) (ren1 ρ v)=true:=by
 unfold yor at hf;split at hf
 ·exact ysq hf
 ·rename_i a n c
  show(eqAddr (renA ρ a) (renA ρ a)&&zS n n&&zS c c)=true;rw[ysq hf,zQ,zQ];rfl
 ·rename_i h1 h2
  have:ren1 ρ v=v:=by
   unfold ren1;split
   ·rename_i a;exact absurd rfl (h1 a)
   ·rename_i a n c;exact absurd rfl (h2 a n c)
   ·rfl
  rw[this];exact h
theorem yoy{ρ:Nat->Nat}:∀{l:List Value},l.all yor=true->eqL1 l l=true->eqL1 (l.map (ren1 ρ)) (l.map (ren1 ρ))=true
 |[],_,_=>rfl
 | x::l,hf,h=>by
   simp only[List.all_cons,zJ]at hf;have h:(eq1 x x&&eqL1 l l)=true:=h;rw[zJ]at h;show(eq1 (ren1 ρ x) (ren1 ρ x)&&eqL1 (l.map (ren1 ρ)) (l.map (ren1 ρ)))=true;rw[ybuu hf.1 h.1,yoy hf.2 h.2];rfl
theorem ybul{v:Value}(h1:∀a,v = .agg a->False)(h2:∀g a c,v = .func (.func g) a c->False):eq2 v v=eq1 v v:=by
 cases v with
 |agg a=>exact(h1 a rfl).elim
 | func f a c=>cases f with
   |func g=>exact(h2 g a c rfl).elim
   |_=>rfl
 |_=>rfl
theorem ybsr{ρ:Nat->Nat}{v:Value}(h1:∀a,v = .agg a->False)(h2:∀g a c,v = .func (.func g) a c->False)(hf:yor v=true):ren2 ρ v=ren1 ρ v:=by
 cases v with
 |agg a=>exact(h1 a rfl).elim
 | func f a c=>cases f with
   |func g=>exact(h2 g a c rfl).elim
   |_=>cases hf
 |_=>rfl
theorem yta{ρ:Nat->Nat}{v:Value}(hf:yor v=true):(∀a,ren1 ρ v = .agg a->False)/\∀g a c,ren1 ρ v = .func (.func g) a c->False:=by
 cases v with
 |agg a=>cases hf
 |func f a c=>cases hf
 |pointer p=>cases p<;>exact⟨fun _ h=>(by cases h),fun _ _ _ h=>(by cases h)⟩
 |slice p n c=>cases p<;>exact⟨fun _ h=>(by cases h),fun _ _ _ h=>(by cases h)⟩
 |_=>exact⟨fun _ h=>(by cases h),fun _ _ _ h=>(by cases h)⟩
theorem ybrr{ρ:Nat->Nat}{v:Value}(hf:yjm v=true)(h:eq2 v v=true):eq2 (ren2 ρ v) (ren2 ρ v)=true:=by
 unfold yjm at hf;split at hf
 ·rename_i a
  have h:eqL1 a.toList a.toList=true:=h;show eqL1 (a.toList.map (ren1 ρ)).toArray.toList (a.toList.map (ren1 ρ)).toArray.toList=true;exact yoy hf h
 ·rename_i g a c
  rw[zJ]at hf;have h:(zS g g&&eqL1 a.toList a.toList&&eqL1 c.toList c.toList)=true:=h;simp only[zJ]at h;show(zS g g&&eqL1 (a.toList.map (ren1 ρ)).toArray.toList (a.toList.map (ren1 ρ)).toArray.toList&&eqL1 (c.toList.map (ren1 ρ)).toArray.toList (c.toList.map (ren1 ρ)).toArray.toList)=true;rw[zQ,yoy hf.1 h.1.2,yoy hf.2 h.2];rfl
 ·rename_i h1 h2
  rw[ybul h1 h2]at h;rw[ybsr h1 h2 hf,ybul (yta hf).1 (yta hf).2];exact ybuu hf h
def reflB(b:BlkL):Bool:=b.l.all (fun v=>eq2 v v&&yjm v)&&zAA b.l.length 1000000
theorem yrw{ρ:Nat->Nat}{b:BlkL}(h:reflB b=true):∀v∈(b.ren ρ).l,eq2 v v=true:=by
 unfold reflB at h;rw[zJ]at h;intro v hv;obtain⟨x,hx,rfl⟩:=List.mem_map.1 hv;have:=List.all_eq_true.1 h.1 x hx;rw[zJ]at this;exact ybrr this.2 this.1
theorem ykn{l:List Value}(h:∀v∈l,eq2 v v=true):∀(k:List Value) (n:Nat),l.drop n=k->cellsAre (tOf l) n k=true
 |[],_,_=>rfl
 | v :: k,n,e=>by
   have hn:n<l.length:=by
    rcases Nat.lt_or_ge n l.length with q|q
    ·exact q
    ·rw[List.drop_eq_nil_of_le q]at e;cases e
   rw[List.drop_eq_getElem_cons hn]at e
   injection e with e1 e2
   unfold cellsAre;rw[yci,List.getElem?_eq_getElem hn,e1];simp only;rw[h v (by rw[<-e1];exact zAW _),ykn h k (n+1) e2]
   rfl
theorem yng{m:Mem}{b:BlkL}(hg:m.b.get b.i=some b.blk)(h:∀v∈b.l,eq2 v v=true)(hl:zAA b.l.length 1000000=true):blkIs m b=true:=by
 unfold blkIs;rw[hg];show(zS b.l.length b.l.length&&zS b.e b.e&&zS b.z b.z&&zAA b.l.length 1000000&&cellsAre (tOf b.l) 0 b.l)=true;rw[zQ,zQ,zQ,hl,ykn h b.l 0 (List.drop_zero ..)];rfl
theorem yqd:∀{l:List BlkL}{t:T ABlk}{i:Nat},(∀b∈l,b.i≠i)->(blksT t l).get i=t.get i
 |[],_,_,_=>rfl
 | b::l,t,i,h=>by
   unfold blksT;rw[T.strict_eq,yqd fun c hc=>h c (zAI _ hc),T.set_at,if_neg (fun e=>h b zV e.symm)]
theorem ype:∀{l:List BlkL}{t:T ABlk},yfz (l.map (·.i))=true->∀b∈l,(blksT t l).get b.i=some b.blk
 |[],_,_,b,hb=>by cases hb
 | c :: l,t,h,b,hb=>by
   have h:(!(l.map (·.i)).elem c.i&&yfz (l.map (·.i)))=true:=h;rw[zJ,zAN]at h;unfold blksT;rw[T.strict_eq];rcases List.mem_cons.1 hb with e|hb
   ·subst e;rw[yqd fun d hd e=>?_,T.set_at,if_pos rfl];have:(l.map (·.i)).elem b.i=true:=List.elem_eq_true_of_mem (List.mem_map.2 ⟨d,hd,e⟩);rw[this]at h;cases h.1
   ·exact ype h.2 b hb
theorem ylr:∀{l:List Nat},l.Nodup->yfz l=true
 |[],_=>rfl
 | x :: l,h=>by
   rw[zAQ]at h;show(!(l.elem x)&&yfz l)=true
   have:l.elem x=false:=by
    cases hq:l.elem x with
    |false=>rfl
    |true=>exact absurd (by simpa using hq) h.1
   rw[this,ylr h.2];rfl
theorem yvq:∀{l:List Nat},yfz l=true->l.Nodup
 |[],_=>zBB
 | x::l,h=>by
   have h:(!(l.elem x)&&yfz l)=true:=h;rw[zJ,zAN]at h;rw[zAQ];refine⟨fun hm=>?_,yvq h.2⟩;have:l.elem x=true:=by simpa using hm
   rw[this]at h;cases h.1
theorem ybfj{d:Nat}:∀{l:List BlkL}{k:List Nat},(l.map (·.i)).Nodup->l.length=k.length->l.map (fun b=>yvk l k d b.i)=k
 |[],[],_,_=>rfl
 | b :: l,t::k,hn,hl=>by
   rw[zAM,zAQ]at hn;have ih:=ybfj (d:=d) hn.2 (by simpa using hl)
   rw[zAM];have e1:yvk (b::l) (t::k) d b.i=t:=by unfold yvk;rw[zQ];rfl
   rw[e1];congr 1;refine zBC (zU fun c hc=>?_) ih;show(bif zS b.i c.i then t else yvk l k d c.i)=_
   have:zS b.i c.i=false:=by
    cases hq:zS b.i c.i with
    |false=>rfl
    |true=>exact absurd (List.mem_map.2 ⟨c,hc,(zW hq).symm⟩) hn.1
   rw[this];rfl
 |[],_::_,_,h=>by cases h
 |_::_,[],_,h=>by cases h
def Fact.still(f:Fact):Bool:=zAK f.next0 f.low&&f.args.all yjm&&ybma f.v&&f.pre.all (fun b=>zAA b.i f.next0&&reflB b)&&yfz (f.pre.map (·.i))&&f.post.all (fun b=>zAK f.next0 b.i&&zAA b.i f.next1&&reflB b)&&yfz (f.post.map (·.i))&&zAK f.next0 f.next1
theorem yclf{a b:Nat}(h:zAA a b=true):a<b:=Nat.lt_of_lt_of_le (zAX _) (zT h)
theorem ybhb{a b:Nat}(h:a<b):zAA a b=true:=zY h
theorem yjy{f:Fact}(h:f.still=true):f.next0<=f.low/\(f.args.all yjm=true/\ybma f.v=true)/\(∀b∈f.pre,b.i<f.next0/\reflB b=true)/\(f.pre.map (·.i)).Nodup/\(∀b∈f.post,f.next0<=b.i/\b.i<f.next1/\reflB b=true)/\(f.post.map (·.i)).Nodup/\f.next0<=f.next1:=by
 unfold Fact.still at h;simp only[zJ]at h;obtain⟨⟨⟨⟨⟨⟨⟨h1,h2⟩,h3⟩,h4⟩,h5⟩,h6⟩,h7⟩,h8⟩:=h;refine⟨zT h1,⟨h2,h3⟩,fun b hb=>?_,yvq h5,fun b hb=>?_,yvq h7,zT h8⟩
 ·have:=List.all_eq_true.1 h4 b hb;rw[zJ]at this;exact⟨yclf this.1,this.2⟩
 ·have:=List.all_eq_true.1 h6 b hb;simp only[zJ]at this;exact⟨zT this.1.1,yclf this.1.2,this.2⟩
theorem ybqi{f:Fact}{tgt:List Nat}{n0:Nat}(hp:∀b∈f.pre,b.i<f.next0/\reflB b=true)(hn:(f.pre.map (·.i)).Nodup)(hl:f.pre.length=tgt.length):f.pre.map (fun b=>f.rho tgt n0 b.i)=tgt:=by
 refine zBC (zU fun b hb=>?_) (ybfj (d:=Nat.add n0 (Nat.sub f.next1 f.next0)) hn hl);unfold Fact.rho;have h1:=(hp b hb).1
 have:(zAK f.next0 b.i&&zAA b.i f.next1)=false:=by
  rw[Bool.and_eq_false_iff];left
  cases hq:zAK f.next0 b.i with
  |false=>rfl
  |true=>have:=zT hq;omega
 rw[this];rfl
theorem ybgv{f:Fact}{tgt:List Nat}{n0 i:Nat}(h1:f.next0<=i)(h2:i<f.next1):f.rho tgt n0 i=i-f.next0+n0:=by
 unfold Fact.rho;rw[Bool.cond_eq_ite,if_pos (by rw[zY h1,ybhb h2];rfl)]
 rfl
theorem ytr{P:Program}{f:Fact}{tgt:List Nat}{n0:Nat}(hok:ycx P f)(hs:f.still=true)(hl:f.pre.length=tgt.length)(hn:tgt.Nodup)(hlt:∀t∈tgt,t<n0):ycx P (f.move tgt n0):=by
 refine ydf hok ?_;obtain⟨s1,⟨s2,s3⟩,s4,s5,s6,s7,s8⟩:=yjy hs
 have hpi:(f.move tgt n0).pre.map (·.i)=tgt:=by
  show(f.pre.map (BlkL.ren (f.rho tgt n0))).map (·.i)=tgt;rw[zAJ];exact zBC (zU fun b hb=>b.yfo) (ybqi (n0:=n0) s4 s5 hl)
 have hqi:yfz ((f.move tgt n0).post.map (·.i))=true:=by
  refine ylr ?_;show((f.post.map (BlkL.ren (f.rho tgt n0))).map (·.i)).Nodup
  have e:(f.post.map (BlkL.ren (f.rho tgt n0))).map (·.i)=(f.post.map (·.i)).map (fun i=>i-f.next0+n0):=by
   rw[zAJ,zAJ];refine zU fun b hb=>?_;show(b.ren (f.rho tgt n0)).i=b.i-f.next0+n0;rw[b.yfo,ybgv (s6 b hb).1 (s6 b hb).2.1]
  rw[e];unfold List.Nodup at s7 ⊢;rw[zAO];refine List.Pairwise.imp_of_mem (fun {x y} hx hy h=>?_) s7;obtain⟨bx,hbx,rfl⟩:=List.mem_map.1 hx;obtain⟨by_,hby,rfl⟩:=List.mem_map.1 hy;have:=(s6 bx hbx).1;have:=(s6 by_ hby).1;omega
 have hpre:yfz ((f.move tgt n0).pre.map (·.i))=true:=by rw[hpi];exact ylr hn
 unfold Fact.moves;simp only[zJ];refine⟨⟨⟨⟨⟨⟨⟨⟨zY s1,s2⟩,s3⟩,?_⟩,?_⟩,hpre⟩,?_⟩,?_⟩,zY s8⟩
 ·refine List.all_eq_true.2 fun b hb=>?_;have:=(s4 b hb).2;unfold reflB at this;rw[zJ]at this;rw[ybhb (s4 b hb).1,zAU];exact List.all_eq_true.2 fun v hv=>by have:=List.all_eq_true.1 this.1 v hv;rw[zJ]at this;exact this.2
 ·refine List.all_eq_true.2 fun b hb=>?_;have:=(s6 b hb).2.2;unfold reflB at this;rw[zJ]at this;rw[ybhb (s6 b hb).2.1,zAU];exact List.all_eq_true.2 fun v hv=>by have:=List.all_eq_true.1 this.1 v hv;rw[zJ]at this;exact this.2
 ·refine List.all_eq_true.2 fun b' hb'=>?_;obtain⟨b,hb,rfl⟩:=List.mem_map.1 hb';have h2:=(s4 b hb).2;have h3:(b.ren (f.rho tgt n0)).i∈(f.move tgt n0).pre.map (·.i):=List.mem_map.2 ⟨_,hb',rfl⟩;rw[hpi]at h3;rw[ybhb (hlt _ h3),zAU];refine yng (ype hpre _ hb') (yrw h2) ?_;show zAA (b.l.map _).length 1000000=true;rw[zX];unfold reflB at h2;rw[zJ]at h2;exact h2.2
 ·refine List.all_eq_true.2 fun b' hb'=>?_;obtain⟨b,hb,rfl⟩:=List.mem_map.1 hb';have h2:=(s6 b hb).2.2;refine yng (ype hqi _ hb') (yrw h2) ?_;show zAA (b.l.map _).length 1000000=true;rw[zX];unfold reflB at h2;rw[zJ]at h2;exact h2.2
end Ev
end
section
namespace Sh
open Go Ev
def Lies(B:List BlkL)(v:Value)(F:AM)(u:Value):Prop :=
 ∃ρ:Nat->Nat,(∀b∈B,∀c∈B,ρ b.i=ρ c.i->b.i=c.i)/\(∀b∈B,F (ρ b.i)=some (b.ren ρ).blk)/\u=ren1 ρ v
theorem Lies.mono{B:List BlkL}{v:Value}(F G:AM)(u:Value)(h:Le F G)(k:Lies B v F u):Lies B v G u:=by
 obtain⟨ρ,h1,h2,h3⟩:=k;exact⟨ρ,h1,fun b hb=>h _ _ (h2 b hb),h3⟩
def ydez(B:List BlkL)(j:Nat):Option BlkL:=B.find? fun b=>zS b.i j
def ycac(p:Nat->Bool):Nat->Bool
 |0=>true
 |n+1=>p n&&ycac p n
theorem ybfs{p:Nat->Bool}:∀{n:Nat},ycac p n=true->∀k,k<n->p k=true
 |0,_,k,h=>absurd h (zAB k)
 | n+1,h,k,hk=>by
   have h:(p n&&ycac p n)=true:=h;rw[zJ]at h
   by_cases q:k=n
   ·rw[q];exact h.1
   ·exact ybfs h.2 k (by omega)
def ybbj(B:List BlkL)(z n:Nat)(row:Nat->List Value->Bool):Value->Bool
 | .slice (some a) m _=>a.spot.isNone&&zS m n&&(match ydez B a.block with
   |some b=>zS b.z z&&zAK (a.off+n*z) b.l.length&&ycac (fun k=>row k ((b.l.drop (a.off+k*z)).take z)) n
   |none=>false)
 |.slice none 0 0=>zS n 0
 |_=>false
theorem ypg {B:List BlkL}{F:AM}{ρ:Nat->Nat}{z n:Nat}{row:Nat->List Value->Bool}{v:Value}{g:Nat->List SV}(hF:∀b∈B,F (ρ b.i)=some (b.ren ρ).blk) (h:ybbj B z n row v=true)
 (hr:∀k L,k<n->row k L=true->L.length=z/\RVL F om0 (g k) (L.map (ren2 ρ))/\(g k).all one1=true):RV F om0 (.sl z n g) (ren1 ρ v):=by
 unfold ybbj at h;split at h
 ·rename_i a m c
  simp only[zJ]at h;obtain⟨⟨h1,h2⟩,h3⟩:=h;split at h3
  ·rename_i b hb
   simp only[zJ]at h3;obtain⟨⟨h3,h4⟩,h5⟩:=h3;have hm:m=n:=zW h2;have hz:=zW h3;have h4:=zT h4;have hmem:=List.mem_of_find?_eq_some hb;have hi:b.i=a.block:=zW (List.find?_some (p:=fun b:BlkL=>zS b.i a.block) hb);have h6:=hF b hmem;rw[hi]at h6;show RV F om0 _ (.slice (some (renA ρ a)) m c);rw[yij];subst hm;obtain⟨A,o,sp⟩:=a;have hsp:sp=none:=by simpa using h1
   subst hsp;have h6:F (ρ A)=some (.cells (tOf (b.l.map (ren2 ρ))) (b.l.map (ren2 ρ)).length b.e b.z):=h6;have hrow:∀k,k<m->_:=fun k hk=>hr k _ hk (ybfs h5 k hk);refine .sl (L:=fun k=>((b.l.drop (o+k*z)).take z).map (ren2 ρ)) h6 (.inl hz) (by rw[zX];exact h4) ?_ ?_ (fun k hk=>(hrow k hk).2.1) (fun k hk=>(hrow k hk).2.2)
   ·intro k hk;rw[zX];exact(hrow k hk).1
   ·intro k hk j hj;rw[yci];simp only[List.getElem?_map,List.getElem?_take,List.getElem?_drop,hj,if_true]
  ·cases h3
 ·have h:zS n 0=true:=h;have h0:=zW h;subst h0;exact .sl0 (.inl rfl)
 ·cases h
def isI(v:Value)(n:Int):Bool:=match v with
 |.int .i64 m=>eqInt m n
 |_=>false
def isS(v:Value)(s:ByteArray):Bool:=match v with
 |.string t=>eqBytes t.data.toList s.data.toList
 |_=>false
theorem ynx{F:AM}{ρ:Nat->Nat}{v:Value}{n:Int}(h:isI v n=true):RV F om0 (.i .i64 n) (ren2 ρ v):=by
 unfold isI at h;split at h
 ·rw[yow h];exact .i
 ·cases h
theorem ycmf{F:AM}{ρ:Nat->Nat}{v:Value}{s:ByteArray}(h:isS v s=true):RV F om0 (.a (.string s)) (ren2 ρ v):=by
 unfold isS at h;split at h
 ·rename_i t
  have e:=ymm h
  have:t=s:=by
   cases t;cases s
   congr 1;exact Array.toList_inj.1 e
  rw[this];exact .a rfl
 ·cases h
def ycxs(ls:List (Int×Int))(k:Nat):List Value->Bool
 |[x,y]=>isI x (ls.getD k (0,0)).1&&isI y (ls.getD k (0,0)).2
 |_=>false
def yccm(l:List VarR)(k:Nat):List Value->Bool
 |[s,a,b,c,d,e]=>isS s (l.getD k default).name&&isI a (l.getD k default).kind&&isI b (l.getD k default).lo&&isI c (l.getD k default).hi&&isI d (l.getD k default).perNode&&isI e (l.getD k default).perID
 |_=>false
def yus(B:List BlkL)(ls:List (Int×Int))(v:Value):Bool:=ybbj B 2 ls.length (ycxs ls) v
def isSl:Value->Bool
 |.slice _ _ _=>true
 |_=>false
def ybsb(B:List BlkL)(l:List SetR)(k:Nat):List Value->Bool
 |[a,v]=>isI a (l.getD k default).var&&isSl v&&yus B (l.getD k default).val v
 |_=>false
def ybux(B:List BlkL)(l:List RuleR)(k:Nat):List Value->Bool
 |[s,v,w]=>isS s (l.getD k default).name&&isSl v&&yus B (l.getD k default).guard v&&isSl w&&ybbj B 2 (l.getD k default).sets.length (ybsb B (l.getD k default).sets) w
 |_=>false
def ybtb(B:List BlkL)(v:Value)(l:List VarR):Bool:=ybbj B 6 l.length (yccm l) v
def ybfz(B:List BlkL)(v:Value)(l:List RuleR):Bool:=ybbj B 3 l.length (ybux B l) v
section
variable {B:List BlkL}{F:AM}{ρ:Nat->Nat}
theorem ybcn{v:Value}(h:isSl v=true):ren2 ρ v=ren1 ρ v:=by
 unfold isSl at h;split at h
 ·rfl
 ·cases h
theorem yrr(hF:∀b∈B,F (ρ b.i)=some (b.ren ρ).blk){ls:List (Int×Int)}{v:Value}(h:yus B ls v=true):RV F om0 (ybc ls) (ren1 ρ v):=by
 refine ypg hF h fun k L hk hq=>?_;unfold ycxs at hq;split at hq
 ·simp only[zJ]at hq;exact⟨rfl,.cons (ynx hq.1) (.cons (ynx hq.2) .nil),rfl⟩
 ·cases hq
theorem ybkd(hF:∀b∈B,F (ρ b.i)=some (b.ren ρ).blk){l:List VarR}{v:Value}(h:ybtb B v l=true):RV F om0 (ycd l) (ren1 ρ v):=by
 refine ypg hF h fun k L hk hq=>?_;unfold yccm at hq;split at hq
 ·simp only[zJ]at hq;obtain⟨⟨⟨⟨⟨h1,h2⟩,h3⟩,h4⟩,h5⟩,h6⟩:=hq;exact⟨rfl,.cons (ycmf h1) (.cons (ynx h2) (.cons (ynx h3) (.cons (ynx h4) (.cons (ynx h5) (.cons (ynx h6) .nil))))),rfl⟩
 ·cases hq
theorem ybih(hF:∀b∈B,F (ρ b.i)=some (b.ren ρ).blk){l:List SetR}{v:Value}(h:ybbj B 2 l.length (ybsb B l) v=true):RV F om0 (ygq l) (ren1 ρ v):=by
 refine ypg hF h fun k L hk hq=>?_;unfold ybsb at hq;split at hq
 ·simp only[zJ]at hq;obtain⟨⟨h1,h2⟩,h3⟩:=hq;refine⟨rfl,.cons (ynx h1) (.cons ?_ .nil),rfl⟩;rw[ybcn h2];exact yrr hF h3
 ·cases hq
theorem ybcf(hF:∀b∈B,F (ρ b.i)=some (b.ren ρ).blk){l:List RuleR}{v:Value}(h:ybfz B v l=true):RV F om0 (ycl l) (ren1 ρ v):=by
 refine ypg hF h fun k L hk hq=>?_;unfold ybux at hq;split at hq
 ·simp only[zJ]at hq;obtain⟨⟨⟨⟨h1,h2⟩,h3⟩,h4⟩,h5⟩:=hq;refine⟨rfl,.cons (ycmf h1) (.cons ?_ (.cons ?_ .nil)),rfl⟩
  ·rw[ybcn h2];exact yrr hF h3
  ·rw[ybcn h4];exact ybih hF h5
 ·cases hq
end
structure LaidP(fp:Fact)(t:ByteArray)(p:ProgR)(vv vr:Value)(Bv Br:List BlkL):Prop where
 args:fp.args=[.string t]
 pre:fp.pre=[]
 v:fp.v = .agg #[.string p.name,vv,vr]
 still:fp.still=true
 bv:∀b∈Bv,b∈fp.post
 br:∀b∈Br,b∈fp.post
 vars:ybtb Bv vv p.vars=true
 rules:ybfz Br vr p.rules=true
theorem ybxu{P:Program}{fp:Fact}{t:ByteArray}{p:ProgR}{vv vr:Value}{Bv Br:List BlkL}(hok:ycx P fp)(h:LaidP fp t p vv vr Bv Br):Returns P fp.g [.a (.string t)] (.ag (yff (Lies Bv vv) (Lies Br vr) p)):=by
 intro G m us hwf hle hus
 have hu:us=[.string t]:=by
  cases hus with
  |cons a b=>cases a with|a _=>cases b with|nil=>rfl
 subst hu;obtain⟨s1,⟨s2,s3⟩,s4,s5,s6,s7,s8⟩:=yjy h.still;have hmv:=ytr (tgt:=[]) (n0:=m.next) hok h.still (by rw[h.pre];rfl) zBB (fun t ht=>by cases ht)
 obtain⟨ρ,hρ⟩:∃ρ,fp.rho [] m.next=ρ:=⟨_,rfl⟩
 have hpost:(fp.move [] m.next).post=fp.post.map (BlkL.ren ρ):=by rw[<-hρ];rfl
 have hv:(fp.move [] m.next).v = .agg #[.string p.name,ren1 ρ vv,ren1 ρ vr]:=by
  show renV (fp.rho [] m.next) fp.v=_
  rw[hρ,h.v];rfl
 have hpre:(fp.move [] m.next).pre=[]:=by
  show fp.pre.map _=[];rw[h.pre];rfl
 have hfit:(fp.move [] m.next).fits fp.g [.string t] m=true:=by
  unfold Fact.fits;rw[hpre];show(zS fp.g fp.g&&zS m.next m.next&&eqL2 (fp.args.map (ren2 _)) [.string t]&&true)=true
  rw[zQ,zQ,h.args];show(true&&true&&(eqBytes t.data.toList t.data.toList&&true)&&true)=true;rw[ynv];rfl
 have hri:∀b∈fp.post,ρ b.i=b.i-fp.next0+m.next:=fun b hb=>by rw[<-hρ];exact ybgv (s6 b hb).1 (s6 b hb).2.1
 have hnd:yfz ((fp.post.map (BlkL.ren ρ)).map (·.i))=true:=by
  refine ylr ?_
  have e:(fp.post.map (BlkL.ren ρ)).map (·.i)=(fp.post.map (·.i)).map (fun i=>i-fp.next0+m.next):=by
   rw[zAJ,zAJ];refine zU fun b hb=>?_;show(b.ren ρ).i=_;rw[b.yfo,hri b hb];rfl
  rw[e];unfold List.Nodup at s7 ⊢;rw[zAO];refine List.Pairwise.imp_of_mem (fun {x y} hx hy h=>?_) s7;obtain⟨bx,hbx,rfl⟩:=List.mem_map.1 hx;obtain⟨by_,hby,rfl⟩:=List.mem_map.1 hy;have:=(s6 bx hbx).1;have:=(s6 by_ hby).1;omega
 have hs:=yvl hmv hfit;unfold Fact.out at hs;rw[hv,hpre,hpost]at hs;refine⟨_,_,_,hs,zBF _,?_,rfl,?_⟩
 ·intro i b hb;show(blksT m.b (fp.post.map (BlkL.ren ρ))).get i=some b;rw[yqd fun c hc=>?_]
  ·exact hb
  ·obtain⟨c,hc',rfl⟩:=List.mem_map.1 hc;have:=hwf i b hb;rw[c.yfo,hri c hc'];omega
 ·have hF:∀b∈fp.post,frsh m.next ⟨(fp.move [] m.next).next1,blksT m.b (fp.post.map (BlkL.ren ρ)),(fp.move [] m.next).low⟩ G (ρ b.i)=some (b.ren ρ).blk:=fun b hb=>by
   unfold frsh;rw[if_pos (by rw[hri b hb];omega)]
   have:=ype (t:=m.b) hnd _ (List.mem_map.2 ⟨b,hb,rfl⟩);rw[b.yfo]at this;exact this
  have hinj:∀b∈fp.post,∀c∈fp.post,ρ b.i=ρ c.i->b.i=c.i:=fun b hb c hc e=>by
   rw[hri b hb,hri c hc]at e;have:=(s6 b hb).1;have:=(s6 c hc).1;omega
  refine .ag (.cons (.a rfl) (.cons (.ex ?_ (fun A B w=>Lies.mono A B w) ?_) (.cons (.ex ?_ (fun A B w=>Lies.mono A B w) ?_) .nil)))
  ·exact⟨ρ,fun b hb c hc=>hinj b (h.bv b hb) c (h.bv c hc),fun b hb=>hF b (h.bv b hb),rfl⟩
  ·exact ybkd (fun b hb=>hF b (h.bv b hb)) h.vars
  ·exact⟨ρ,fun b hb c hc=>hinj b (h.br b hb) c (h.br c hc),fun b hb=>hF b (h.br b hb),rfl⟩
  ·exact ybcf (fun b hb=>hF b (h.br b hb)) h.rules
def inB(B:List BlkL):Value->Bool
 |.slice (some a) _ _=>(B.map (·.i)).elem a.block
 |.pointer (some a)=>(B.map (·.i)).elem a.block
 |.agg _=>false
 |.func _ _ _=>false
 |_=>true
theorem ygz{B:List BlkL}{ρ σ:Nat->Nat}(h:∀b∈B,ρ b.i=σ b.i){v:Value}(hv:inB B v=true):ren1 ρ v=ren1 σ v:=by
 have hk:∀j,(B.map (·.i)).elem j=true->ρ j=σ j:=fun j hj=>by
  have:j∈B.map (·.i):=by simpa using hj
  obtain⟨b,hb,rfl⟩:=List.mem_map.1 this;exact h b hb
 cases v with
 | slice p n c=>cases p with
   |none=>rfl
   | some a =>
     show Value.slice (some (renA ρ a)) n c = .slice (some (renA σ a)) n c;rw[yij,yij,hk _ hv]
 | pointer p=>cases p with
   |none=>rfl
   | some a =>
     show Value.pointer (some (renA ρ a)) = .pointer (some (renA σ a));rw[yij,yij,hk _ hv]
 |agg a=>cases hv
 |func f a c=>cases hv
 |_=>rfl
theorem ybgc{B:List BlkL}{τ:Nat->Nat}{v:Value}(hv:inB B v=true):ren2 τ v=ren1 τ v:=by
 cases v with
 |agg a=>cases hv
 |func f a c=>cases hv
 |_=>rfl
theorem ybis{B:List BlkL}{ρ σ:Nat->Nat}(h:∀b∈B,ρ b.i=σ b.i){v:Value}(hv:inB B v=true):ren2 ρ v=ren2 σ v:=by
 rw[ybgc hv,ybgc hv];exact ygz h hv
def ybbd(B:List BlkL):Bool:=B.all fun b=>b.l.all (inB B)
theorem yza{B:List BlkL}{ρ σ:Nat->Nat}(hc:ybbd B=true)(h:∀b∈B,ρ b.i=σ b.i){b:BlkL}(hb:b∈B):b.ren ρ=b.ren σ:=by
 have h1:=List.all_eq_true.1 (List.all_eq_true.1 hc b hb)
 have e:∀τ:Nat->Nat,b.ren τ=⟨τ b.i,b.e,b.z,b.l.map (ren2 τ)⟩:=fun τ=>by
  unfold BlkL.ren;rw[ybk]
 rw[e,e,h b hb];congr 1;exact zU fun v hv=>ybis h (h1 v hv)
theorem ysz{low:Nat}:∀{l:List BlkL}{t:T ABlk},(∀b∈l,b.i<low)->dropT t low l=t
 |[],_,_=>rfl
 | b :: l,t,h=>by
   have hb:=h b zV;unfold dropT
   have e:zAK low b.i=false:=by
    cases q:zAK low b.i with
    |false=>rfl
    |true=>have:=zT q;omega
   rw[e,ybd,if_neg (by simp)]
   exact ysz fun c hc=>h c (zAI _ hc)
structure GoodV(fv:Fact)(p:ProgR)(vv vr:Value)(Bv Br:List BlkL):Prop where
 args:fv.args=[.agg #[.string p.name,vv,vr]]
 pre:∀b∈fv.pre,b∈Bv\/b∈Br
 bv:∀b∈Bv,b∈fv.pre
 br:∀b∈Br,b∈fv.pre
 v:fv.v = .bool true
 post:fv.post=[]
 still:fv.still=true
 apart:(Bv.all fun b=>Br.all fun c=>!(zS b.e c.e) && !(zS b.i c.i))=true
 cv:ybbd Bv=true
 cr:ybbd Br=true
 iv:inB Bv vv=true
 ir:inB Br vr=true
 refl:eq2 (.agg #[.string p.name,vv,vr]) (.agg #[.string p.name,vv,vr])=true
theorem ybvy{P:Program}{fv:Fact}{p:ProgR}{vv vr:Value}{Bv Br:List BlkL}(hok:ycx P fv)(h:GoodV fv p vv vr Bv Br):Returns P fv.g [.ag (yff (Lies Bv vv) (Lies Br vr) p)] (.b true):=by
 intro G m us hwf hle hus
 obtain⟨ρ1,ρ2,hu,a1,a2,a3,a4⟩:∃ρ1 ρ2:Nat->Nat,us=[.agg #[.string p.name,ren1 ρ1 vv,ren1 ρ2 vr]]/\(∀b∈Bv,∀c∈Bv,ρ1 b.i=ρ1 c.i->b.i=c.i)/\(∀b∈Bv,G (ρ1 b.i)=some (b.ren ρ1).blk) /\
  (∀b∈Br,∀c∈Br,ρ2 b.i=ρ2 c.i->b.i=c.i)/\∀b∈Br,G (ρ2 b.i)=some (b.ren ρ2).blk:=by
  cases hus with
  | cons a b =>
    cases b
    cases a with
    | ag hl =>
      cases hl with
      | cons x1 hl =>
        cases x1
        cases hl with
        | cons x2 hl =>
          cases x2 with
          | ex q2 _ _ =>
            cases hl with
            | cons x3 hl =>
              cases x3 with
              | ex q3 _ _ =>
                cases hl
                obtain⟨ρ1,b1,b2,rfl⟩:=q2;obtain⟨ρ2,b3,b4,rfl⟩:=q3;exact⟨ρ1,ρ2,rfl,b1,b2,b3,b4⟩
 subst hu;obtain⟨s1,⟨s2,s3⟩,s4,s5,s6,s7,s8⟩:=yjy h.still
 have hap:∀b∈Bv,∀c∈Br,b.e≠c.e/\b.i≠c.i:=fun b hb c hc=>by
  have:=List.all_eq_true.1 (List.all_eq_true.1 h.apart b hb) c hc;simp only[zJ,zAN]at this;exact⟨fun e=>(by rw[e,zQ]at this;exact absurd this.1 (by decide)),fun e=>(by rw[e,zQ]at this;exact absurd this.2 (by decide))⟩
 let σ:Nat->Nat:=fun i=>if (Bv.map (·.i)).elem i then ρ1 i else ρ2 i
 have hcross:∀b∈Bv,∀c∈Br,ρ1 b.i≠ρ2 c.i:=fun b hb c hc e=>by
  have e1:=a2 b hb;have e2:=a4 c hc;rw[e,e2]at e1
  injection e1 with e1
  unfold BlkL.blk at e1
  injection e1 with _ _ e3 _
  exact(hap b hb c hc).1 e3.symm
 have hG:∀i b,G i=some b->i<m.next:=fun i b hb=>hwf i b (hle i b hb)
 have sv:∀b∈Bv,σ b.i=ρ1 b.i:=fun b hb=>if_pos (by simpa using⟨b,hb,rfl⟩)
 have sr:∀b∈Br,σ b.i=ρ2 b.i:=fun b hb=>by
  refine if_neg fun q=>?_;have:b.i∈Bv.map (·.i):=by simpa using q
  obtain⟨d,hd,hdi⟩:=List.mem_map.1 this;exact(hap d hd b hb).2 hdi
 have tgtLt:∀b∈fv.pre,σ b.i<m.next:=fun b hb=>by
  rcases h.pre b hb with q|q
  ·rw[sv b q];exact hG _ _ (a2 b q)
  ·rw[sr b q];exact hG _ _ (a4 b q)
 have sinj:∀b∈fv.pre,∀c∈fv.pre,σ b.i=σ c.i->b.i=c.i:=fun b hb c hc e=>by
  rcases h.pre b hb with q|q<;>rcases h.pre c hc with q'|q'
  ·rw[sv b q,sv c q']at e;exact a1 b q c q' e
  ·rw[sv b q,sr c q']at e;exact absurd e (hcross b q c q')
  ·rw[sr b q,sv c q']at e;exact absurd e.symm (hcross c q' b q)
  ·rw[sr b q,sr c q']at e;exact a3 b q c q' e
 obtain⟨tgt,htgt⟩:∃t,fv.pre.map (fun b=>σ b.i)=t:=⟨_,rfl⟩
 have tlt:∀t∈tgt,t<m.next:=fun t ht=>by
  rw[<-htgt]at ht;obtain⟨b,hb,rfl⟩:=List.mem_map.1 ht;exact tgtLt b hb
 have tnd:tgt.Nodup:=by
  rw[<-htgt];have s5:=s5;unfold List.Nodup at s5 ⊢;rw[zAO]at s5 ⊢;exact List.Pairwise.imp_of_mem (fun {x y} hx hy h e=>h (sinj x hx y hy e)) s5
 have tlen:fv.pre.length=tgt.length:=by rw[<-htgt,zX]
 have hmv:=ytr (n0:=m.next) hok h.still tlen tnd tlt
 have hrho:=ybqi (n0:=m.next) s4 s5 tlen
 obtain⟨ρ,hρ⟩:∃ρ,fv.rho tgt m.next=ρ:=⟨_,rfl⟩
 rw[hρ,<-htgt]at hrho;have hri:∀b∈fv.pre,ρ b.i=σ b.i:=List.map_inj_left.1 hrho;have hv1:∀b∈Bv,ρ b.i=ρ1 b.i:=fun b hb=>by rw[hri b (h.bv b hb),sv b hb]
 have hr1:∀b∈Br,ρ b.i=ρ2 b.i:=fun b hb=>by rw[hri b (h.br b hb),sr b hb]
 have hargs:(fv.move tgt m.next).args=[.agg #[.string p.name,ren1 ρ1 vv,ren1 ρ2 vr]]:=by
  show fv.args.map (ren2 (fv.rho tgt m.next))=_
  rw[hρ,h.args,<-ygz hv1 h.iv,<-ygz hr1 h.ir];rfl
 have hself:eqL2 [.agg #[.string p.name,ren1 ρ1 vv,ren1 ρ2 vr]] [.agg #[.string p.name,ren1 ρ1 vv,ren1 ρ2 vr]]=true:=by
  have hf:yjm (.agg #[.string p.name,vv,vr])=true:=by
   have:=s2;rw[h.args]at this
   simpa using this
  have e:=ybrr (ρ:=ρ) hf h.refl;rw[show ren2 ρ (.agg #[.string p.name,vv,vr]) = .agg #[.string p.name,ren1 ρ vv,ren1 ρ vr]from rfl,ygz hv1 h.iv,ygz hr1 h.ir]at e
  show(eq2 _ _&&true)=true;rw[e];rfl
 have hpre:∀b∈fv.pre,m.b.get (ρ b.i)=some (b.ren ρ).blk:=fun b hb=>by
  rcases h.pre b hb with q|q
  ·rw[yza h.cv hv1 q,hv1 b q];exact hle _ _ (a2 b q)
  ·rw[yza h.cr hr1 q,hr1 b q];exact hle _ _ (a4 b q)
 have hp:(fv.move tgt m.next).pre=fv.pre.map (BlkL.ren ρ):=by rw[<-hρ];rfl
 have hfit:(fv.move tgt m.next).fits fv.g [.agg #[.string p.name,ren1 ρ1 vv,ren1 ρ2 vr]] m=true:=by
  unfold Fact.fits;rw[hargs,hself];show(zS fv.g fv.g&&zS m.next m.next&&true&&(fv.move tgt m.next).pre.all (blkIs m))=true
  rw[zQ,zQ,hp];show List.all _ _=true;refine List.all_eq_true.2 fun b' hb'=>?_;obtain⟨b,hb,rfl⟩:=List.mem_map.1 hb';have h2:=(s4 b hb).2;refine yng ?_ (yrw h2) ?_
  ·rw[b.yfo];exact hpre b hb
  ·show zAA (b.l.map _).length 1000000=true;rw[zX];unfold reflB at h2;rw[zJ]at h2;exact h2.2
 have hs:=yvl hmv hfit;unfold Fact.out at hs
 have hv:(fv.move tgt m.next).v = .bool true:=by
  show renV (fv.rho tgt m.next) fv.v=_
  rw[h.v];rfl
 have hpost:(fv.move tgt m.next).post=[]:=by
  show fv.post.map _=[];rw[h.post];rfl
 rw[hv,hpost]at hs;refine⟨_,_,_,hs,zBF _,?_,rfl,.b⟩;intro i b hb;show(dropT m.b m.next (fv.move tgt m.next).pre).get i=some b
 rw[ysz fun c hc=>?_]
 ·exact hb
 ·rw[hp]at hc;obtain⟨c,hc',rfl⟩:=List.mem_map.1 hc;rw[c.yfo,hri c hc'];exact tgtLt c hc'
end Sh
end
section
namespace Sh
open Go Ev
def MqP:ProgT:=ycn (by8 [109,97,116,99,104,105,110,103]) (by8 [112]) (by8 [97,99,99,101,112,116]) (by8 [112,114,111,112,111,115,101]) (by8 [119,105,116,104,100,114,97,119])
def Mqt:ByteArray:=ybo
def Mqv:Value:=.slice (some ⟨634,0,none⟩) 1 CU
def Mqr:Value:=.slice (some ⟨1036,0,none⟩) 3 CU
def MqB:List BlkL:=yrj.post.take 1
def MqC:List BlkL:=yrj.post.drop 1
theorem ybio:Returns zN 37 [.a (.string Mqt)] (.ag (yff (Lies MqB Mqv) (Lies MqC Mqr) MqP.raw)) :=
 ybxu (fp:=yrj) (ybg.at_ ybfb 0 rfl) ⟨rfl,rfl,rfl,by kernel_rfl,fun _ h=>zAS h,fun _ h=>zAT h,by kernel_rfl,by kernel_rfl⟩
theorem yczm:ybbn.pre=yrj.post:=rfl
theorem ycag:Returns zN 191 [.ag (yff (Lies MqB Mqv) (Lies MqC Mqr) MqP.raw)] (.b true) :=
 ybvy (fv:=ybbn) (ybg.at_ ybub 0 rfl) ⟨rfl,fun b h=>by
  rw[yczm,<-List.take_append_drop 1 yrj.post]at h;exact List.mem_append.1 h,fun _ h=>zAS h,fun _ h=>zAT h,rfl,rfl,by kernel_rfl,by kernel_rfl,by kernel_rfl,by kernel_rfl,by kernel_rfl,by kernel_rfl,by kernel_rfl⟩
theorem ycth:MqP.ok=true:=by kernel_rfl
end Sh
end
section
end
section
open Go.RowKit
namespace Sh
open Ev
end Sh
end
section
namespace Ev
open Go Go.RowKit
section
variable {φ:Phi}{M:AM}{w:World}{m:Mem}{b x y:Nat}
end
end Ev
end
section
end
section
namespace Sh
open Ev Go.RowKit
end Sh
end
section
namespace Sh
open Go Ev
end Sh
end
section
structure LdC(g:Gr)(c:Conf):Prop where
 len:c.length=g.ids.length
 row:∀v,v<g.ids.length->(c.getD v []).length=3/\(0<=(c.getD v []).getD 0 0/\(c.getD v []).getD 0 0<=ybek g)/\(0<=(c.getD v []).getD 1 0/\(c.getD v []).getD 1 0<g.ids.length)/\(-1<=(c.getD v []).getD 2 0/\(c.getD v []).getD 2 0<(g.ports.getD v []).length)
section
variable {nm nl nd np no nj:ByteArray}{g:Gr}{c:Conf}{v:Nat}
theorem LdC.link(h:LdC g c)(hg:ybb g)(hv:v<g.ids.length){l:Int×Int}(hl:l∈g.ports.getD v []):0<=l.1/\l.1.toNat<g.ids.length/\adj g v l.1.toNat/\(0<=endP c 0 l/\endP c 0 l<=ybek g)/\(0<=endP c 1 l/\endP c 1 l<g.ids.length):=by
 have hpl:=hg.2.2.1;obtain⟨h1,h2,h3,_⟩:=ycz hg (by omega) hl
 have h4:=h.row l.1.toNat (by omega)
 exact⟨h1,by omega,h3,h4.2.1,h4.2.2.1⟩
end
end
section
section
variable {nm nl nd np no nj:ByteArray}{g:Gr}{c:Conf}{v:Nat}
end
end
section
section
variable {nm nl nd np no nj:ByteArray}{g:Gr}{c:Conf}{v:Nat}
end
end
section
namespace Sh
open Ev Go.RowKit
end Sh
end
section
namespace Sh
open Ev Go.RowKit
end Sh
end
section
namespace Sh
open Ev Go.RowKit
end Sh
end
section
namespace Sh
open Ev Go.RowKit
theorem yboo:Returns zN 59 [] (.a (.string Mqt)):=by
 refine Returns.of (yden _ _ ?_);simp only[c59,ydcc,ydeg,go_sem,↓reduceIte];exact Sim.refl _
theorem ybhk:Returns zN 60 [] (ycd MqP.vars):=by
 have e:MqP.vars=[⟨⟨#[112]⟩,3,0,0,0,0⟩]:=by kernel_rfl
 rw[e];exact ybut
end Sh
end
section
def ynb(g:Gr):Prop:=∀v,v<g.ids.length->∃l ls,g.ports.getD v []=l::ls/\((g.ports.getD l.1.toNat []).getD 0 (0,0)).1.toNat≠v
def allC(g:Gr)(x:Int):Conf:=List.replicate g.ids.length [x]
section
variable {nm np na nb nw:ByteArray}{g:Gr}{c:Conf}{u v s:Nat}{x:Int}
theorem yuk(hv:v<g.ids.length):(allC g x).getD v []=[x]:=by
 unfold allC;rw[Sh.getD_at (by simpa using hv),zAR]
theorem ycxd(hv:v<g.ids.length):pAt (allC g x) v=x:=by
 unfold pAt;rw[yuk hv];rfl
theorem ybah(hR:ynb g)(h1:-1<=x)(h2:x<=0):MtC g (allC g x) where
 len:=by simp[allC]
 row:=fun v hv=>by
  obtain⟨l,ls,e,_⟩:=hR v hv;rw[ycxd hv,yuk hv,e];refine⟨rfl,h1,?_⟩;simp only[zAF];omega
theorem all_none(hg:ybb g)(hR:ynb g):toP g (allC g (-1)) v=none:=by
 by_cases hv:v<g.ids.length
 ·exact(ykx hg (ybah hR (by decide) (by decide)) hv).2 (ycxd hv)
 ·exact ycsz hg hv
theorem all_zero(hg:ybb g)(hv:v<g.ids.length):toP g (allC g 0) v=some ((g.ports.getD v []).getD 0 (0,0)).1.toNat:=by
 have:=hg.2.2.1;unfold toP;rw[ycxd hv,if_pos ⟨by omega,by decide⟩]
 rfl
theorem yug(hg:ybb g)(hR:ynb g)(hv:v<g.ids.length):∃u,u<g.ids.length/\adj g v u/\((g.ports.getD v []).getD 0 (0,0)).1.toNat=u/\((g.ports.getD u []).getD 0 (0,0)).1.toNat≠v:=by
 have hpl:=hg.2.2.1;obtain⟨l,ls,e,h⟩:=hR v hv;obtain⟨_,h2,h3,_⟩:=ycz hg (v:=v) (l:=l) (by omega) (by rw[e];exact zV)
 exact⟨l.1.toNat,by omega,h3,by rw[e];rfl,h⟩
theorem ybog(hg:ybb g)(h:MtC g c)(hv:v<g.ids.length)(hb:s.testBit v=true)(q1:¬gAcc g c v)(q2:gPro g c v){l:Int×Int}{ls:List (Int×Int)}(e:g.ports.getD v []=l::ls)(hf:ylv c l=true) :
 (yit (ycn nm np na nb nw) g c s).getD v []=[0]:=by
 have hpl:=hg.2.2.1;have hvp:v<g.ports.length:=by omega
 obtain⟨_,r2,_,_⟩:=ybaz (nm:=nm) (np:=np) (na:=na) (nb:=nb) (nw:=nw) hg h hv
 obtain⟨y,hy⟩:∃y,c.getD v []=[y]:=by
  have:=(h.row v hv).1
  match hq:c.getD v [],this with
  |[y],_=>exact⟨y,rfl⟩
 rw[Sh.ylc _ g c s (by rw[h.len];exact hv),hb,if_pos rfl,r2 q1 q2]
 unfold yxx ylm;rw[hy];show[yic 3 (ybh g v ⟨np,3,0,0,0,0⟩) (ycu g c v (.agg 23 ylh) (-1))]=_
 have e1:ybaa (ylv c) (g.ports.getD v [])=0:=by
  rw[e];unfold ybaa;rw[List.findIdx?_cons,hf];rfl
 rw[ybve (ylv c) ylh (fun q hq=>yxc),e1];unfold yic;rw[bT3,e];simp only[zAF]
 first
  |rw[if_pos (by omega)]
  |(split<;>first|rfl|omega)
theorem ybpj(hg:ybb g)(h:MtC g c)(hv:v<g.ids.length)(hb:s.testBit v=true)(q1:¬gAcc g c v)(q2:¬gPro g c v)(q3:gWit g c v) :
 (yit (ycn nm np na nb nw) g c s).getD v []=[-1]:=by
 obtain⟨_,_,r3,_⟩:=ybaz (nm:=nm) (np:=np) (na:=na) (nb:=nb) (nw:=nw) hg h hv
 obtain⟨y,hy⟩:∃y,c.getD v []=[y]:=by
  have:=(h.row v hv).1
  match hq:c.getD v [],this with
  |[y],_=>exact⟨y,rfl⟩
 rw[Sh.ylc _ g c s (by rw[h.len];exact hv),hb,if_pos rfl,r3 q1 q2 q3]
 unfold yxx ylm;rw[hy];show[yic 3 (ybh g v ⟨np,3,0,0,0,0⟩) (-1)]=_;unfold yic;rw[bT3];simp only
 first
  |rw[if_pos (by omega)]
  |(split<;>first|rfl|omega)
theorem ybfq{c d:Conf}(hl:c.length=d.length)(h:∀v,v<c.length->c.getD v []=d.getD v []):c=d:=by
 refine zAY hl fun i h1 h2=>?_;have:=h i h1
 rwa [Sh.getD_at h1,Sh.getD_at h2]at this
theorem ybgy(hg:ybb g)(hR:ynb g)(hv:v<g.ids.length):¬gAcc g (allC g (-1)) v/\gPro g (allC g (-1)) v:=by
 refine⟨fun⟨_,u,_,e⟩=>?_,all_none hg hR,?_⟩
 ·rw[all_none hg hR]at e;cases e
 ·obtain⟨u,_,hu,_⟩:=yug hg hR hv;exact⟨u,hu,all_none hg hR⟩
theorem ybev(hg:ybb g)(hR:ynb g)(hv:v<g.ids.length):¬gAcc g (allC g 0) v/\¬gPro g (allC g 0) v/\gWit g (allC g 0) v:=by
 have e:=all_zero hg hv;obtain⟨u,hu,_,e1,e2⟩:=yug hg hR hv;refine⟨fun h=>?_,fun h=>?_,u,_,by rw[e,e1],all_zero hg hu,e2⟩
 ·have:=h.1;rw[e]at this;cases this
 ·have:=h.1;rw[e]at this;cases this
theorem ycwp(hg:ybb g)(hR:ynb g):yit (ycn nm np na nb nw) g (allC g (-1)) (ybs (ycn nm np na nb nw) g (allC g (-1)))=allC g 0:=by
 have h:=ybah (g:=g) (x:=-1) hR (by decide) (by decide)
 refine ybfq (by rw[Sh.ydh];simp[allC]) fun v hv=>?_
 have hv:v<g.ids.length:=by rw[Sh.ydh,h.len]at hv;exact hv
 obtain⟨q1,q2⟩:=ybgy hg hR hv;obtain⟨l,ls,e,_⟩:=hR v hv;have hpl:=hg.2.2.1;rw[yuk hv];refine ybog hg h hv ((ycyf hg h hv).2 (.inr (.inl q2))) q1 q2 e ?_;exact(yov hg h (v:=v) (by omega) (by rw[e];exact zV)).2 (all_none hg hR)
theorem ybpg(hg:ybb g)(hR:ynb g):yit (ycn nm np na nb nw) g (allC g 0) (ybs (ycn nm np na nb nw) g (allC g 0))=allC g (-1):=by
 have h:=ybah (g:=g) (x:=0) hR (by decide) (by decide)
 refine ybfq (by rw[Sh.ydh];simp[allC]) fun v hv=>?_
 have hv:v<g.ids.length:=by rw[Sh.ydh,h.len]at hv;exact hv
 obtain⟨q1,q2,q3⟩:=ybev hg hR hv;rw[yuk hv];exact ybpj hg h hv ((ycyf hg h hv).2 (.inr (.inr q3))) q1 q2 q3
theorem ytp(hg:ybb g)(hR:ynb g):¬ypx g (allC g (-1))/\¬ypx g (allC g 0):=by
 have h0:=hg.1;have hpl:=hg.2.2.1;refine⟨fun h=>?_,fun h=>?_⟩
 ·exact(ynw hg (ybah hR (by decide) (by decide))).2 h 0 (by omega) (.inr (.inl (ybgy hg hR (by omega)).2))
 ·exact(ynw hg (ybah hR (by decide) (by decide))).2 h 0 (by omega) (.inr (.inr (ybev hg hR (by omega)).2.2))
theorem ybeu(hg:ybb g)(hR:ynb g):∀(ws:List Nat) (c:Conf) (k:Cnt) (b:Nat),b<2->c=allC g ((b:Int)-1)->∀i p,((ybu (ycn nm np na nb nw) g).run resS ws c k)[i]?=some p->p.1=allC g ((((b+1+i)%2:Nat):Int)-1)
 |[],c,k,b,hb,hc,i,p,h=>by simp[Sys.run]at h
 | w :: ws,c,k,b,hb,hc,i,p,h=>by
   unfold Sys.run at h;split at h
   ·simp at h
   ·have st:(ybu (ycn nm np na nb nw) g).mv c (resS ((ybu (ycn nm np na nb nw) g).en c) w)=allC g ((((b+1)%2:Nat):Int)-1):=by
     subst hc;show yit (ycn nm np na nb nw) g _ (ybs (ycn nm np na nb nw) g _)=_;rcases(show b=0\/b=1 by omega)with rfl|rfl
     ·exact ycwp hg hR
     ·exact ybpg hg hR
    cases i with
    | zero =>
      rw[zAC]at h;cases h
      exact st
    | succ i =>
      rw[zAP]at h;have:=ybeu hg hR ws _ _ ((b+1)%2) (Nat.mod_lt _ (by decide)) st i p h
      rw[this];congr 3;omega
theorem ring_runs(hg:ybb g)(hR:ynb g){ws:List Nat}{i:Nat}{p:Conf×Cnt}(h:((ybu (ycn nm np na nb nw) g).runs resS ws (allC g (-1)))[i]?=some p):p.1=allC g (((i%2:Nat):Int)-1):=by
 cases i with
 | zero =>
   simp only[Sys.runs,zAC]at h;cases h
   rfl
 | succ i =>
   simp only[Sys.runs,zAP]at h;have:=ybeu hg hR ws _ _ 0 (by decide) rfl i p h
   rw[this];congr 3;omega
end
end
section
def pvN(n v:Nat):Nat:=if v=0 then n-1 else v-1
def nxN(n v:Nat):Nat:=if v+1=n then 0 else v+1
theorem ybxe{n v:Nat}(hv:v<n):pvN n v<n:=by unfold pvN;split<;>omega
theorem ycue{n v:Nat}(hv:v<n):nxN n v<n:=by unfold nxN;split<;>omega
theorem ydft{n v:Nat}(hv:v<n):pvN n (nxN n v)=v:=by unfold pvN nxN;split<;>split<;>omega
theorem ydgw{n v:Nat}(hv:v<n):nxN n (pvN n v)=v:=by unfold pvN nxN;split<;>split<;>omega
theorem ydce{n v:Nat}(hv:v<n):(v+n-1)%n=pvN n v:=by
 unfold pvN;split
 ·rw[zAG (by omega)];omega
 ·rw[show v+n-1=(v-1)+n by omega,Nat.add_mod_right,zAG (by omega)]
theorem yddw{n v:Nat}(hv:v<n):(v+1)%n=nxN n v:=by
 unfold nxN;split
 ·rename_i h;rw[h,Nat.mod_self]
 ·exact zAG (by omega)
def yio(n:Nat)(w:Nat->Int)(v:Nat):List (Int×Int):=[((pvN n v:Nat),w (pvN n v)),((nxN n v:Nat),w v)]
def yos(ids:List Int)(w:Nat->Int):Gr:=⟨ids,(zBH ids.length).map (yio ids.length w)⟩
theorem yqt(ids:List Int)(w:Nat->Int):(yos ids w).ports.length=ids.length:=by simp[yos]
theorem yjh{ids:List Int}{w:Nat->Int}{v:Nat}(hv:v<ids.length):(yos ids w).ports.getD v []=yio ids.length w v:=by
 unfold yos;simp only;rw[Sh.getD_at (by simpa using hv),zAZ,List.getElem_range]
theorem ybhn{ids:List Int}{w:Nat->Int}(h1:3<=ids.length)(h2:ids.length<=24)(h3:∀x∈ids,0<=x/\x<=255)(h4:ids.Nodup)(hw:∀v,1<=w v/\w v<=15):ybb (yos ids w):=by
 have hl:=yqt ids w
 have hat:∀v:Fin (yos ids w).ports.length,(yos ids w).ports[v]=yio ids.length w v.1:=fun v=>by
  have hv:v.1<ids.length:=by rw[<-hl];exact v.isLt
  rw[<-yjh hv,Sh.getD_at v.isLt];rfl
 refine⟨by omega,by omega,hl.symm,h3,h4,fun v=>?_,fun v l hlm=>?_⟩
 ·have hv:v.1<ids.length:=by rw[<-hl];exact v.isLt
  have e1:=ybxe hv;have e2:=ycue hv;have w1:=hw (pvN ids.length v.1);have w2:=hw v.1;have n1:pvN ids.length v.1≠v.1:=by unfold pvN;split<;>omega
  have n2:nxN ids.length v.1≠v.1:=by unfold nxN;split<;>omega
  have n3:pvN ids.length v.1≠nxN ids.length v.1:=by unfold pvN nxN;split<;>split<;>omega
  rw[hat v]
  generalize v.1=u at *
  unfold ycs yio yjs;refine⟨fun l hlm=>?_,?_⟩
  ·rcases List.mem_cons.1 hlm with rfl|hlm
   ·simp only;omega
   ·rcases List.mem_cons.1 hlm with rfl|hlm
    ·simp only;omega
    ·cases hlm
  ·simp;omega
 ·have hv:v.1<ids.length:=by rw[<-hl];exact v.isLt
  rw[hat v]at hlm;unfold yio at hlm;rcases List.mem_cons.1 hlm with rfl|hlm
  ·show _∈(yos ids w).ports.getD (((pvN ids.length v.1:Nat):Int).toNat) [];rw[zAD,yjh (ybxe hv)];unfold yio;rw[ydgw hv];exact zAI _ zV
  ·rcases List.mem_cons.1 hlm with rfl|hlm
   ·show _∈(yos ids w).ports.getD (((nxN ids.length v.1:Nat):Int).toNat) [];rw[zAD,yjh (ycue hv)];unfold yio;rw[ydft hv];exact zV
   ·cases hlm
theorem ybjl{ids:List Int}{w:Nat->Int}(h1:3<=ids.length):ynb (yos ids w):=fun v hv=>by
 have hv:v<ids.length:=hv;refine⟨_,_,yjh hv,?_⟩;show((((yos ids w).ports.getD (((pvN ids.length v:Nat):Int).toNat) []).getD 0 (0,0)).1.toNat)≠v;rw[zAD,yjh (ybxe hv)];show((pvN ids.length (pvN ids.length v):Nat):Int).toNat≠v;rw[zAD];unfold pvN;split<;>split<;>omega
end
section
namespace Sh
open Ev Go.RowKit
set_option maxHeartbeats 4000000 in
theorem ybys{x:NetR}(hx:x.ok){most:Nat}(hm:3<=most/\most<=20) :
 Ct zN 67 [.ag (netC x),.i .i64 ((most+2:Nat):Int)] fun r=>∃g,ybb g/\ynb g/\g.ports.length<=most/\Sim r (grV g):=by
 refine ycuk [75] _ _ ?_;have hN:=ybtw hx (most:=most) (by omega)
 obtain⟨hx1,hx2,hx3,hx4⟩:=hx;have em:((most+2:Nat):Int)-2=(most:Int):=by omega
 simp only[netC]at hN;simp only[c67,ydap,yddq,netC,em,clash,go_sem,zC,zA,zD,zB,zI,zF,zG,zH,↓reduceIte,reduceCtorEq];refine⟨ikw (by omega) (by omega),?_⟩
 refine yhm hN [(17,117),(148,148)] 0 [2,4] [2,4] ?_ ?_
 ·simp only[netC,to1,okN,ydt,yhw,yfp,yex,allQ,live,zO,zK,zL,yc,yu,ybi,zM,go_sem,zC,zA,zD,zB,zI,zF,zG,zH,↓reduceIte,reduceCtorEq]
 rintro r o' ⟨ids,h1,h2,h3,rfl,rfl⟩;obtain⟨n0,hn0⟩:∃n,ids.length=n:=⟨_,rfl⟩;rw[hn0]at h1;simp only[hn0,clash,splice,ywi,yqi,nuF,nu,difN,yfp,yex,Fam.ren,OB.ren,dim,yfo,yzv,yxh,ynl,ynj,yiq,yny,ynm,yoc,yob,ynp,yoj,go_sem,zC,zA,zD,zB,zI,zF,zG,zH,↓reduceIte,reduceCtorEq]
 refine ybl (σ:=List Int) (fun l=>⟨[(5,.pt (5,0) 0 0),(2,.pt (2,0) 0 0),(4,.pt (4,0) 0 0)],
  [(5,.one (some ⟨27,true,2,1,fun _=>[.os (148,0) 0 l.length true,.os (117,0) 0 l.length true]⟩)),(2,.one (some ⟨24,true,6,1,fun _=>netC x⟩)),(4,.one (some ⟨27,true,2,1,fun _=>[.a (.slice none 0 0),.a (.slice none 0 0)]⟩)),
   (117,.one (some ⟨71,false,1,l.length,fun _=>[.a (.slice none 0 0)]⟩)),(148,.one (some ⟨3,false,1,l.length,fun k=>[.i .i64 (l.getD k 0)]⟩))]⟩)
  (fun l=>(1<=l.length/\l.length<=most)/\(∀y∈l,0<=y/\y<=255)/\l.Nodup) (fun l=>3-l.length) ids ⟨by omega,h2,h3⟩ ?_ ?_
 ·refine yh [] [] [] ?_;simp only[netC,hn0,allQ,live,zO,zK,zL,yc,yu,ybi,zM,go_sem,zC,zA,zD,zB,zI,zF,zG,zH,↓reduceIte,reduceCtorEq]
 rintro l ⟨hl,hl2,hl3⟩;obtain⟨v,hv⟩:∃v,l.length=v:=⟨_,rfl⟩;rw[hv]at hl
 by_cases hlt:v<3
 ·have t1 : decide ((v:Int)<3)=true:=decide_eq_true (by omega)
  simp only[ycvk,yddz,ycxw,hv,t1,clash,splice,go_sem,zC,zA,zD,zB,zI,zF,zG,zH,↓reduceIte,reduceCtorEq]
  refine ybl (σ:=Nat×Nat) (fun q=>⟨[(7,.i .i64 q.2),(6,.i .i64 (q.1:Nat)),(5,.pt (5,0) 0 0),(2,.pt (2,0) 0 0),(4,.pt (4,0) 0 0)],
   [(5,.one (some ⟨27,true,2,1,fun _=>[.os (148,0) 0 v true,.os (117,0) 0 v true]⟩)),(2,.one (some ⟨24,true,6,1,fun _=>netC x⟩)),(4,.one (some ⟨27,true,2,1,fun _=>[.a (.slice none 0 0),.a (.slice none 0 0)]⟩)),
    (117,.one (some ⟨71,false,1,v,fun _=>[.a (.slice none 0 0)]⟩)),(148,.one (some ⟨3,false,1,v,fun k=>[.i .i64 (l.getD k 0)]⟩))]⟩)
   (fun q=>q.2<=v/\(∀i,i<q.1->((i%256:Nat):Int)∈l)/\q.1<=v/\∀j,j<q.2->l.getD j 0≠(q.1:Int)) (fun q=>(v-q.1)*(v+2)+(v-q.2)) (0,0) ⟨zAE _,fun i hi=>absurd hi (zAB i),zAE _,fun j hj=>absurd hj (zAB j)⟩ ?_ ?_
  ·refine yh [] [] [] ?_;simp only[netC,hv,allQ,live,zO,zK,zL,yc,yu,ybi,zM,go_sem,zC,zA,zD,zB,zI,zF,zG,zH,↓reduceIte,reduceCtorEq]
  ·rintro⟨a,u⟩ ⟨hu,hr,ha,hno⟩;have hu:u<=v:=hu;have hr:∀i,i<a->((i%256:Nat):Int)∈l:=hr;have ha:a<=v:=ha;have hno:∀j,j<u->l.getD j 0≠(a:Int):=hno
   by_cases hlt2:u<v
   ·have t2:decide ((u:Int)<(v:Int))=true:=decide_eq_true (by omega)
    by_cases he:l.getD u 0=(a:Int)
    ·have t3:(l.getD u 0==(a:Int))=true:=beq_iff_eq.2 he;have t4:(((a:Nat):Int)==((a:Nat):Int))=true:=by simp
     have hmem:(a:Int)∈l:=by
      rw[<-he,getD_at (show u<l.length by omega)]
      exact zAW _
     have hr':∀i,i<a+1->((i%256:Nat):Int)∈l:=fun i hi=>by
      by_cases q:i=a
      ·rw[q,zAG (by omega)];exact hmem
      ·exact hr i (by omega)
     have ha':a+1<=v:=by rw[<-hv];exact ywp (a:=0) (by omega) fun i hi=>by rw[Nat.zero_add];exact hr' i hi
     simp only[ybxl,ycrd,yddp,ycsa,netC,hv,t2,t3,t4,he,splice,clash,go_sem,zC,zA,zD,zB,zI,zF,zG,zH,↓reduceIte,reduceCtorEq];refine⟨⟨by omega,by omega⟩,by omega,ikw (by omega) (by omega),ikw (by omega) (by omega),yj (a+1,0) ⟨zAE _,hr',ha',fun j hj=>absurd hj (zAB j)⟩ ?_ ?_⟩
     ·show(v-(a+1))*(v+2)+(v-0)<(v-a)*(v+2)+(v-u);obtain⟨m,hm⟩:∃m,v-a=m+1:=⟨v-a-1,by omega⟩
      rw[show v-(a+1)=m by omega,hm,Nat.succ_mul]
      generalize m*(v+2)=z
      omega
     ·refine yh [] [] [] ?_;simp only[netC,hv,allQ,live,zO,zK,zL,yc,yu,ybi,zM,go_sem,zC,zA,zD,zB,zI,zF,zG,zH,↓reduceIte,reduceCtorEq];omega
    ·have t3:(l.getD u 0==(a:Int))=false:=beq_eq_false_iff_ne.2 he;simp only[ybxl,ycrd,ycsa,netC,hv,t2,t3,splice,clash,go_sem,zC,zA,zD,zB,zI,zF,zG,zH,↓reduceIte,reduceCtorEq];refine⟨⟨by omega,by omega⟩,by omega,ikw (by omega) (by omega),yj (a,u+1) ⟨by show u+1<=v;omega,hr,ha,fun j hj=>?_⟩ ?_ ?_⟩
     ·show l.getD j 0≠(a:Int)
      by_cases q:j=u
      ·rw[q];exact he
      ·exact hno j (by have:j<u+1:=hj;omega)
     ·show(v-a)*(v+2)+(v-(u+1))<(v-a)*(v+2)+(v-u)
      generalize (v-a)*(v+2)=z
      omega
     ·refine yh [] [] [] ?_;simp only[netC,hv,allQ,live,zO,zK,zL,yc,yu,ybi,zM,go_sem,zC,zA,zD,zB,zI,zF,zG,zH,↓reduceIte,reduceCtorEq];omega
   ·obtain rfl:u=v:=by omega
    have t2:decide ((u:Int)<(u:Int))=false:=decide_eq_false (by omega)
    simp only[ybxl,ycxz,netC,hv,t2,splice,clash,go_sem,zC,zA,zD,zB,zI,zF,zG,zH,↓reduceIte,reduceCtorEq]
    have hno':(a:Int)∉l:=fun hm=>by
     obtain⟨j,hj,e⟩:=List.getElem_of_mem hm;exact hno j (by omega) (by rw[getD_at hj,e])
    refine⟨⟨by omega,by omega⟩,by decide,⟨by omega,by omega⟩,by decide,by decide,by decide,yj (l++[(a:Int)]) ⟨by rw[zAL,zAH];omega,fun y hy=>?_,?_⟩ (by rw[zAL,zAH];omega) ?_⟩
    ·rcases List.mem_append.1 hy with hy|hy
     ·exact hl2 y hy
     ·rw[List.mem_singleton.1 hy];omega
    ·rw[List.nodup_append];exact⟨hl3,by simp,fun y hy z hz=>by rw[List.mem_singleton.1 hz];exact fun e=>hno' (e▸hy)⟩
    refine yh [(148,fun i=>(40,i)),(117,fun i=>(44,i))] [] [] ?_;simp only[netC,zAL,zAH,hv,allQ,live,zO,zK,zL,yc,yu,ybi,zM,go_sem,zC,zA,zD,zB,zI,zF,zG,zH,↓reduceIte,reduceCtorEq];refine⟨fun i hi=>?_,fun i hi=>?_⟩
    all_goals
     try rw[yqv,hv]
     by_cases q:i<u
     ·simp only[if_pos q];simp only[allQ,live,zO,zK,zL,yc,yu,ybi,zM,go_sem,zC,zA,zD,zB,zI,zF,zG,zH,↓reduceIte,reduceCtorEq]
     ·obtain rfl:i=u:=by omega
      simp only[if_neg q,Nat.sub_self,Nat.zero_mul];simp only[allQ,live,zO,zK,zL,yc,yu,ybi,zM,go_sem,zC,zA,zD,zB,zI,zF,zG,zH,↓reduceIte,reduceCtorEq]
 ·have t1 : decide ((v:Int)<3)=false:=decide_eq_false (by omega)
  have hwt:∀k,1<=1+ybw (atP x.weights k) 15/\1+ybw (atP x.weights k) 15<=15:=fun k=>by
   have:=yee (v:=atP x.weights k) (m:=15) (by omega)
   omega
  obtain⟨W,hW⟩:∃W:Nat->Int,(fun k=>1+ybw (atP x.weights k) 15)=W:=⟨_,rfl⟩;have hWk:∀k,1+ybw (atP x.weights k) 15=W k:=fun k=>by rw[<-hW]
  simp only[ycvk,ycet,ychh,hv,t1,clash,splice,go_sem,zC,zA,zD,zB,zI,zF,zG,zH,↓reduceIte,reduceCtorEq]
  refine ybl (σ:=Nat) (fun k=>⟨[(9,.i .i64 k),(8,.i .i64 v),(5,.pt (5,0) 0 0),(2,.pt (2,0) 0 0),(4,.pt (4,0) 0 0)],
   [(5,.one (some ⟨27,true,2,1,fun _=>[.os (148,0) 0 v true,.os (117,0) 0 v true]⟩)),(2,.one (some ⟨24,true,6,1,fun _=>netC x⟩)),(4,.one (some ⟨27,true,2,1,fun _=>[.a (.slice none 0 0),.a (.slice none 0 0)]⟩)),
    (117,.one (some ⟨71,false,1,v,fun j=>if j<k then[ybc (yio v W j)]else[.a (.slice none 0 0)]⟩)),(148,.one (some ⟨3,false,1,v,fun k=>[.i .i64 (l.getD k 0)]⟩))]⟩)
   (fun k=>k<=v) (fun k=>v-k) 0 (zAE _) ?_ ?_
  ·refine yh [] [] [] ?_;simp only[netC,hv,zAB,allQ,live,zO,zK,zL,yc,yu,ybi,zM,go_sem,zC,zA,zD,zB,zI,zF,zG,zH,↓reduceIte,reduceCtorEq]
  intro k hk
  by_cases hlk:k<v
  ·have t2:decide ((k:Int)<(v:Int))=true:=decide_eq_true (by omega)
   have e1:((k:Int)+(v:Int)-1).tmod (v:Int)=((pvN v k:Nat):Int):=by
    rw[<-ydce hlk,zZ (by omega),show(k:Int)+(v:Int)-1=((k+v-1:Nat):Int)by omega]
    rfl
   have e2:((k:Int)+1).tmod (v:Int)=((nxN v k:Nat):Int):=by
    rw[<-yddw hlk,zZ (by omega)]
    rfl
   have hp:=ybxe hlk;have hq:=ycue hlk;have hA1:=at_ret x.weights (pvN v k);have hA2:=at_ret x.weights k;have hW1:=ydl (atP x.weights (pvN v k)) 15 (by omega) (hx3 _)
   have hW2:=ydl (atP x.weights k) 15 (by omega) (hx3 _)
   have w1:=hwt (pvN v k);have w2:=hwt k;simp(maxSteps:=5000000) only [ybnc,yccn,yclj,ycon,netC,t2,e1,splice,clash,go_sem,zC,zA,zD,zB,zI,zF,zG,zH,↓reduceIte,reduceCtorEq];refine⟨ikw (by omega) (by omega),ikw (by omega) (by omega),by omega,hA1.use ?_⟩
   simp(maxSteps:=5000000) only [ybf,netC,clash,go_sem,zC,zA,zD,zB,zI,zF,zG,zH,↓reduceIte,reduceCtorEq];refine hW1.use ?_;simp(maxSteps:=5000000) only [ybf,netC,clash,go_sem,zC,zA,zD,zB,zI,zF,zG,zH,↓reduceIte,reduceCtorEq];refine⟨ikw (by omega) (by omega),hA2.use ?_⟩
   simp(maxSteps:=5000000) only [ybf,netC,clash,go_sem,zC,zA,zD,zB,zI,zF,zG,zH,↓reduceIte,reduceCtorEq];refine hW2.use ?_;simp(maxSteps:=5000000) only [ybf,netC,e1,e2,splice,clash,go_sem,zC,zA,zD,zB,zI,zF,zG,zH,↓reduceIte,reduceCtorEq];refine⟨ikw (by omega) (by omega),ikw (by omega) (by omega),ikw (by omega) (by omega),by omega,ikw (by omega) (by omega),by omega,⟨by omega,by omega⟩,by omega,?_⟩
   simp(maxSteps:=5000000) only [ycnq,splice,clash,go_sem,zC,zA,zD,zB,zI,zF,zG,zH,↓reduceIte,reduceCtorEq];refine⟨ikw (by omega) (by omega),yj (k+1) (by omega) (by omega) ?_⟩
   refine yh [] [] [(89,0)] ?_;simp only[hWk];simp only[netC,ybc,allQ,live,zO,zK,zL,yc,yu,ybi,zM,go_sem,zC,zA,zD,zB,zI,zF,zG,zH,↓reduceIte,reduceCtorEq];refine⟨fun q hq=>?_,by omega,fun i hi=>?_⟩
   ·rcases(show q=0\/q=1 by omega)with rfl|rfl<;>rfl
   ·by_cases q1:i=k
    ·subst q1;simp only[if_true,if_pos (zAX i)];simp only[allQ,live,zO,zK,zL,yc,yu,ybi,zM,go_sem,zC,zA,zD,zB,zI,zF,zG,zH,↓reduceIte,reduceCtorEq];show Sim (.sl 2 2 _) (.sl 2 2 _);refine yid fun q hq=>?_;rcases(show q=0\/q=1 by omega)with rfl|rfl<;>rfl
    ·by_cases q2:i<k
     ·simp only[if_neg q1,if_pos q2,if_pos (show i<k+1 by omega)]
      simp only[allQ,live,zO,zK,zL,yc,yu,ybi,zM,go_sem,zC,zA,zD,zB,zI,zF,zG,zH,↓reduceIte,reduceCtorEq]
     ·simp only[if_neg q1,if_neg q2,if_neg (show ¬i<k+1 by omega)]
      simp only[allQ,live,zO,zK,zL,yc,yu,ybi,zM,go_sem,zC,zA,zD,zB,zI,zF,zG,zH,↓reduceIte,reduceCtorEq]
  ·obtain rfl:k=v:=by omega
   have t2:decide ((k:Int)<(k:Int))=false:=decide_eq_false (by omega)
   simp only[ybnc,yckr,netC,hv,t2,splice,clash,go_sem,zC,zA,zD,zB,zI,zF,zG,zH,↓reduceIte,reduceCtorEq];refine⟨fun q hq=>?_,yos l W,ybhn (by omega) (by omega) hl2 hl3 (fun j=>by rw[<-hWk];exact hwt j),ybjl (by omega),by rw[yqt];omega,?_⟩
   ·simp only[if_pos hq];simp only[ybc,allQ,live,zO,zK,zL,yc,yu,ybi,zM,go_sem,zC,zA,zD,zB,zI,zF,zG,zH,↓reduceIte,reduceCtorEq]
   ·refine ysx ⟨?_,?_,trivial⟩
    ·show Sim _ (yw l);unfold yw;rw[hv];exact Sim.refl _
    ·unfold ybe;rw[yqt,hv];refine yid fun q hq=>?_;simp only[if_pos hq];rw[yjh (by omega),hv]
     simp only[ybc,zAM,List.map_nil,ybre]
end Sh
end
section
theorem ycae{g:Gr}(hpl:g.ids.length=g.ports.length):(zBH g.ports.length).map (Sh.yue Sh.MqP g [])=allC g (-1):=by
 have e:∀v,Sh.yue Sh.MqP g [] v=[-1]:=fun v=>by
  unfold Sh.yue Sh.cfgV
  have z:∀m:Int,ybw (atP [] (v*Sh.MqP.vars.length+0)) m=(0:Int):=fun m=>by
   unfold ybw atP;simp
  have hv:Sh.MqP.vars=[⟨⟨#[112]⟩,3,0,0,0,0⟩]:=by kernel_rfl
  rw[hv]at z ⊢;show[(ybh g v ⟨⟨#[112]⟩,3,0,0,0,0⟩).1+ybw (atP [] (v*[(⟨⟨#[112]⟩,3,0,0,0,0⟩:VarR)].length+0)) _]=_;rw[z,bT3];rfl
 unfold allC;refine zAY (by simp[hpl]) fun i h1 h2=>?_
 rw[zAZ,e,zAR]
theorem yxp{nm np na nb nw:ByteArray}{g:Gr}(hg:ybb g)(hR:ynb g){x:Int}(h1:-1<=x)(h2:x<=0):yhb (ycn nm np na nb nw) g (allC g x)=true:=by
 refine(ydu _ _ _).2 ⟨by simp[allC],fun v s hs=>?_⟩
 have hv:v<g.ids.length:=by
  have:=(List.getElem?_eq_some_iff.1 hs).1
  simpa[allC]using this
 have e:s=[x]:=by
  have:=yuk (g:=g) (x:=x) hv;rw[List.getD_eq_getElem?_getD,hs]at this;exact this
 subst e;obtain⟨l,ls,el,_⟩:=hR v hv;refine⟨rfl,fun i b y hb hy=>?_⟩;cases i with
 | zero =>
   simp only[ycn,zAM,zAC]at hb hy;cases hb
   cases hy
   rw[bT3,el];simp only[zAF];omega
 |succ i=>simp[ycn]at hb
namespace Sh
open Ev Go.RowKit
set_option maxHeartbeats 4000000 in
theorem ypz{n st:Int}(hn:inK .i64 n)(hst:inK .i64 st):Returns zN 17 [.i .i64 n,.i .i64 st] (.b true):=by
 refine Returns.of (ycyq _ _ ?_);have z0:∀k,inK .i64 (([]:List Int).getD k 0):=fun k=>by simp;exact ikw (by omega) (by omega)
 have hWn:=ydl n 6 (by omega) hn
 obtain⟨a1,a2⟩:=yee (v:=n) (m:=6) (by omega)
 obtain⟨a,ha⟩:∃a,ybw n 6=a:=⟨_,rfl⟩;rw[ha]at hWn a1 a2;have hx:NetR.ok ⟨4+a,[],[],[],false,false⟩:=⟨show inK .i64 (4+a)from ikw (by omega) (by omega),z0,z0,z0⟩
 have hC:=ybys hx (most:=7) (by omega)
 simp only[netC]at hC;have hC:=Ct.simL hC (show SimL [.ag [.i .i64 (4+a),.a (.slice none 0 0),.a (.slice none 0 0),.a (.slice none 0 0),.b false,.b false],.i .i64 ((7+2:Nat):Int)] _ from⟨ysx ⟨Sim.refl _,yrf,yrf,yrf,Sim.refl _,Sim.refl _,trivial⟩,Sim.refl _,trivial⟩)
 have hW:=ydl st 40 (by omega) hst
 obtain⟨w1,w2⟩:=yee (v:=st) (m:=40) (by omega)
 obtain⟨k,hk⟩:∃k:Nat,ybw st 40=k:=Int.eq_ofNat_of_zero_le w1;rw[hk]at hW w1 w2;simp only[c17,yczl,ycyt,splice,clash,go_sem,zC,zA,zD,zB,zI,zF,zG,zH,↓reduceIte,reduceCtorEq];refine hWn.use ?_;simp only[ybf,splice,clash,go_sem,zC,zA,zD,zB,zI,zF,zG,zH,↓reduceIte,reduceCtorEq];refine⟨ikw (by omega) (by omega),hC.found (V:=grV) (fun r g h=>h.2.2.2) fun r g h=>?_⟩
 obtain⟨hg,hRg,hn7,-⟩:=h;have hI:=ycre hg;have hCh:Checked (Lies MqB Mqv) (Lies MqC Mqr) MqP g:=⟨hg,ycth,ycve hg,ycag⟩;have hTx:=yboo;have hVs:=ybhk;have hK:=ybcw;have hpl:=hg.2.2.1;have hCf:=Ct.simL (ybdc hg ycth hCh.hf (raw:=[]) z0) (show SimL [grV g,ycd MqP.vars,.a (.slice none 0 0)] _ from⟨Sim.refl _,Sim.refl _,yrf,trivial⟩)
 simp only[grV]at hCf;simp only[ybf,ycya,grV,clash,go_sem,zC,zA,zD,zB,zI,zF,zG,zH,↓reduceIte,reduceCtorEq];refine hVs.use ?_;simp only[ybf,clash,go_sem,zC,zA,zD,zB,zI,zF,zG,zH,↓reduceIte,reduceCtorEq];refine hCf.found (V:=ybj) (fun r c h=>h.2) fun r c h=>?_;obtain⟨⟨hcv,hce⟩,-⟩:=h;have hca:c=allC g (-1):=hce.trans (ycae hpl);subst hca;have hWs:=Ct.simL (ybhm [] (fun k=>by simp) k (by omega)) (show SimL [.a (.slice none 0 0),.i .i64 k] _ from⟨yrf,Sim.refl _,trivial⟩)
 simp only[ybf,yddi,clash,go_sem,zC,zA,zD,zB,zI,zF,zG,zH,↓reduceIte,reduceCtorEq]
 first|refine hTx.use ?_|refine⟨by decide,hTx.use ?_⟩
 simp only[ybf,clash,go_sem,zC,zA,zD,zB,zI,zF,zG,zH,↓reduceIte,reduceCtorEq]
 first|refine hW.use ?_|refine⟨by decide,hW.use ?_⟩
 simp only[ybf,clash,go_sem,zC,zA,zD,zB,zI,zF,zG,zH,↓reduceIte,reduceCtorEq]
 first|refine hWs.found (V:=usV) (fun r ws h=>h.2.2) fun r ws h=>?_|refine⟨by decide,hWs.found (V:=usV) (fun r ws h=>h.2.2) fun r ws h=>?_⟩
 obtain⟨hwl,hw,-⟩:=h;have hRun:=ycuo ybio hCh (kind:=4) (by omega) (ycvd _) hcv hw (by omega)
 obtain⟨m,Cs,Ks,hD⟩:=runD (ybu MqP g) resS ws (allC g (-1));have hlen:=hD.le;have hpos:=hD.pos;have hat:∀i,i<m->Cs.getD i []=allC g (((i%2:Nat):Int)-1):=fun i hi=>ring_runs hg hRg (hD.at_ hi).2;have hLg:=fun(x:Int) (h1:-1<=x) (h2:x<=0)=>ybjm hI (ycax (yky hg ycth (show yhb MqP g (allC g x)=true from yxp hg hRg h1 h2)))
 have hwr:∀x:Int,x = -1\/x=0->yfi g (allC g x)=false:=fun x hx=>by
  have hcf:ygb g (allC g x)=true:=ycyc (nm:=by8 []) (np:=by8 []) (na:=by8 []) (nb:=by8 []) (nw:=by8 []) hg (yxp hg hRg (by omega) (by omega))
  cases hb:yfi g (allC g x)with
  |false=>rfl
  | true =>
    have:=(yvp hcf).1 hb;rcases hx with rfl|rfl
    ·exact absurd this (ytp hg hRg).1
    ·exact absurd this (ytp hg hRg).2
 have hal:∀x:Int,(allC g x).length=g.ids.length:=fun x=>by simp[allC]
 have hrow:=fun(x:Int) v (hv:v<g.ids.length)=>yuk (g:=g) (x:=x) hv;rw[hD.cs,hD.ks]at hRun;simp only[grV,yef,ygu,hD.lC,hD.lK]at hRun;simp only[ybf,clash,go_sem,zC,zA,zD,zB,zI,zF,zG,zH,↓reduceIte,reduceCtorEq]
 first|refine hRun.use ?_|refine⟨by decide,hRun.use ?_⟩
 simp only[ybf,ydbj,clash,go_sem,zC,zA,zD,zB,zI,zF,zG,zH,↓reduceIte,reduceCtorEq];obtain⟨nn,hnn⟩:∃q,g.ids.length=q:=⟨_,rfl⟩;refine⟨by decide,?_⟩
 refine ybl (σ:=Nat) (fun i=>⟨[(10,.i .i64 i),(9,.b true),(7,.sl 1 m fun i=>[ybj (Cs.getD i [])]),(6,ybj (allC g (-1))),(5,.pt (5,0) 0 0)],[(5,.one (some ⟨27,true,2,1,fun _=>[yw g.ids,ybe g.ports]⟩))]⟩) (fun i=>i<=m) (fun i=>m-i) 0 (zAE _) ?_ ?_
 ·refine yh [] [] [] ?_;simp only[go_sem,allQ,live,zO,zK,zL,yc,yu,ybi,zM,go_sem,zC,zA,zD,zB,zI,zF,zG,zH,↓reduceIte,reduceCtorEq]
 intro i hi
 by_cases hlt:i<m
 ·have t1:decide ((i:Int)<(m:Int))=true:=decide_eq_true (by omega)
  have hCi:=hat i hlt;obtain⟨E,hE⟩:∃E,((i%2:Nat):Int)-1=E:=⟨_,rfl⟩
  have em:(i:Int).tmod 2-1=E:=by
   rw[<-hE,zZ (by omega)]
   rfl
  have hE2:E = -1\/E=0:=by omega
  rw[hE]at hCi;have hLgE:=hLg E (by omega) (by omega)
  rw[hwr E hE2]at hLgE;have f1:((nn:Int)!=(nn:Int))=false:=by simp
  have f2:(E != E)=false:=by simp
  have hlE:=hal E;have hl1:=hal (-1);have hrE:=hrow E;rw[hnn]at hlE hl1 hrE;simp only[grV]at hLgE;simp only[ycsn,yddo,yczi,ybj,hCi,hlE,hl1,t1,f1,clash,go_sem,zC,zA,zD,zB,zI,zF,zG,zH,↓reduceIte,reduceCtorEq];simp only[ybj,hlE]at hLgE
  repeat (first|refine⟨(⟨by omega,by omega⟩:_/\_),?_⟩|refine⟨(by omega:(_:Prop)),?_⟩)
  refine hLgE.use ?_;simp only[ybf,clash,go_sem,zC,zA,zD,zB,zI,zF,zG,zH,↓reduceIte,reduceCtorEq];refine ybl (σ:=Nat) (fun v=>⟨[(11,.i .i64 v),(10,.i .i64 i),(9,.b true),(7,.sl 1 m fun i=>[ybj (Cs.getD i [])]),(6,ybj (allC g (-1))),(5,.pt (5,0) 0 0)],[(5,.one (some ⟨27,true,2,1,fun _=>[yw g.ids,ybe g.ports]⟩))]⟩) (fun v=>v<=nn) (fun v=>nn-v) 0 (zAE _) ?_ ?_
  ·refine yh [] [] [] ?_;simp only[ybj,hl1,allQ,live,zO,zK,zL,yc,yu,ybi,zM,go_sem,zC,zA,zD,zB,zI,zF,zG,zH,↓reduceIte,reduceCtorEq]
  intro v hv
  by_cases hlv:v<nn
  ·have t2:decide ((v:Int)<(nn:Int))=true:=decide_eq_true (by omega)
   have hr:=hrE v hlv;have n1:(((1:Nat):Int)!=1)=false:=rfl;simp only[yboa,ycjq,ychl,ybj,yw,hCi,hlE,hl1,hr,zAF,List.length_nil,List.getD_cons_zero,Int.reduceBNe,n1,em,f2,t2,clash,go_sem,zC,zA,zD,zB,zI,zF,zG,zH,↓reduceIte,reduceCtorEq]
   repeat (first|refine⟨(⟨by omega,by omega⟩:_/\_),?_⟩|refine⟨(by omega:(_:Prop)),?_⟩|refine⟨ikw (by omega) (by omega),?_⟩|refine⟨(by decide:(_:Prop)),?_⟩)
   refine yj (v+1) (by omega) (by omega) ?_
   refine yh [] [] [] ?_;simp only[ybj,hl1,allQ,live,zO,zK,zL,yc,yu,ybi,zM,go_sem,zC,zA,zD,zB,zI,zF,zG,zH,↓reduceIte,reduceCtorEq];omega
  ·obtain rfl:v=nn:=by omega
   have t2:decide ((v:Int)<(v:Int))=false:=decide_eq_false (by omega)
   simp only[yboa,ycxl,ybj,hl1,t2,clash,go_sem,zC,zA,zD,zB,zI,zF,zG,zH,↓reduceIte,reduceCtorEq];refine⟨ikw (by omega) (by omega),?_⟩
   refine yj (i+1) (by omega) (by omega) ?_
   refine yh [] [] [] ?_;simp only[ybj,hl1,allQ,live,zO,zK,zL,yc,yu,ybi,zM,go_sem,zC,zA,zD,zB,zI,zF,zG,zH,↓reduceIte,reduceCtorEq];omega
 ·obtain rfl:i=m:=by omega
  have t1:decide ((i:Int)<(i:Int))=false:=decide_eq_false (by omega)
  simp only[ycsn,ycgd,t1,clash,go_sem,zC,zA,zD,zB,zI,zF,zG,zH,↓reduceIte,reduceCtorEq];refine hK.use ?_;simp only[ybf,clash,go_sem,zC,zA,zD,zB,zI,zF,zG,zH,↓reduceIte,reduceCtorEq];exact Sim.refl _
end Sh
end
section
open Go.ChangeShapes Go.WideShapes Go.ChangeAt Go.RowKit Go.Joins Go.WideMaps Go.WideElems
set_option linter.unusedVariables false
set_option maxRecDepth 100000 in
theorem yin(W:World)(h:laidMetH zN Rows.matchingTogetherRow.laid W):Ev.GlW W:=fun x hx=>by
 rw[MakeChecks.laidMetH_plain _ _ _ (by kernel_rfl)]at h
 have hg : Tryz.prog.globalNamed "math/bits.deBruijn32tab" = some 0 := by kernel_rfl
 have ht:=Lib.tabIs_of_head (rest:=[]) (k:=.u8) (zs:=([0,1,28,2,29,14,24,3,30,22,20,15,25,17,4,8,31,27,13,23,21,19,16,7,26,12,18,6,11,5,10,9]:List Int)) (t:=226) (e:=5) (n:=32) hg (by kernel_rfl) (by kernel_rfl) (by kernel_rfl) (by kernel_rfl) (by kernel_rfl) h
 unfold Lib.TabIs World.var? at ht;rw[hg]at ht;simp only[Option.bind_some]at ht;split at ht
 ·rename_i cs e fz hc
  obtain rfl:=Option.some.inj ht;obtain rfl:=Option.some.inj hx;exact⟨_,_,hc⟩
 ·cases ht
set_option maxRecDepth 100000 in
theorem yis(os:Os)(args:Array Value):laidMetH zN Rows.matchingTogetherRow.laid ((World.doorLaid zN 14 os).forCall (fun _ _=>0) ⟨#[],args,[]⟩).memory :=
 laidMetH_of_parts3 (fuel:=8) (laidMet_of_run' 8 (by kernel_rfl) (by kernel_rfl)) (by kernel_rfl) (by kernel_rfl)
set_option maxRecDepth 100000 in
theorem yhh(os:Os)(started:os.Started)(H:Type)(enc:TypeId×Value->H) :
 ReturnsInHanded {} zAV os 17 .any (fun w args=>(Rows.matchingTogetherSpec.pre enc zN zBD [] false w args/\laidMetH zN Rows.matchingTogetherRow.laid w)/\sizedMet enc zN zBD (OpenSpec.ofChange Rows.matchingTogetherSpec) false w args)
  (Rows.matchingTogetherSpec.post enc zN zBD false true false false):=by
 refine returnsInHanded_of_change_and (C:=zAV) (X:=fun w _=>laidMetH zN Rows.matchingTogetherRow.laid w) (fun _ _ _ hh h=>h.of_heap hh) own started (by kernel_rfl) zBG
  (ChangeSpec.witness_shaped (enc:=enc) (C:=zAV) (os:=os) (X:=fun w _=>laidMetH zN Rows.matchingTogetherRow.laid w) false (World.doorLaid zN 14 os) #[.int .i64 0,.int .i64 0] 8 rfl (World.shaped_of_RefB (by kernel_rfl) (by kernel_rfl)) (by kernel_rfl) (by kernel_rfl) (by kernel_rfl) (yis os _)) ?_
 intro W base args ds gs before hval0 hW _ _ hL _;have hval:∀(j:Nat) t v,Tryz.f17.params[j]?=some t->args[j]?=some v->Value.okWide zN W .any base t v:=hval0;have hW':=hW;obtain⟨p,q,hA0,hV,rfl,hfz,hnd⟩:=hW;have hA:DataW.TrodAll enc zN W 0 (fun _=>true) true Tryz.f17.params.toList args.toList ds p:=hA0;rw[Tryz.params17]at hA hval;obtain⟨v0,vs0,d0,ds0,p0,q0,hargs,rfl,rfl,h0,r0⟩:=trodAll_cons hA;obtain⟨v1,vs1,d1,ds1,p1,q1,rfl,rfl,rfl,h1,r1⟩:=trodAll_cons r0
 obtain⟨rfl,rfl,rfl⟩:=trodAll_nil r1;obtain rfl:args = #[v0,v1]:=by cases args;simp_all
 obtain⟨rfl,rfl⟩:=trodVars_none hV;have k0:=h0;have k1:=h1;have lt0:∀x∈p0,x.block<W.heap.size:=by obtain⟨m,hm⟩:=k0;exact DataW.trod_lt m _ _ _ hm
 have lt1:∀x∈p1,x.block<W.heap.size:=by obtain⟨m,hm⟩:=k1;exact DataW.trod_lt m _ _ _ hm
 obtain⟨m0,hm0⟩:=h0;obtain⟨n0,rfl⟩:=okWide_int zBA (hval 0 3 v0 rfl rfl);obtain⟨x0,hx0,u0,a0,rr0⟩:=Sh.yyy (v:=.int .i64 n0) hm0;obtain⟨m1,hm1⟩:=h1;obtain⟨n1,rfl⟩:=okWide_int zBA (hval 1 3 v1 rfl rfl);obtain⟨x1,hx1,u1,a1,rr1⟩:=Sh.yyy (v:=.int .i64 n1) hm1
 clear hA0 hval0
 have ha:Sh.RVL (Sh.memW W).b.get Sh.om0 [.i .i64 x0,.i .i64 x1] [u0,u1]:=.cons rr0 (.cons rr1 .nil);have hv:Ev.VRL (Sh.phiW W) [u0,u1] [.int .i64 n0,.int .i64 n1]:=.cons (Sh.ybdm a0) (.cons (Sh.ybdm a1) .nil);refine(Sh.ybjd (Sh.ypz hx0 hx1) ⟨_,_,zBG,rfl⟩ Ev.yrn (yin W hL) ha hv).mono fun e W' ⟨he,bel⟩=>?_;subst he;exact⟨_,rfl,_,_,_,[],_,[],hW',trodAll_mk1 (shut_bool Tryz.underlying4 _),(trodAll_cons_mk (Below.trod laidOut (by kernel_rfl) (of_decide_eq_true (by kernel_rfl)) k0 bel lt0) (trodAll_cons_mk (Below.trod laidOut (by kernel_rfl) (of_decide_eq_true (by kernel_rfl)) k1 bel lt1) trodAll_mk0)),rfl,bel.frame _,fun h=>by cases h⟩
end
end Go.Proofs.YtiejahgklcjhkaaGreatDoor
