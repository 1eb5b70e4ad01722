/- Joined. -/
import Derived.Test.YthclbjjgfcgbgaaGreatDoorPkCk14
set_option linter.unusedSimpArgs false
set_option linter.unusedVariables false
set_option maxRecDepth 1000000
open Bool renaming and_eq_true->zA,not_eq_true'->zU,true_and->zAB
open Nat renaming beq_refl->zB,beq->zD,le_of_ble_eq_true->zF,eq_of_beq_eq_true->zJ,ble_eq_true_of_le->zK,blt->zM,ble->zT,lt_of_lt_of_le->zAC,reduceAdd->zAI,reduceLT->zAN,le_refl->zAR
open Go.Proofs.Tryz renaming prog->zC,ntmps173->zAH,func173->zAL,func172->zAM,func26->zAQ
open List renaming length_map->zG,map_congr_left->zI,getD_eq_getElem?_getD->zL,mem_cons_self->zN,getElem?_eq_none->zO,mem_cons_of_mem->zQ,map_map->zS,pairwise_map->zV,nodup_cons->zW,mem_of_mem_take->zZ,mem_of_mem_drop->zAA,getElem?_map->zAD,getElem_mem->zAE,nodup_nil->zAF,map_cons->zAG
open Go.Lib renaming hid->zH
open Int renaming add_mul_ediv_right->zX,ediv_eq_zero_of_lt->zY,add_comm->zAO,zero_add->zAP
open Classical renaming byContradiction->zAJ
open Eq renaming trans->zAK
open Go
namespace Go.Proofs.YthclbjjgfcgbgaaGreatDoor
section
namespace Ev
def Kym1:Fact:=ybke.move [275,321,357,364,368] 497
theorem yczp:yfp zC Kym1:=yna (ycy.at_ yblf 0 rfl) (by kernel_rfl)
/- selfstab/domain.Fits -/
def ycls:Fact:=⟨62,[.agg #[.string (by8 [99,111,108,111,117,114,105,110,103]),.slice (some ⟨275,0,none⟩) 1 CU,.slice (some ⟨368,0,none⟩) 1 CU],.agg #[.slice (some ⟨14,0,none⟩) 3 CU,.slice (some ⟨7,0,none⟩) 3 3]],495,[Kyb0,Kyb1,Kyb2,Kyb3,Kyb4,⟨275,160,6,[.string (by8 [99]),.int .i64 1,.int .i64 0,.int .i64 0,.int .i64 1,.int .i64 0]⟩,Kyb5,Kyb6,Kyb7,⟨368,193,3,[.string (by8 [102,105,120]),.slice (some ⟨321,0,none⟩) 4 CU,.slice (some ⟨364,0,none⟩) 1 CU]⟩],.int .i64 0,623,[],495⟩
/- selfstab/memory.Check -/
def ydox:Fact:=⟨138,[.agg #[.string (by8 [99,111,108,111,117,114,105,110,103]),.slice (some ⟨275,0,none⟩) 1 CU,.slice (some ⟨368,0,none⟩) 1 CU],.agg #[.slice (some ⟨14,0,none⟩) 3 CU,.slice (some ⟨7,0,none⟩) 3 3],.slice (some ⟨490,0,none⟩) 3 3],493,[Kyb0,Kyb1,Kyb2,Kyb3,Kyb4,⟨275,160,6,[.string (by8 [99]),.int .i64 1,.int .i64 0,.int .i64 0,.int .i64 1,.int .i64 0]⟩,Kyb5,Kyb6,Kyb7,⟨368,193,3,[.string (by8 [102,105,120]),.slice (some ⟨321,0,none⟩) 4 CU,.slice (some ⟨364,0,none⟩) 1 CU]⟩,⟨487,3,1,[.int .i64 1]⟩,⟨488,3,1,[.int .i64 1]⟩,⟨489,3,1,[.int .i64 1]⟩,Kyb8],.int .i64 0,650,[],493⟩
/- selfstab/step.Step -/
def ycav:Fact:=⟨84,[.agg #[.string (by8 [99,111,108,111,117,114,105,110,103]),.slice (some ⟨275,0,none⟩) 1 CU,.slice (some ⟨368,0,none⟩) 1 CU],.agg #[.slice (some ⟨14,0,none⟩) 3 CU,.slice (some ⟨7,0,none⟩) 3 3],.slice (some ⟨490,0,none⟩) 3 3,.int .u32 1],491,[Kyb0,Kyb1,Kyb2,Kyb3,Kyb4,⟨275,160,6,[.string (by8 [99]),.int .i64 1,.int .i64 0,.int .i64 0,.int .i64 1,.int .i64 0]⟩,Kyb5,Kyb6,Kyb7,⟨368,193,3,[.string (by8 [102,105,120]),.slice (some ⟨321,0,none⟩) 4 CU,.slice (some ⟨364,0,none⟩) 1 CU]⟩,⟨487,3,1,[.int .i64 1]⟩,⟨488,3,1,[.int .i64 1]⟩,⟨489,3,1,[.int .i64 1]⟩,Kyb8],.tuple #[.slice (some ⟨758,0,none⟩) 3 3,.int .i64 0],785,[Kyb9,⟨760,3,1,[.int .i64 1]⟩,⟨761,3,1,[.int .i64 1]⟩,⟨775,3,1,[.int .i64 0]⟩],491⟩
def ydvy:List Fact:=[ycls,ydox,ycav]
theorem ybks:ycy ydvy:=ycy.seq (ycy.cons (f:=Kym1) yczp ycy.nil) (by kernel_rfl)
end Ev
end
section
namespace Ev
def Kym2:Fact:=ycls.move [7,14,31,43,45,275,321,357,364,368] 789
theorem ydbu:yfp zC Kym2:=yna (ycy.at_ ybks 0 rfl) (by kernel_rfl)
/- selfstab/memory.Check -/
def ydjk:Fact:=⟨138,[.agg #[.string (by8 [99,111,108,111,117,114,105,110,103]),.slice (some ⟨275,0,none⟩) 1 CU,.slice (some ⟨368,0,none⟩) 1 CU],.agg #[.slice (some ⟨14,0,none⟩) 3 CU,.slice (some ⟨7,0,none⟩) 3 3],.slice (some ⟨758,0,none⟩) 3 3],787,[Kyb0,Kyb1,Kyb2,Kyb3,Kyb4,⟨275,160,6,[.string (by8 [99]),.int .i64 1,.int .i64 0,.int .i64 0,.int .i64 1,.int .i64 0]⟩,Kyb5,Kyb6,Kyb7,⟨368,193,3,[.string (by8 [102,105,120]),.slice (some ⟨321,0,none⟩) 4 CU,.slice (some ⟨364,0,none⟩) 1 CU]⟩,Kyb9,⟨760,3,1,[.int .i64 1]⟩,⟨761,3,1,[.int .i64 1]⟩,⟨775,3,1,[.int .i64 0]⟩],.int .i64 0,944,[],787⟩
/- selfstab/step.Step -/
def ybri:Fact:=⟨84,[.agg #[.string (by8 [99,111,108,111,117,114,105,110,103]),.slice (some ⟨275,0,none⟩) 1 CU,.slice (some ⟨368,0,none⟩) 1 CU],.agg #[.slice (some ⟨14,0,none⟩) 3 CU,.slice (some ⟨7,0,none⟩) 3 3],.slice (some ⟨758,0,none⟩) 3 3,.int .u32 2],785,[Kyb0,Kyb1,Kyb2,Kyb3,Kyb4,⟨275,160,6,[.string (by8 [99]),.int .i64 1,.int .i64 0,.int .i64 0,.int .i64 1,.int .i64 0]⟩,Kyb5,Kyb6,Kyb7,⟨368,193,3,[.string (by8 [102,105,120]),.slice (some ⟨321,0,none⟩) 4 CU,.slice (some ⟨364,0,none⟩) 1 CU]⟩,Kyb9,⟨760,3,1,[.int .i64 1]⟩,⟨761,3,1,[.int .i64 1]⟩,⟨775,3,1,[.int .i64 0]⟩],.tuple #[.slice (some ⟨1052,0,none⟩) 3 3,.int .i64 0],1079,[⟨1052,22,1,[.slice (some ⟨1053,0,none⟩) 1 CU,.slice (some ⟨1069,0,none⟩) 1 CU,.slice (some ⟨1055,0,none⟩) 1 CU]⟩,⟨1053,3,1,[.int .i64 0]⟩,⟨1055,3,1,[.int .i64 1]⟩,⟨1069,3,1,[.int .i64 2]⟩],785⟩
def ydwg:List Fact:=[ydjk,ybri]
theorem ycgq:ycy ydwg:=ycy.seq (ycy.cons (f:=Kym2) ydbu ycy.nil) (by kernel_rfl)
end Ev
end
section
namespace Ev
def Kym0:Fact:=ysb.move [] 47
theorem yddx:yfp zC Kym0:=yna (ycy.at_ yblk 0 rfl) (by kernel_rfl)
end Ev
end
section
namespace Ev
open Go Go.RowKit
def kyF:List Fact:=[Kym0,ycav,ybri]
theorem ydkn:ycy kyF:=(ycy.cons (f:=Kym0) yddx (ycy.cons (f:=ycav) (ycy.at_ ybks 2 rfl) (ycy.cons (f:=ybri) (ycy.at_ ycgq 1 rfl) ycy.nil)))
def kyH:Hooks:=⟨some 118,some 245,some 175,symB,[⟨1000000000000,kyF⟩],some 122⟩
theorem ydhe:HooksOk zC kyH:=⟨fun g h=>(by cases h;exact ybjf),fun g h=>(by cases h;exact yqb),fun g h=>(by cases h;exact ybsk),ygc.cons ydkn ygc.nil,fun g h=>(by cases h;exact yzf)⟩
def kyT:Option Value->Bool
 |some (.bool b)=>b
 |_=>false
theorem ydlv:∀{o:Option Value},kyT o=true->o=some (.bool true)
 |some (.bool true),_=>rfl
set_option maxRecDepth 1000000 in
theorem ybgg:outV (ev zC kyH 3000 (.call 26 [] mem0))=some (.bool true):=ydlv (by kernel_rfl)
theorem ydaf(w:World)(hG:GlW w):Calls zC 26 #[] w fun e w'=>e = .returned (.bool true)/\Below w.heap.size w w' :=
 yzv mix yra ydhe ybgg rfl rfl ⟨_,_,zAQ,rfl⟩ w hG
end Ev
end
section
namespace Sh
open Go Ev Go.RowKit
theorem ybfi:Returns zC 26 [] (.b true):=by
 refine ycas ⟨_,_,zAQ,rfl⟩ (fun _=>.b) (fun _=>.simple rfl) fun G m us hG hr φ M w us' hRl hs hv=>?_;cases hr
 cases hv
 exact ydaf w fun x hx=>(hRl.gl x hx).1
end Sh
end
section
namespace Ev
theorem yqk:∀l:List UInt8,eqBytes l l=true
 |[]=>rfl
 | x::l=>by
   show(zD x.toNat x.toNat&&eqBytes l l)=true;rw[zB,yqk l];rfl
theorem ywd{ρ:Nat->Nat}{a:Addr}(h:a.spot.isNone=true):eqAddr (renA ρ a) (renA ρ a)=true:=by
 rw[yjv];unfold eqAddr;simp only[zB,h,Bool.and_self]
theorem ybsj{ρ:Nat->Nat}{v:Value}(hf:yrb v=true)(h:eq1 v v=true):eq1 (ren1 ρ v) (ren1 ρ v)=true:=by
 unfold yrb at hf;split at hf
 .exact ywd hf
 .rename_i a n c
  show(eqAddr (renA ρ a) (renA ρ a)&&zD n n&&zD c c)=true;rw[ywd hf,zB,zB];rfl
 .rename_i h1 h2
  have:ren1 ρ v=v:=by
   unfold ren1;split
   .rename_i a;exact absurd rfl (h1 a)
   .rename_i a n c;exact absurd rfl (h2 a n c)
   .rfl
  rw[this];exact h
theorem yri{ρ:Nat->Nat}:∀{l:List Value},l.all yrb=true->eqL1 l l=true->eqL1 (l.map (ren1 ρ)) (l.map (ren1 ρ))=true
 |[],_,_=>rfl
 | x::l,hf,h=>by
   simp only[List.all_cons,zA]at hf;have h:(eq1 x x&&eqL1 l l)=true:=h;rw[zA]at h;show(eq1 (ren1 ρ x) (ren1 ρ x)&&eqL1 (l.map (ren1 ρ)) (l.map (ren1 ρ)))=true;rw[ybsj hf.1 h.1,yri hf.2 h.2];rfl
theorem ybuo{v:Value}(h1:∀a,v = .agg a->False)(h2:∀g a c,v = .func (.func g) a c->False):eq2 v v=eq1 v v:=by
 cases v with
 |agg a=>exact(h1 a rfl).elim
 | func f a c=>cases f with
   |func g=>exact(h2 g a c rfl).elim
   |_=>rfl
 |_=>rfl
theorem ybzl{ρ:Nat->Nat}{v:Value}(h1:∀a,v = .agg a->False)(h2:∀g a c,v = .func (.func g) a c->False)(hf:yrb v=true):ren2 ρ v=ren1 ρ v:=by
 cases v with
 |agg a=>exact(h1 a rfl).elim
 | func f a c=>cases f with
   |func g=>exact(h2 g a c rfl).elim
   |_=>cases hf
 |_=>rfl
theorem yvs{ρ:Nat->Nat}{v:Value}(hf:yrb v=true):(∀a,ren1 ρ v = .agg a->False)/\∀g a c,ren1 ρ v = .func (.func g) a c->False:=by
 cases v with
 |agg a=>cases hf
 |func f a c=>cases hf
 |pointer p=>cases p<;>exact⟨fun _ h=>(by cases h),fun _ _ _ h=>(by cases h)⟩
 |slice p n c=>cases p<;>exact⟨fun _ h=>(by cases h),fun _ _ _ h=>(by cases h)⟩
 |_=>exact⟨fun _ h=>(by cases h),fun _ _ _ h=>(by cases h)⟩
theorem ycbf{ρ:Nat->Nat}{v:Value}(hf:ykz v=true)(h:eq2 v v=true):eq2 (ren2 ρ v) (ren2 ρ v)=true:=by
 unfold ykz at hf;split at hf
 .rename_i a
  have h:eqL1 a.toList a.toList=true:=h;show eqL1 (a.toList.map (ren1 ρ)).toArray.toList (a.toList.map (ren1 ρ)).toArray.toList=true;exact yri hf h
 .rename_i g a c
  rw[zA]at hf;have h:(zD g g&&eqL1 a.toList a.toList&&eqL1 c.toList c.toList)=true:=h;simp only[zA]at h;show(zD g g&&eqL1 (a.toList.map (ren1 ρ)).toArray.toList (a.toList.map (ren1 ρ)).toArray.toList&&eqL1 (c.toList.map (ren1 ρ)).toArray.toList (c.toList.map (ren1 ρ)).toArray.toList)=true;rw[zB,yri hf.1 h.1.2,yri hf.2 h.2];rfl
 .rename_i h1 h2
  rw[ybuo h1 h2]at h;rw[ybzl h1 h2 hf,ybuo (yvs hf).1 (yvs hf).2];exact ybsj hf h
def reflB(b:BlkL):Bool:=b.l.all (fun v=>eq2 v v&&ykz v)&&zM b.l.length 1000000
theorem ysu{ρ:Nat->Nat}{b:BlkL}(h:reflB b=true):∀v∈(b.ren ρ).l,eq2 v v=true:=by
 unfold reflB at h;rw[zA]at h;intro v hv;obtain⟨x,hx,rfl⟩:=List.mem_map.1 hv;have:=List.all_eq_true.1 h.1 x hx;rw[zA]at this;exact ycbf this.2 this.1
theorem ynt{l:List Value}(h:∀v∈l,eq2 v v=true):∀(k:List Value) (n:Nat),l.drop n=k->cellsAre (tOf l) n k=true
 |[],_,_=>rfl
 | v :: k,n,e=>by
   have hn:n<l.length:=by
    rcases Nat.lt_or_ge n l.length with q|q
    .exact q
    .rw[List.drop_eq_nil_of_le q]at e;cases e
   rw[List.drop_eq_getElem_cons hn]at e
   injection e with e1 e2
   unfold cellsAre;rw[ycz,List.getElem?_eq_getElem hn,e1];simp only;rw[h v (by rw[<-e1];exact zAE _),ynt h k (n+1) e2]
   rfl
theorem yop{m:Mem}{b:BlkL}(hg:m.b.get b.i=some b.blk)(h:∀v∈b.l,eq2 v v=true)(hl:zM b.l.length 1000000=true):blkIs m b=true:=by
 unfold blkIs;rw[hg];show(zD b.l.length b.l.length&&zD b.e b.e&&zD b.z b.z&&zM b.l.length 1000000&&cellsAre (tOf b.l) 0 b.l)=true;rw[zB,zB,zB,hl,ynt h b.l 0 (List.drop_zero ..)];rfl
theorem ytr:∀{l:List BlkL}{t:T ABlk}{i:Nat},(∀b∈l,b.i≠i)->(blksT t l).get i=t.get i
 |[],_,_,_=>rfl
 | b::l,t,i,h=>by
   unfold blksT;rw[T.strict_eq,ytr fun c hc=>h c (zQ _ hc),T.set_at,if_neg (fun e=>h b zN e.symm)]
theorem yrs:∀{l:List BlkL}{t:T ABlk},yhc (l.map (·.i))=true->∀b∈l,(blksT t l).get b.i=some b.blk
 |[],_,_,b,hb=>by cases hb
 | c :: l,t,h,b,hb=>by
   have h:(!(l.map (·.i)).elem c.i&&yhc (l.map (·.i)))=true:=h;rw[zA,zU]at h;unfold blksT;rw[T.strict_eq];rcases List.mem_cons.1 hb with e|hb
   .subst e;rw[ytr fun d hd e=>?_,T.set_at,if_pos rfl];have:(l.map (·.i)).elem b.i=true:=List.elem_eq_true_of_mem (List.mem_map.2 ⟨d,hd,e⟩);rw[this]at h;cases h.1
   .exact yrs h.2 b hb
theorem ynx:∀{l:List Nat},l.Nodup->yhc l=true
 |[],_=>rfl
 | x :: l,h=>by
   rw[zW]at h;show(!(l.elem x)&&yhc l)=true
   have:l.elem x=false:=by
    cases hq:l.elem x with
    |false=>rfl
    |true=>exact absurd (by simpa using hq) h.1
   rw[this,ynx h.2];rfl
theorem yzn:∀{l:List Nat},yhc l=true->l.Nodup
 |[],_=>zAF
 | x::l,h=>by
   have h:(!(l.elem x)&&yhc l)=true:=h;rw[zA,zU]at h;rw[zW];refine⟨fun hm=>?_,yzn h.2⟩;have:l.elem x=true:=by simpa using hm
   rw[this]at h;cases h.1
theorem ybma{d:Nat}:∀{l:List BlkL}{k:List Nat},(l.map (·.i)).Nodup->l.length=k.length->l.map (fun b=>yyz l k d b.i)=k
 |[],[],_,_=>rfl
 | b :: l,t::k,hn,hl=>by
   rw[zAG,zW]at hn;have ih:=ybma (d:=d) hn.2 (by simpa using hl)
   rw[zAG];have e1:yyz (b::l) (t::k) d b.i=t:=by unfold yyz;rw[zB];rfl
   rw[e1];congr 1;refine zAK (zI fun c hc=>?_) ih;show(bif zD b.i c.i then t else yyz l k d c.i)=_
   have:zD b.i c.i=false:=by
    cases hq:zD b.i c.i with
    |false=>rfl
    |true=>exact absurd (List.mem_map.2 ⟨c,hc,(zJ hq).symm⟩) hn.1
   rw[this];rfl
 |[],_::_,_,h=>by cases h
 |_::_,[],_,h=>by cases h
def Fact.still(f:Fact):Bool:=zT f.next0 f.low&&f.args.all ykz&&ybvx f.v&&f.pre.all (fun b=>zM b.i f.next0&&reflB b)&&yhc (f.pre.map (·.i))&&f.post.all (fun b=>zT f.next0 b.i&&zM b.i f.next1&&reflB b)&&yhc (f.post.map (·.i))&&zT f.next0 f.next1
theorem ycvb{a b:Nat}(h:zM a b=true):a<b:=zAC (Nat.lt_succ_self _) (zF h)
theorem yblb{a b:Nat}(h:a<b):zM a b=true:=zK h
theorem ymh{f:Fact}(h:f.still=true):f.next0<=f.low/\(f.args.all ykz=true/\ybvx f.v=true)/\(∀b∈f.pre,b.i<f.next0/\reflB b=true)/\(f.pre.map (·.i)).Nodup/\(∀b∈f.post,f.next0<=b.i/\b.i<f.next1/\reflB b=true)/\(f.post.map (·.i)).Nodup/\f.next0<=f.next1:=by
 unfold Fact.still at h;simp only[zA]at h;obtain⟨⟨⟨⟨⟨⟨⟨h1,h2⟩,h3⟩,h4⟩,h5⟩,h6⟩,h7⟩,h8⟩:=h;refine⟨zF h1,⟨h2,h3⟩,fun b hb=>?_,yzn h5,fun b hb=>?_,yzn h7,zF h8⟩
 .have:=List.all_eq_true.1 h4 b hb;rw[zA]at this;exact⟨ycvb this.1,this.2⟩
 .have:=List.all_eq_true.1 h6 b hb;simp only[zA]at this;exact⟨zF this.1.1,ycvb this.1.2,this.2⟩
theorem ycae{f:Fact}{tgt:List Nat}{n0:Nat}(hp:∀b∈f.pre,b.i<f.next0/\reflB b=true)(hn:(f.pre.map (·.i)).Nodup)(hl:f.pre.length=tgt.length):f.pre.map (fun b=>f.rho tgt n0 b.i)=tgt:=by
 refine zAK (zI fun b hb=>?_) (ybma (d:=Nat.add n0 (Nat.sub f.next1 f.next0)) hn hl);unfold Fact.rho;have h1:=(hp b hb).1
 have:(zT f.next0 b.i&&zM b.i f.next1)=false:=by
  rw[Bool.and_eq_false_iff];left
  cases hq:zT f.next0 b.i with
  |false=>rfl
  |true=>have:=zF hq;omega
 rw[this];rfl
theorem yblm{f:Fact}{tgt:List Nat}{n0 i:Nat}(h1:f.next0<=i)(h2:i<f.next1):f.rho tgt n0 i=i-f.next0+n0:=by
 unfold Fact.rho;rw[Bool.cond_eq_ite,if_pos (by rw[zK h1,yblb h2];rfl)]
 rfl
theorem yvb{P:Program}{f:Fact}{tgt:List Nat}{n0:Nat}(hok:yfp P f)(hs:f.still=true)(hl:f.pre.length=tgt.length)(hn:tgt.Nodup)(hlt:∀t∈tgt,t<n0):yfp P (f.move tgt n0):=by
 refine yna hok ?_;obtain⟨s1,⟨s2,s3⟩,s4,s5,s6,s7,s8⟩:=ymh hs
 have hpi:(f.move tgt n0).pre.map (·.i)=tgt:=by
  show(f.pre.map (BlkL.ren (f.rho tgt n0))).map (·.i)=tgt;rw[zS];exact zAK (zI fun b hb=>b.ygh) (ycae (n0:=n0) s4 s5 hl)
 have hqi:yhc ((f.move tgt n0).post.map (·.i))=true:=by
  refine ynx ?_;show((f.post.map (BlkL.ren (f.rho tgt n0))).map (·.i)).Nodup
  have e:(f.post.map (BlkL.ren (f.rho tgt n0))).map (·.i)=(f.post.map (·.i)).map (fun i=>i-f.next0+n0):=by
   rw[zS,zS];refine zI fun b hb=>?_;show(b.ren (f.rho tgt n0)).i=b.i-f.next0+n0;rw[b.ygh,yblm (s6 b hb).1 (s6 b hb).2.1]
  rw[e];unfold List.Nodup at s7 ⊢;rw[zV];refine List.Pairwise.imp_of_mem (fun {x y} hx hy h=>?_) s7;obtain⟨bx,hbx,rfl⟩:=List.mem_map.1 hx;obtain⟨by_,hby,rfl⟩:=List.mem_map.1 hy;have:=(s6 bx hbx).1;have:=(s6 by_ hby).1;omega
 have hpre:yhc ((f.move tgt n0).pre.map (·.i))=true:=by rw[hpi];exact ynx hn
 unfold Fact.moves;simp only[zA];refine⟨⟨⟨⟨⟨⟨⟨⟨zK s1,s2⟩,s3⟩,?_⟩,?_⟩,hpre⟩,?_⟩,?_⟩,zK s8⟩
 .refine List.all_eq_true.2 fun b hb=>?_;have:=(s4 b hb).2;unfold reflB at this;rw[zA]at this;rw[yblb (s4 b hb).1,zAB];exact List.all_eq_true.2 fun v hv=>by have:=List.all_eq_true.1 this.1 v hv;rw[zA]at this;exact this.2
 .refine List.all_eq_true.2 fun b hb=>?_;have:=(s6 b hb).2.2;unfold reflB at this;rw[zA]at this;rw[yblb (s6 b hb).2.1,zAB];exact List.all_eq_true.2 fun v hv=>by have:=List.all_eq_true.1 this.1 v hv;rw[zA]at this;exact this.2
 .refine List.all_eq_true.2 fun b' hb'=>?_;obtain⟨b,hb,rfl⟩:=List.mem_map.1 hb';have h2:=(s4 b hb).2;have h3:(b.ren (f.rho tgt n0)).i∈(f.move tgt n0).pre.map (·.i):=List.mem_map.2 ⟨_,hb',rfl⟩;rw[hpi]at h3;rw[yblb (hlt _ h3),zAB];refine yop (yrs hpre _ hb') (ysu h2) ?_;show zM (b.l.map _).length 1000000=true;rw[zG];unfold reflB at h2;rw[zA]at h2;exact h2.2
 .refine List.all_eq_true.2 fun b' hb'=>?_;obtain⟨b,hb,rfl⟩:=List.mem_map.1 hb';have h2:=(s6 b hb).2.2;refine yop (yrs hqi _ hb') (ysu h2) ?_;show zM (b.l.map _).length 1000000=true;rw[zG];unfold reflB at h2;rw[zA]at h2;exact h2.2
end Ev
end
section
namespace Sh
open Go Ev
def Lies(B:List BlkL)(v:Value)(F:AM)(u:Value):Prop :=
 ∃ρ:Nat->Nat,(∀b∈B,∀c∈B,ρ b.i=ρ c.i->b.i=c.i)/\(∀b∈B,F (ρ b.i)=some (b.ren ρ).blk)/\u=ren1 ρ v
theorem Lies.mono{B:List BlkL}{v:Value}(F G:AM)(u:Value)(h:Le F G)(k:Lies B v F u):Lies B v G u:=by
 obtain⟨ρ,h1,h2,h3⟩:=k;exact⟨ρ,h1,fun b hb=>h _ _ (h2 b hb),h3⟩
def ydvh(B:List BlkL)(j:Nat):Option BlkL:=B.find? fun b=>zD b.i j
def ycib(p:Nat->Bool):Nat->Bool
 |0=>true
 |n+1=>p n&&ycib p n
theorem yblu{p:Nat->Bool}:∀{n:Nat},ycib p n=true->∀k,k<n->p k=true
 |0,_,k,h=>absurd h (Nat.not_lt_zero k)
 | n+1,h,k,hk=>by
   have h:(p n&&ycib p n)=true:=h;rw[zA]at h
   by_cases q:k=n
   .rw[q];exact h.1
   .exact yblu h.2 k (by omega)
def ybha(B:List BlkL)(z n:Nat)(row:Nat->List Value->Bool):Value->Bool
 | .slice (some a) m _=>a.spot.isNone&&zD m n&&(match ydvh B a.block with
   |some b=>zD b.z z&&zT (a.off+n*z) b.l.length&&ycib (fun k=>row k ((b.l.drop (a.off+k*z)).take z)) n
   |none=>false)
 |.slice none 0 0=>zD n 0
 |_=>false
theorem yrk {B:List BlkL}{F:AM}{ρ:Nat->Nat}{z n:Nat}{row:Nat->List Value->Bool}{v:Value}{g:Nat->List SV}(hF:∀b∈B,F (ρ b.i)=some (b.ren ρ).blk) (h:ybha B z n row v=true)
 (hr:∀k L,k<n->row k L=true->L.length=z/\RVL F om0 (g k) (L.map (ren2 ρ))/\(g k).all one1=true):RV F om0 (.sl z n g) (ren1 ρ v):=by
 unfold ybha at h;split at h
 .rename_i a m c
  simp only[zA]at h;obtain⟨⟨h1,h2⟩,h3⟩:=h;split at h3
  .rename_i b hb
   simp only[zA]at h3;obtain⟨⟨h3,h4⟩,h5⟩:=h3;have hm:m=n:=zJ h2;have hz:=zJ h3;have h4:=zF h4;have hmem:=List.mem_of_find?_eq_some hb;have hi:b.i=a.block:=zJ (List.find?_some (p:=fun b:BlkL=>zD b.i a.block) hb);have h6:=hF b hmem;rw[hi]at h6;show RV F om0 _ (.slice (some (renA ρ a)) m c);rw[yjv];subst hm;obtain⟨A,o,sp⟩:=a;have hsp:sp=none:=by simpa using h1
   subst hsp;have h6:F (ρ A)=some (.cells (tOf (b.l.map (ren2 ρ))) (b.l.map (ren2 ρ)).length b.e b.z):=h6;have hrow:∀k,k<m->_:=fun k hk=>hr k _ hk (yblu h5 k hk);refine .sl (L:=fun k=>((b.l.drop (o+k*z)).take z).map (ren2 ρ)) h6 (.inl hz) (by rw[zG];exact h4) ?_ ?_ (fun k hk=>(hrow k hk).2.1) (fun k hk=>(hrow k hk).2.2)
   .intro k hk;rw[zG];exact(hrow k hk).1
   .intro k hk j hj;rw[ycz];simp only[zAD,List.getElem?_take,List.getElem?_drop,hj,if_true]
  .cases h3
 .have h:zD n 0=true:=h;have h0:=zJ h;subst h0;exact .sl0 (.inl rfl)
 .cases h
def isI(v:Value)(n:Int):Bool:=match v with
 |.int .i64 m=>eqInt m n
 |_=>false
def isS(v:Value)(s:ByteArray):Bool:=match v with
 |.string t=>eqBytes t.data.toList s.data.toList
 |_=>false
theorem yqj{F:AM}{ρ:Nat->Nat}{v:Value}{n:Int}(h:isI v n=true):RV F om0 (.i .i64 n) (ren2 ρ v):=by
 unfold isI at h;split at h
 .rw[yru h];exact .i
 .cases h
theorem ycis{F:AM}{ρ:Nat->Nat}{v:Value}{s:ByteArray}(h:isS v s=true):RV F om0 (.a (.string s)) (ren2 ρ v):=by
 unfold isS at h;split at h
 .rename_i t
  have e:=ypw h
  have:t=s:=by
   cases t;cases s
   congr 1;exact Array.toList_inj.1 e
  rw[this];exact .a rfl
 .cases h
def ydqs(ls:List (Int×Int))(k:Nat):List Value->Bool
 |[x,y]=>isI x (ls.getD k (0,0)).1&&isI y (ls.getD k (0,0)).2
 |_=>false
def ycsg(l:List VarR)(k:Nat):List Value->Bool
 |[s,a,b,c,d,e]=>isS s (l.getD k default).name&&isI a (l.getD k default).kind&&isI b (l.getD k default).lo&&isI c (l.getD k default).hi&&isI d (l.getD k default).perNode&&isI e (l.getD k default).perID
 |_=>false
def yyy(B:List BlkL)(ls:List (Int×Int))(v:Value):Bool:=ybha B 2 ls.length (ydqs ls) v
def isSl:Value->Bool
 |.slice _ _ _=>true
 |_=>false
def ybxv(B:List BlkL)(l:List SetR)(k:Nat):List Value->Bool
 |[a,v]=>isI a (l.getD k default).var&&isSl v&&yyy B (l.getD k default).val v
 |_=>false
def ybzs(B:List BlkL)(l:List RuleR)(k:Nat):List Value->Bool
 |[s,v,w]=>isS s (l.getD k default).name&&isSl v&&yyy B (l.getD k default).guard v&&isSl w&&ybha B 2 (l.getD k default).sets.length (ybxv B (l.getD k default).sets) w
 |_=>false
def ybsu(B:List BlkL)(v:Value)(l:List VarR):Bool:=ybha B 6 l.length (ycsg l) v
def ybjg(B:List BlkL)(v:Value)(l:List RuleR):Bool:=ybha B 3 l.length (ybzs B l) v
section
variable {B:List BlkL}{F:AM}{ρ:Nat->Nat}
theorem ybgf{v:Value}(h:isSl v=true):ren2 ρ v=ren1 ρ v:=by
 unfold isSl at h;split at h
 .rfl
 .cases h
theorem yts(hF:∀b∈B,F (ρ b.i)=some (b.ren ρ).blk){ls:List (Int×Int)}{v:Value}(h:yyy B ls v=true):RV F om0 (ybb ls) (ren1 ρ v):=by
 refine yrk hF h fun k L hk hq=>?_;unfold ydqs at hq;split at hq
 .simp only[zA]at hq;exact⟨rfl,.cons (yqj hq.1) (.cons (yqj hq.2) .nil),rfl⟩
 .cases hq
theorem ybpk(hF:∀b∈B,F (ρ b.i)=some (b.ren ρ).blk){l:List VarR}{v:Value}(h:ybsu B v l=true):RV F om0 (yer l) (ren1 ρ v):=by
 refine yrk hF h fun k L hk hq=>?_;unfold ycsg at hq;split at hq
 .simp only[zA]at hq;obtain⟨⟨⟨⟨⟨h1,h2⟩,h3⟩,h4⟩,h5⟩,h6⟩:=hq;exact⟨rfl,.cons (ycis h1) (.cons (yqj h2) (.cons (yqj h3) (.cons (yqj h4) (.cons (yqj h5) (.cons (yqj h6) .nil))))),rfl⟩
 .cases hq
theorem ybmr(hF:∀b∈B,F (ρ b.i)=some (b.ren ρ).blk){l:List SetR}{v:Value}(h:ybha B 2 l.length (ybxv B l) v=true):RV F om0 (yij l) (ren1 ρ v):=by
 refine yrk hF h fun k L hk hq=>?_;unfold ybxv at hq;split at hq
 .simp only[zA]at hq;obtain⟨⟨h1,h2⟩,h3⟩:=hq;refine⟨rfl,.cons (yqj h1) (.cons ?_ .nil),rfl⟩;rw[ybgf h2];exact yts hF h3
 .cases hq
theorem ybhz(hF:∀b∈B,F (ρ b.i)=some (b.ren ρ).blk){l:List RuleR}{v:Value}(h:ybjg B v l=true):RV F om0 (ydf l) (ren1 ρ v):=by
 refine yrk hF h fun k L hk hq=>?_;unfold ybzs at hq;split at hq
 .simp only[zA]at hq;obtain⟨⟨⟨⟨h1,h2⟩,h3⟩,h4⟩,h5⟩:=hq;refine⟨rfl,.cons (ycis h1) (.cons ?_ (.cons ?_ .nil)),rfl⟩
  .rw[ybgf h2];exact yts hF h3
  .rw[ybgf h4];exact ybmr hF h5
 .cases hq
end
structure LaidP(fp:Fact)(t:ByteArray)(p:ProgR)(vv vr:Value)(Bv Br:List BlkL):Prop where
 args:fp.args=[.string t]
 pre:fp.pre=[]
 v:fp.v = .agg #[.string p.name,vv,vr]
 still:fp.still=true
 bv:∀b∈Bv,b∈fp.post
 br:∀b∈Br,b∈fp.post
 vars:ybsu Bv vv p.vars=true
 rules:ybjg Br vr p.rules=true
theorem ycdm{P:Program}{fp:Fact}{t:ByteArray}{p:ProgR}{vv vr:Value}{Bv Br:List BlkL}(hok:yfp P fp)(h:LaidP fp t p vv vr Bv Br):Returns P fp.g [.a (.string t)] (.ag (yfb (Lies Bv vv) (Lies Br vr) p)):=by
 intro G m us hwf hle hus
 have hu:us=[.string t]:=by
  cases hus with
  |cons a b=>cases a with|a _=>cases b with|nil=>rfl
 subst hu;obtain⟨s1,⟨s2,s3⟩,s4,s5,s6,s7,s8⟩:=ymh h.still;have hmv:=yvb (tgt:=[]) (n0:=m.next) hok h.still (by rw[h.pre];rfl) zAF (fun t ht=>by cases ht)
 obtain⟨ρ,hρ⟩:∃ρ,fp.rho [] m.next=ρ:=⟨_,rfl⟩
 have hpost:(fp.move [] m.next).post=fp.post.map (BlkL.ren ρ):=by rw[<-hρ];rfl
 have hv:(fp.move [] m.next).v = .agg #[.string p.name,ren1 ρ vv,ren1 ρ vr]:=by
  show renV (fp.rho [] m.next) fp.v=_
  rw[hρ,h.v];rfl
 have hpre:(fp.move [] m.next).pre=[]:=by
  show fp.pre.map _=[];rw[h.pre];rfl
 have hfit:(fp.move [] m.next).fits fp.g [.string t] m=true:=by
  unfold Fact.fits;rw[hpre];show(zD fp.g fp.g&&zD m.next m.next&&eqL2 (fp.args.map (ren2 _)) [.string t]&&true)=true
  rw[zB,zB,h.args];show(true&&true&&(eqBytes t.data.toList t.data.toList&&true)&&true)=true;rw[yqk];rfl
 have hri:∀b∈fp.post,ρ b.i=b.i-fp.next0+m.next:=fun b hb=>by rw[<-hρ];exact yblm (s6 b hb).1 (s6 b hb).2.1
 have hnd:yhc ((fp.post.map (BlkL.ren ρ)).map (·.i))=true:=by
  refine ynx ?_
  have e:(fp.post.map (BlkL.ren ρ)).map (·.i)=(fp.post.map (·.i)).map (fun i=>i-fp.next0+m.next):=by
   rw[zS,zS];refine zI fun b hb=>?_;show(b.ren ρ).i=_;rw[b.ygh,hri b hb];rfl
  rw[e];unfold List.Nodup at s7 ⊢;rw[zV];refine List.Pairwise.imp_of_mem (fun {x y} hx hy h=>?_) s7;obtain⟨bx,hbx,rfl⟩:=List.mem_map.1 hx;obtain⟨by_,hby,rfl⟩:=List.mem_map.1 hy;have:=(s6 bx hbx).1;have:=(s6 by_ hby).1;omega
 have hs:=yzm hmv hfit;unfold Fact.out at hs;rw[hv,hpre,hpost]at hs;refine⟨_,_,_,hs,zAR _,?_,rfl,?_⟩
 .intro i b hb;show(blksT m.b (fp.post.map (BlkL.ren ρ))).get i=some b;rw[ytr fun c hc=>?_]
  .exact hb
  .obtain⟨c,hc',rfl⟩:=List.mem_map.1 hc;have:=hwf i b hb;rw[c.ygh,hri c hc'];omega
 .have hF:∀b∈fp.post,frsh m.next ⟨(fp.move [] m.next).next1,blksT m.b (fp.post.map (BlkL.ren ρ)),(fp.move [] m.next).low⟩ G (ρ b.i)=some (b.ren ρ).blk:=fun b hb=>by
   unfold frsh;rw[if_pos (by rw[hri b hb];omega)]
   have:=yrs (t:=m.b) hnd _ (List.mem_map.2 ⟨b,hb,rfl⟩);rw[b.ygh]at this;exact this
  have hinj:∀b∈fp.post,∀c∈fp.post,ρ b.i=ρ c.i->b.i=c.i:=fun b hb c hc e=>by
   rw[hri b hb,hri c hc]at e;have:=(s6 b hb).1;have:=(s6 c hc).1;omega
  refine .ag (.cons (.a rfl) (.cons (.ex ?_ (fun A B w=>Lies.mono A B w) ?_) (.cons (.ex ?_ (fun A B w=>Lies.mono A B w) ?_) .nil)))
  .exact⟨ρ,fun b hb c hc=>hinj b (h.bv b hb) c (h.bv c hc),fun b hb=>hF b (h.bv b hb),rfl⟩
  .exact ybpk (fun b hb=>hF b (h.bv b hb)) h.vars
  .exact⟨ρ,fun b hb c hc=>hinj b (h.br b hb) c (h.br c hc),fun b hb=>hF b (h.br b hb),rfl⟩
  .exact ybhz (fun b hb=>hF b (h.br b hb)) h.rules
def inB(B:List BlkL):Value->Bool
 |.slice (some a) _ _=>(B.map (·.i)).elem a.block
 |.pointer (some a)=>(B.map (·.i)).elem a.block
 |.agg _=>false
 |.func _ _ _=>false
 |_=>true
theorem yit{B:List BlkL}{ρ σ:Nat->Nat}(h:∀b∈B,ρ b.i=σ b.i){v:Value}(hv:inB B v=true):ren1 ρ v=ren1 σ v:=by
 have hk:∀j,(B.map (·.i)).elem j=true->ρ j=σ j:=fun j hj=>by
  have:j∈B.map (·.i):=by simpa using hj
  obtain⟨b,hb,rfl⟩:=List.mem_map.1 this;exact h b hb
 cases v with
 | slice p n c=>cases p with
   |none=>rfl
   | some a =>
     show Value.slice (some (renA ρ a)) n c = .slice (some (renA σ a)) n c;rw[yjv,yjv,hk _ hv]
 | pointer p=>cases p with
   |none=>rfl
   | some a =>
     show Value.pointer (some (renA ρ a)) = .pointer (some (renA σ a));rw[yjv,yjv,hk _ hv]
 |agg a=>cases hv
 |func f a c=>cases hv
 |_=>rfl
theorem yblw{B:List BlkL}{τ:Nat->Nat}{v:Value}(hv:inB B v=true):ren2 τ v=ren1 τ v:=by
 cases v with
 |agg a=>cases hv
 |func f a c=>cases hv
 |_=>rfl
theorem ybne{B:List BlkL}{ρ σ:Nat->Nat}(h:∀b∈B,ρ b.i=σ b.i){v:Value}(hv:inB B v=true):ren2 ρ v=ren2 σ v:=by
 rw[yblw hv,yblw hv];exact yit h hv
def ybfl(B:List BlkL):Bool:=B.all fun b=>b.l.all (inB B)
theorem yban{B:List BlkL}{ρ σ:Nat->Nat}(hc:ybfl B=true)(h:∀b∈B,ρ b.i=σ b.i){b:BlkL}(hb:b∈B):b.ren ρ=b.ren σ:=by
 have h1:=List.all_eq_true.1 (List.all_eq_true.1 hc b hb)
 have e:∀τ:Nat->Nat,b.ren τ=⟨τ b.i,b.e,b.z,b.l.map (ren2 τ)⟩:=fun τ=>by
  unfold BlkL.ren;rw[ybp]
 rw[e,e,h b hb];congr 1;exact zI fun v hv=>ybne h (h1 v hv)
theorem yvg{low:Nat}:∀{l:List BlkL}{t:T ABlk},(∀b∈l,b.i<low)->dropT t low l=t
 |[],_,_=>rfl
 | b :: l,t,h=>by
   have hb:=h b zN;unfold dropT
   have e:zT low b.i=false:=by
    cases q:zT low b.i with
    |false=>rfl
    |true=>have:=zF q;omega
   rw[e,ybe,if_neg (by simp)]
   exact yvg fun c hc=>h c (zQ _ hc)
structure GoodV(fv:Fact)(p:ProgR)(vv vr:Value)(Bv Br:List BlkL):Prop where
 args:fv.args=[.agg #[.string p.name,vv,vr]]
 pre:∀b∈fv.pre,b∈Bv\/b∈Br
 bv:∀b∈Bv,b∈fv.pre
 br:∀b∈Br,b∈fv.pre
 v:fv.v = .bool true
 post:fv.post=[]
 still:fv.still=true
 apart:(Bv.all fun b=>Br.all fun c=>!(zD b.e c.e) && !(zD b.i c.i))=true
 cv:ybfl Bv=true
 cr:ybfl Br=true
 iv:inB Bv vv=true
 ir:inB Br vr=true
 refl:eq2 (.agg #[.string p.name,vv,vr]) (.agg #[.string p.name,vv,vr])=true
theorem ycio{P:Program}{fv:Fact}{p:ProgR}{vv vr:Value}{Bv Br:List BlkL}(hok:yfp P fv)(h:GoodV fv p vv vr Bv Br):Returns P fv.g [.ag (yfb (Lies Bv vv) (Lies Br vr) p)] (.b true):=by
 intro G m us hwf hle hus
 obtain⟨ρ1,ρ2,hu,a1,a2,a3,a4⟩:∃ρ1 ρ2:Nat->Nat,us=[.agg #[.string p.name,ren1 ρ1 vv,ren1 ρ2 vr]]/\(∀b∈Bv,∀c∈Bv,ρ1 b.i=ρ1 c.i->b.i=c.i)/\(∀b∈Bv,G (ρ1 b.i)=some (b.ren ρ1).blk) /\
  (∀b∈Br,∀c∈Br,ρ2 b.i=ρ2 c.i->b.i=c.i)/\∀b∈Br,G (ρ2 b.i)=some (b.ren ρ2).blk:=by
  cases hus with
  | cons a b =>
    cases b
    cases a with
    | ag hl =>
      cases hl with
      | cons x1 hl =>
        cases x1
        cases hl with
        | cons x2 hl =>
          cases x2 with
          | ex q2 _ _ =>
            cases hl with
            | cons x3 hl =>
              cases x3 with
              | ex q3 _ _ =>
                cases hl
                obtain⟨ρ1,b1,b2,rfl⟩:=q2;obtain⟨ρ2,b3,b4,rfl⟩:=q3;exact⟨ρ1,ρ2,rfl,b1,b2,b3,b4⟩
 subst hu;obtain⟨s1,⟨s2,s3⟩,s4,s5,s6,s7,s8⟩:=ymh h.still
 have hap:∀b∈Bv,∀c∈Br,b.e≠c.e/\b.i≠c.i:=fun b hb c hc=>by
  have:=List.all_eq_true.1 (List.all_eq_true.1 h.apart b hb) c hc;simp only[zA,zU]at this;exact⟨fun e=>(by rw[e,zB]at this;exact absurd this.1 (by decide)),fun e=>(by rw[e,zB]at this;exact absurd this.2 (by decide))⟩
 let σ:Nat->Nat:=fun i=>if (Bv.map (·.i)).elem i then ρ1 i else ρ2 i
 have hcross:∀b∈Bv,∀c∈Br,ρ1 b.i≠ρ2 c.i:=fun b hb c hc e=>by
  have e1:=a2 b hb;have e2:=a4 c hc;rw[e,e2]at e1
  injection e1 with e1
  unfold BlkL.blk at e1
  injection e1 with _ _ e3 _
  exact(hap b hb c hc).1 e3.symm
 have hG:∀i b,G i=some b->i<m.next:=fun i b hb=>hwf i b (hle i b hb)
 have sv:∀b∈Bv,σ b.i=ρ1 b.i:=fun b hb=>if_pos (by simpa using⟨b,hb,rfl⟩)
 have sr:∀b∈Br,σ b.i=ρ2 b.i:=fun b hb=>by
  refine if_neg fun q=>?_;have:b.i∈Bv.map (·.i):=by simpa using q
  obtain⟨d,hd,hdi⟩:=List.mem_map.1 this;exact(hap d hd b hb).2 hdi
 have tgtLt:∀b∈fv.pre,σ b.i<m.next:=fun b hb=>by
  rcases h.pre b hb with q|q
  .rw[sv b q];exact hG _ _ (a2 b q)
  .rw[sr b q];exact hG _ _ (a4 b q)
 have sinj:∀b∈fv.pre,∀c∈fv.pre,σ b.i=σ c.i->b.i=c.i:=fun b hb c hc e=>by
  rcases h.pre b hb with q|q<;>rcases h.pre c hc with q'|q'
  .rw[sv b q,sv c q']at e;exact a1 b q c q' e
  .rw[sv b q,sr c q']at e;exact absurd e (hcross b q c q')
  .rw[sr b q,sv c q']at e;exact absurd e.symm (hcross c q' b q)
  .rw[sr b q,sr c q']at e;exact a3 b q c q' e
 obtain⟨tgt,htgt⟩:∃t,fv.pre.map (fun b=>σ b.i)=t:=⟨_,rfl⟩
 have tlt:∀t∈tgt,t<m.next:=fun t ht=>by
  rw[<-htgt]at ht;obtain⟨b,hb,rfl⟩:=List.mem_map.1 ht;exact tgtLt b hb
 have tnd:tgt.Nodup:=by
  rw[<-htgt];have s5:=s5;unfold List.Nodup at s5 ⊢;rw[zV]at s5 ⊢;exact List.Pairwise.imp_of_mem (fun {x y} hx hy h e=>h (sinj x hx y hy e)) s5
 have tlen:fv.pre.length=tgt.length:=by rw[<-htgt,zG]
 have hmv:=yvb (n0:=m.next) hok h.still tlen tnd tlt
 have hrho:=ycae (n0:=m.next) s4 s5 tlen
 obtain⟨ρ,hρ⟩:∃ρ,fv.rho tgt m.next=ρ:=⟨_,rfl⟩
 rw[hρ,<-htgt]at hrho;have hri:∀b∈fv.pre,ρ b.i=σ b.i:=List.map_inj_left.1 hrho;have hv1:∀b∈Bv,ρ b.i=ρ1 b.i:=fun b hb=>by rw[hri b (h.bv b hb),sv b hb]
 have hr1:∀b∈Br,ρ b.i=ρ2 b.i:=fun b hb=>by rw[hri b (h.br b hb),sr b hb]
 have hargs:(fv.move tgt m.next).args=[.agg #[.string p.name,ren1 ρ1 vv,ren1 ρ2 vr]]:=by
  show fv.args.map (ren2 (fv.rho tgt m.next))=_
  rw[hρ,h.args,<-yit hv1 h.iv,<-yit hr1 h.ir];rfl
 have hself:eqL2 [.agg #[.string p.name,ren1 ρ1 vv,ren1 ρ2 vr]] [.agg #[.string p.name,ren1 ρ1 vv,ren1 ρ2 vr]]=true:=by
  have hf:ykz (.agg #[.string p.name,vv,vr])=true:=by
   have:=s2;rw[h.args]at this
   simpa using this
  have e:=ycbf (ρ:=ρ) hf h.refl;rw[show ren2 ρ (.agg #[.string p.name,vv,vr]) = .agg #[.string p.name,ren1 ρ vv,ren1 ρ vr]from rfl,yit hv1 h.iv,yit hr1 h.ir]at e
  show(eq2 _ _&&true)=true;rw[e];rfl
 have hpre:∀b∈fv.pre,m.b.get (ρ b.i)=some (b.ren ρ).blk:=fun b hb=>by
  rcases h.pre b hb with q|q
  .rw[yban h.cv hv1 q,hv1 b q];exact hle _ _ (a2 b q)
  .rw[yban h.cr hr1 q,hr1 b q];exact hle _ _ (a4 b q)
 have hp:(fv.move tgt m.next).pre=fv.pre.map (BlkL.ren ρ):=by rw[<-hρ];rfl
 have hfit:(fv.move tgt m.next).fits fv.g [.agg #[.string p.name,ren1 ρ1 vv,ren1 ρ2 vr]] m=true:=by
  unfold Fact.fits;rw[hargs,hself];show(zD fv.g fv.g&&zD m.next m.next&&true&&(fv.move tgt m.next).pre.all (blkIs m))=true
  rw[zB,zB,hp];show List.all _ _=true;refine List.all_eq_true.2 fun b' hb'=>?_;obtain⟨b,hb,rfl⟩:=List.mem_map.1 hb';have h2:=(s4 b hb).2;refine yop ?_ (ysu h2) ?_
  .rw[b.ygh];exact hpre b hb
  .show zM (b.l.map _).length 1000000=true;rw[zG];unfold reflB at h2;rw[zA]at h2;exact h2.2
 have hs:=yzm hmv hfit;unfold Fact.out at hs
 have hv:(fv.move tgt m.next).v = .bool true:=by
  show renV (fv.rho tgt m.next) fv.v=_
  rw[h.v];rfl
 have hpost:(fv.move tgt m.next).post=[]:=by
  show fv.post.map _=[];rw[h.post];rfl
 rw[hv,hpost]at hs;refine⟨_,_,_,hs,zAR _,?_,rfl,.b⟩;intro i b hb;show(dropT m.b m.next (fv.move tgt m.next).pre).get i=some b
 rw[yvg fun c hc=>?_]
 .exact hb
 .rw[hp]at hc;obtain⟨c,hc',rfl⟩:=List.mem_map.1 hc;rw[c.ygh,hri c hc'];exact tgtLt c hc'
end Sh
end
section
namespace Sh
open Go Ev
def KqP:ProgT:=ybt (by8 [99,111,108,111,117,114,105,110,103]) (by8 [99]) (by8 [102,105,120])
def Kqt:ByteArray:=ybjm
def Kqv:Value:=.slice (some ⟨228,0,none⟩) 1 CU
def Kqr:Value:=.slice (some ⟨321,0,none⟩) 1 CU
def KqB:List BlkL:=ysb.post.take 1
def KqC:List BlkL:=ysb.post.drop 1
theorem ybnk:Returns zC 11 [.a (.string Kqt)] (.ag (yfb (Lies KqB Kqv) (Lies KqC Kqr) KqP.raw)) :=
 ycdm (fp:=ysb) (ycy.at_ yblk 0 rfl) ⟨rfl,rfl,rfl,by kernel_rfl,fun _ h=>zZ h,fun _ h=>zAA h,by kernel_rfl,by kernel_rfl⟩
theorem ydon:ybke.pre=ysb.post:=rfl
theorem ycdr:Returns zC 130 [.ag (yfb (Lies KqB Kqv) (Lies KqC Kqr) KqP.raw)] (.b true) :=
 ycio (fv:=ybke) (ycy.at_ yblf 0 rfl) ⟨rfl,fun b h=>by
  rw[ydon,<-List.take_append_drop 1 ysb.post]at h;exact List.mem_append.1 h,fun _ h=>zZ h,fun _ h=>zAA h,rfl,rfl,by kernel_rfl,by kernel_rfl,by kernel_rfl,by kernel_rfl,by kernel_rfl,by kernel_rfl,by kernel_rfl⟩
theorem ydrs:KqP.ok=true:=by kernel_rfl
end Sh
end
section
open Go.RowKit
theorem ydhj(x a:Nat)(hx:x<4294967296)(hx0:x≠0)(hlow:x&&&(4294967296-x)=a) :
 bits BinOp.and IntKind.u32 (x:Int) (-(x:Int)%4294967296)*125613361%4294967296/134217728=((a*125613361%4294967296/134217728:Nat):Int):=by
 have e1:-(x:Int)%4294967296=((4294967296-x:Nat):Int):=by omega
 have e2:bits BinOp.and IntKind.u32 (x:Int) ((4294967296-x:Nat):Int)=((x&&&(4294967296-x):Nat):Int):=u32_and (a:=x) (b:=4294967296-x) (by omega) (by omega)
 rw[e1,e2,hlow];omega
set_option maxHeartbeats 1000000 in
theorem ycye (x k idx:Nat) (w:World) (hx0:((x:Int)==0)=false) (key:bits BinOp.and IntKind.u32 (x:Int) (-(x:Int)%4294967296)*125613361%4294967296/134217728=(idx:Int))
 (hi:idx<32) (hk:k<32) (hcell:w.cell? ⟨0,idx,none⟩=some (.int .u8 k)) :
 Calls zC 173 #[.int .u32 x] w fun e w'=>e = .returned (.int .i64 k)/\w'=w:=by
 go_enter zAL,zAH
 go_wp2_with (simp only[key])
 go_ret
 exact⟨rfl,rfl⟩
theorem yczo(w:World):Calls zC 173 #[.int .u32 0] w fun e w'=>e = .returned (.int .i64 32)/\w'=w:=by
 go_enter zAL,zAH
 go_wp2
 go_ret
 exact⟨rfl,rfl⟩
theorem ydpv{w:World}{x:Nat}(hx:x<2^32)(hw:∃e fz,w.heap[0]?=some (.cells Ev.ybbn.toArray e fz)) :
 Calls zC 173 #[.int .u32 x] w fun e w'=>e = .returned (.int .i64 (Lib.ctz 32 x))/\w'=w:=by
 by_cases hx0:x=0
 .subst hx0;exact yczo w
 .obtain⟨hlow,hk⟩:=Lib.lowest_bit 32 x hx0 hx;obtain⟨hi,htab⟩:=Lib.deBruijn32_at _ hk;obtain⟨e,fz,hw⟩:=hw;refine ycye x _ _ w (by simp;omega) (ydhj x _ hx hx0 hlow) hi hk ?_
  have keyN:∀j,j<32->([0,1,28,2,29,14,24,3,30,22,20,15,25,17,4,8,31,27,13,23,21,19,16,7,26,12,18,6,11,5,10,9]:List Int)[j]?=some ((Lib.deBruijn32tab.getD j 0:Nat):Int):=by decide +kernel
  have key:∀j,j<32->Ev.ybbn[j]?=some (.int .u8 (Lib.deBruijn32tab.getD j 0:Nat)):=fun j hj=>by
   unfold Ev.ybbn;rw[zAD,keyN j hj];rfl
  rw[World.cell?,hw];have:=key _ hi;rw[htab]at this
  simpa using this
namespace Sh
open Ev
end Sh
end
section
namespace Ev
open Go Go.RowKit
theorem ybjr(v:Value):(T.sets .leaf 0 [v]).get 0=some v:=ybyi (l:=[v]) (j:=0) (by simp)
noncomputable def ywi(x:Nat):ABlk:=.cells (T.sets .leaf 0 [.int .u32 x]) 1 77 0
def setAt(b x:Nat)(m:Mem):Prop:=∃c,m.b.get b=some (.cells c 1 77 0)/\c.get 0=some (.int .u32 x)
section
variable {φ:Phi}{M:AM}{w:World}{m:Mem}{b x y:Nat}
theorem yym(h:setAt b x m)(hR:Rel φ M w)(hs:Sub m M):∃l cs,φ b=some l/\l.sz=0/\l.base+1<=l.size/\l.ob=none/\w.heap[l.blk]?=some (.cells cs 77 (0,0))/\cs.size=l.size/\cs[l.base]?=some (.int .u32 x):=by
 obtain⟨c,h1,h2⟩:=h;obtain⟨l,cs,e',fz,g1,g2,g3,g4,g5,g6,g7⟩:=hR.cellsAt (hs _ _ h1);obtain⟨q1,q2,q3⟩:=g4 (by decide)
 subst q1 q2;obtain⟨v',k1,k2⟩:=g7 0 _ (by omega) h2
 have e:=k2.eq_simple rfl;subst e;exact⟨l,cs.toArray,g1,g2,g3,q3,g5,by simpa using g6,by simpa using k1⟩
theorem ydcp(h:setAt b x m)(hR:Rel φ M w)(hs:Sub m M){l:Loc}(hl:φ b=some l) :
 Rel φ (upd M b (some (ywi y))) (w.setCell ⟨l.blk,l.base,none⟩ (.int .u32 y))/\WG φ M w φ (upd M b (some (ywi y))) (w.setCell ⟨l.blk,l.base,none⟩ (.int .u32 y)):=by
 obtain⟨l',cs,g1,g2,g3,g4,g5,g6,g7⟩:=yym h hR hs;rw[hl]at g1;cases g1
 obtain⟨c,h1,_⟩:=h;rw[setCell_eq_setRow w l.blk l.base cs _ _ _ g5];refine hR.setRow (hs _ _ h1) hl ⟨g2,g3,(cs.setIfInBounds l.base (.int .u32 y)).toList,77,(0,0),⟨fun _=>⟨rfl,rfl,g4⟩,fun o ho=>(by rw[g4]at ho;cases ho)⟩,?_,by simpa using g6,fun j v hj hv=>?_⟩
 .rw[Array.toArray_toList];exact setRow_heap w _ _ _ _ _ g5
 .obtain rfl:j=0:=by omega
  rw[ybjr]at hv;cases hv
  refine⟨.int .u32 y,?_,.simple rfl⟩;have hlt:l.base<cs.size:=by omega
  simp[hlt]
end
noncomputable def yqe(b y:Nat)(m:Mem):Mem:=m.app (.upd b (ywi y))
theorem ybog(b y:Nat)(m:Mem)(i:Nat):(yqe b y m).b.get i=if i=b then some (ywi y)else m.b.get i:=by
 unfold yqe;rw[Sh.yxp];exact T.set_at _ _ _ _
noncomputable def ycrl(b s:Nat):It where
 n:=(ybs s).length
 el:=fun k=>[.int .i64 ((ybs s).getD k 0:Nat)]
 pre:=fun k m=>setAt b (ydm s k) m
 adv:=fun k m=>yqe b (ydm s (k+1)) m
 step:=fun k φ M w M' w'=>∃l,φ b=some l/\M'=upd M b (some (ywi (ydm s (k+1))))/\w'=w.setCell ⟨l.blk,l.base,none⟩ (.int .u32 (ydm s (k+1):Nat))
theorem ydep{a:Nat}(h0:a≠0)(h:a<2^32):bits BinOp.and IntKind.u32 (a:Int) (IntKind.wrap .u32 ((a:Int)-1))=((a&&&(a-1):Nat):Int):=by
 have e:IntKind.wrap .u32 ((a:Int)-1)=((a-1:Nat):Int):=by
  have e1:(a:Int)-1=((a-1:Nat):Int):=by omega
  rw[e1];exact ykt (by omega)
 rw[e];exact u32_and (a:=a) (b:=a-1) h (by omega)
set_option maxRecDepth 100000 in
set_option maxHeartbeats 2000000 in
theorem ycfg{b s:Nat}(hs32:s<2^32):ItOk zC 172 [.pointer (some ⟨b,0,none⟩)] (ycrl b s):=by
 refine⟨fun args w=>ybv yra zAM rfl args w,fun k m hk hw hp=>?_,?_,?_⟩
 .obtain⟨c,h1,_⟩:=hp;have hb:=hw _ _ h1;show Grow m (yqe b _ m);unfold yqe
  exact⟨ybtf hw (fun i hi=>by
   have hi:i∈[b]:=hi;rw[List.mem_singleton.1 hi];exact⟨_,h1⟩),(yuc m _).1⟩
 .rintro k φ M w m M' w' hk hw hR hs hp ⟨l,hl,rfl,rfl⟩;obtain⟨r1,r2⟩:=ydcp (y:=ydm s (k+1)) hp hR hs hl;obtain⟨c,h1,_⟩:=hp;refine⟨φ.le_refl,fun _ _=>rfl,r1,fun i x hx=>?_,fun i hi hn=>?_,r2⟩
  .have hx:(yqe b (ydm s (k+1)) m).b.get i=some x:=hx;rw[ybog]at hx;show(if i=b then _ else _)=_
   split at hx
   .rename_i q;rw[if_pos q];exact hx
   .rename_i q;rw[if_neg q];exact hs _ _ hx
  .show(if i=b then _ else _)=_
   rw[if_neg fun q=>?_];subst q;rcases hn with hn|hn
   .rw[h1]at hn;cases hn
   .have hn:i<(yqe i (ydm s (k+1)) m).low:=hn;unfold yqe at hn;rw[Sh.yxp]at hn;have hn:i<Nat.min m.low i:=hn;exact absurd hn (Nat.not_lt.2 (Nat.min_le_right m.low i))
 .intro l St Stop φ M w cap' hread hgrow hyield h0 hcap;obtain⟨box,rfl,hbox⟩:=yfs hcap;obtain⟨lc,hlc,_,rfl⟩:=hbox.ptr_inv;obtain⟨N,hN⟩:∃N,(ybs s).length=N:=⟨_,rfl⟩;have Hread:=zH hread;have Hgrow:=zH hgrow;have Hyield:=zH hyield;have H0:=zH h0;have Hlc:=zH hlc
  have cellOf:Hid (∀k φ' M' W,St k φ' M' W->φ.le φ'/\W.cell? ⟨lc.blk,lc.base,none⟩=some (.int .u32 (ydm s k:Nat))/\W.frozen? ⟨lc.blk,lc.base,none⟩=false/\(∃e fz,W.heap[0]?=some (.cells ybbn.toArray e fz))/\lc.blk<W.heap.size):=zH fun k φ' M' W hst=>by
   obtain⟨hle,m,hR,hsu,hpre⟩:=hread k φ' M' W hst;obtain⟨l',cs,g1,g2,g3,g4,g5,g6,g7⟩:=yym hpre hR hsu;rw[hle _ _ hlc]at g1;cases g1
   exact⟨hle,by simp[World.cell?,g5,g7],by simp[World.frozen?,g5],(hR.gl _ rfl).1,(Array.getElem?_eq_some_iff.1 g5).1⟩
  clear hread hgrow hyield h0 hbox hlc hcap
  refine callsIn_of_wp zAM rfl trivial ?_
  simp only[Tryz.ntmps172,List.size_toArray,List.length_cons,List.length_nil,zAI,Nat.reduceSub,Array.replicate_succ,
   Array.replicate_zero,List.push_toArray,List.append_toArray,List.nil_append,List.cons_append]
  gi_wp2
  gi_loopg [] N (fun q wr=>∃k:Nat,q+k=N/\Hid (∃φ' M',φ.le φ'/\St k φ' M' wr))
  case atStart=>exact⟨0,by omega,zH ⟨φ,M,φ.le_refl,H0.out⟩⟩
  case round =>
   obtain⟨k,hq,hst⟩:=hrel;obtain⟨φ1,M1,hle1,hst1⟩:=hst.out;obtain⟨_,hc1,hf1,hg1,hb1⟩:=cellOf.out _ _ _ _ hst1
   by_cases hlt:k<N
   .obtain⟨h0,hz⟩:=yddb hs32 (k:=k) (by omega)
    have hx32:=yoc hs32 k;have key:=ydep h0 hx32;have hrs:ydm s (k+1)=ydm s k&&&(ydm s k-1):=rfl;obtain⟨x,hx⟩:∃x,ydm s k=x:=⟨_,rfl⟩;obtain⟨y,hy⟩:∃y,ydm s (k+1)=y:=⟨_,rfl⟩;rw[hx]at hc1 h0 hz hx32 key hrs;rw[hy]at hrs;rw[<-hrs]at key;have hne:((x:Int)!=0)=true:=by rw[bne_iff_ne];omega
    have htz:=ydpv (w:=wr) (x:=x) hx32 hg1;rw[hz]at htz;obtain⟨v,hv⟩:∃v,(ybs s).getD k 0=v:=⟨_,rfl⟩
    obtain⟨fn,tmps,assign,body,hy',hRd⟩:=Hyield.out k φ1 M1 wr [.int .i64 (v:Nat)] (by show k<(ybs s).length;omega) hst1 (by
     show VRL φ1 [.int .i64 ((ybs s).getD k 0:Nat)] _;rw[hv];exact .cons (.simple rfl) .nil)
    rw[hv]at htz;have hyl:(Instr.yield l #[.int .i64 (v:Int)]).run zC wr = .ok (.round l fn tmps assign body) wr:=hy';have Hst1:=zH hst1;have Hle1:=zH hle1;have Hy:=zH hy;have Hx:=zH hx
    clear hst hst1 hle1 hy' hg1 hz hrs hx hy
    gi_wp2
    refine⟨trivial,callsIn_wide.2 (htz.mono ?_)⟩;rintro e w' ⟨rfl,rfl⟩
    gi_wp2
    refine hRd.mono ?_;rintro e W3 (⟨rfl,φ3,M3,hle3,⟨m3,hR3,hS3,hp3⟩,hst3⟩|⟨rfl,hstop⟩)
    .obtain⟨l',cs,g1,g2,g3,g4,g5,g6,g7⟩:=yym hp3 hR3 hS3;rw[hle3 _ _ (Hle1.out _ _ Hlc.out)]at g1;cases g1
     have hc3:W3.cell? ⟨lc.blk,lc.base,none⟩=some (.int .u32 (x:Nat)):=by
      have hxe:ydm s k=x:=Hx.out;simp[World.cell?,g5,g7,hxe]
     have hf3:W3.frozen? ⟨lc.blk,lc.base,none⟩=false:=by simp[World.frozen?,g5]
     have Hst3:=zH (hst3 _ _ ⟨lc,hle3 _ _ (Hle1.out _ _ Hlc.out),rfl,rfl⟩);have Hle3:=zH hle3
     clear hst3 hle3 hRd hyl hR3 hS3 hp3 g2 g3 g4 g5 g6 g7
     gi_wp2
     gi_roundg (gk-1)
     case measure=>omega
     case rel =>
      have hthis:=Hst3.out;rw[Hy.out]at hthis;refine⟨k+1,by omega,zH ⟨φ3,upd M3 b (some (ywi y)),Phi.le_trans Hle1.out Hle3.out,?_⟩⟩
      clear Hread Hgrow Hyield H0 cellOf Hst3
      have e1:IntKind.wrap .u32 ((x:Int)-1)=(x:Int)-1:=by
       have e:(x:Int)-1=((x-1:Nat):Int):=by omega
       rw[e];exact ykt (by omega)
      rw[e1]at key;rw[key];exact hthis
    .have Hstop:=zH hstop
     clear hstop hRd hyl
     gi_wp2
     refine bodyPost_ret (results_none rfl _ _ _) rfl ?_;exact⟨⟨_,rfl⟩,.inr Hstop.out⟩
   .have hk:k=N:=by omega
    have h0:ydm s k=0:=(rest_end hs32 (by omega)).2 (by omega)
    rw[h0]at hc1;have Hst1:=zH hst1;have Hle1:=zH hle1
    clear hst hst1 hle1 hg1
    gi_wp2
    go_end0
    exact⟨⟨_,rfl⟩,.inl ⟨φ1,M1,by
     have:=Hst1.out;rw[hk,<-hN]at this;exact this⟩⟩
end Ev
end
section
namespace Sh
open Ev Go.RowKit
def setO(x:Nat):OB:=⟨77,true,1,1,fun _=>[.i .u32 x]⟩
def ybdl(b s:Nat):ItS:=⟨(ybs s).length,fun k=>[.i .i64 ((ybs s).getD k 0:Nat)],[(b,0)],fun k o=>lookO o (b,0)=some (setO (ydm s k)),fun k o=>(SS.own ⟨[],o⟩ (b,0) (some (setO (ydm s (k+1))))).o⟩
theorem ybaq{b s:Nat}(hs:s<2^32):ItC zC 172 [.pt (b,0) 0 0] (ybdl b s):=by
 intro lo F ω st f m us hc hr hown;obtain⟨u,rfl,hu⟩:=rvl1 hr;obtain⟨k,z,hk,rfl⟩:=hu.pt_inv;have hown0:lookO st.o (b,0)=some (setO (ydm s 0)):=hown;obtain⟨hz,_⟩:=hc.ownAt hown0 hk (.inl (show(1:Nat)≠0 by decide))
 have hz:z=1:=hz;subst hz;refine⟨ycrl k s,ycfg hs,rfl,fun F' ω' s' f' m' j hF hω hc' hj hown'=>?_⟩;have hk':=hω (b,0) zN _ hk;have hown':lookO s'.o (b,0)=some (setO (ydm s j)):=hown';obtain⟨_,Tb,L,g1,g2⟩:=hc'.ownAt hown' hk' (.inl (show(1:Nat)≠0 by decide))
 obtain⟨g3,g4,_,g5⟩:=g2 0 (by show 0<1;omega)
 refine⟨?_,fun hlt=>⟨.cons .i .nil,?_⟩⟩
 .refine⟨Tb,g1,?_⟩;have h0:=g5 0 (by show 0<1;omega)
  have g4:RVL F' ω' [.i .u32 (ydm s j:Nat)] (L 0):=g4;obtain⟨v,e,hv⟩:=rvl1 g4;rw[e,hv.int_inv]at h0;exact h0
 .exact hc'.upd (b:=setO (ydm s (j+1))) ⟨_,hown'⟩ hk' (show 77≠CU by decide) (Tb:=T.sets .leaf 0 [.int .u32 (ydm s (j+1):Nat)]) (L:=fun _=>[.int .u32 (ydm s (j+1):Nat)]) fun i hi=>by
   have hi:i<1:=hi;obtain rfl:i=0:=by omega
   refine⟨rfl,.cons .i .nil,rfl,fun q hq=>?_⟩;have hq:q<1:=hq;obtain rfl:q=0:=by omega
   exact ybjr _
theorem ybis{s:Nat}:Cm zC 129 [] [] [.i .u32 s] fun r o=>r = .fn 172 [] [.pt (1,0) 0 0]/\o=[(1,.one (some (setO s)))]:=by
 refine ycfp [] [] _ _ _ ?_;simp only[c129,ycnq,ycww,clash,yfu,go_sem,Nat.reduceEqDiff,zAI,zAN,↓reduceIte,reduceCtorEq];refine⟨.fn 172 [] [.pt (1,0) 0 0],[(1,.one (some (setO s)))],?_,?_,rfl,rfl⟩
 .refine yh [] [] [] ?_;simp only[setO,allQ,live,yc,go_sem,zAN,↓reduceIte,reduceCtorEq]
 .simp only[setO,ybu,ydj,allQ,live,go_sem,↓reduceIte]
theorem yblv{s v:Nat}(hs:s<2^24)(h:v∈ybs s):v<24/\s.testBit v=true:=by
 have hb:=(ytw.1 h).2;refine⟨zAJ fun q=>?_,hb⟩;rw[Nat.testBit_lt_two_pow (zAC hs (Nat.pow_le_pow_right (by omega) (by omega)))]at hb
 cases hb
theorem getD_mem{l:List Nat}{k:Nat}(h:k<l.length):l.getD k 0∈l:=by rw[getD_at h];exact zAE h
end Sh
end
section
namespace Sh
open Go Ev
end Sh
end
section
structure LdC(g:Gr)(c:Conf):Prop where
 len:c.length=g.ids.length
 row:∀v,v<g.ids.length->(c.getD v []).length=3/\(0<=(c.getD v []).getD 0 0/\(c.getD v []).getD 0 0<=ybmh g)/\(0<=(c.getD v []).getD 1 0/\(c.getD v []).getD 1 0<g.ids.length)/\(-1<=(c.getD v []).getD 2 0/\(c.getD v []).getD 2 0<(g.ports.getD v []).length)
section
variable {nm nl nd np no nj:ByteArray}{g:Gr}{c:Conf}{v:Nat}
end
end
section
section
variable {nm nl nd np no nj:ByteArray}{g:Gr}{c:Conf}{v:Nat}
end
end
section
section
variable {nm nl nd np no nj:ByteArray}{g:Gr}{c:Conf}{v:Nat}
theorem key_eq{a b x y n:Int}(hx:0<=x/\x<n)(hy:0<=y/\y<n):a*n+x=b*n+y↔a=b/\x=y:=by
 constructor
 .intro h;have h1:(a*n+x)/n=a:=by rw[zAO,zX _ _ (by omega),zY hx.1 hx.2,zAP]
  have h2:(b*n+y)/n=b:=by rw[zAO,zX _ _ (by omega),zY hy.1 hy.2,zAP]
  have h3:a=b:=by rw[<-h1,<-h2,h]
  subst h3;exact⟨rfl,by omega⟩
 .rintro⟨rfl,rfl⟩;rfl
end
end
section
namespace Sh
open Ev Go.RowKit
end Sh
end
section
namespace Sh
open Ev Go.RowKit
end Sh
end
section
theorem ybjo(ls:List (Int×Int))(u:Nat):(netP ls).testBit u=true↔∃l∈ls,l.1.toNat=u:=by
 have key:∀(ls:List (Int×Int)) (a:Nat),(ls.foldl (fun a l=>a|||2^l.1.toNat) a).testBit u=true↔a.testBit u=true\/∃l∈ls,l.1.toNat=u:=by
  intro ls
  induction ls with
  |nil=>exact fun a=>⟨.inl,fun h=>h.resolve_right fun⟨_,h,_⟩=>nomatch h⟩
  | cons x ls ih =>
    intro a;rw[List.foldl_cons,ih,ydmy];constructor
    .rintro((h|h)|⟨l,hl,e⟩)
     .exact .inl h
     .exact .inr ⟨x,zN,h.symm⟩
     .exact .inr ⟨l,zQ _ hl,e⟩
    .rintro(h|⟨l,hl,e⟩)
     .exact .inl (.inl h)
     .rcases List.mem_cons.1 hl with r|r
      .exact .inl (.inr (by rw[<-e,r]))
      .exact .inr ⟨l,r,e⟩
 unfold netP;rw[key];simp
def netG(g:Gr)(v:Nat):Nat:=netP (g.ports.getD v [])
theorem ybjb{g:Gr}(hg:ybg g){u v:Nat}(h:(netG g v).testBit u=true):adj g v u:=by
 obtain⟨l,hl,e⟩:=(ybjo _ _).1 h
 by_cases hv:v<g.ports.length
 .rw[<-e];exact(ypm hg hv hl).2.2.1
 .rw[zL,zO (by omega)]at hl
  cases hl
theorem ydai{g:Gr}(hg:ybg g)(v:Nat):netG g v<2^24:=by
 have:=hg.2.1;refine Nat.lt_pow_two_of_testBit _ fun i hi=>?_;cases h:(netG g v).testBit i with
 |false=>rfl
 |true=>have:=(hg.adj_lt (ybjb hg h)).2;omega
theorem ybgl(g:Gr)(v:Nat):(g.ports.map netP).getD v 0=netG g v:=by
 unfold netG
 by_cases hv:v<g.ports.length
 .rw[Sh.getD_at (by rw[zG];exact hv),List.getElem_map,Sh.getD_at hv]
 .rw[zL,zO (by rw[zG];omega),zL,zO (by omega)]
  rfl
namespace Sh
open Ev Go.RowKit
end Sh
end
section
namespace Sh
open Ev Go.RowKit
theorem ybwh:Returns zC 23 [] (.a (.string Kqt)):=by
 refine Returns.of (ydsc _ _ ?_);simp only[c23,ydmb,ydqx,go_sem,↓reduceIte];exact Sim.refl _
theorem ybgc{g:Gr}(hI:GrI g)(hg:ybg g):Returns zC 24 [grV g] (.ag (ycnb 2 false true 1 (g.ids.length:Nat))):=by
 have h:=ybqb hI;unfold ybge at h;rw[if_pos ((yha g).2 hg)]at h;exact h
end Sh
end
end Go.Proofs.YthclbjjgfcgbgaaGreatDoor
