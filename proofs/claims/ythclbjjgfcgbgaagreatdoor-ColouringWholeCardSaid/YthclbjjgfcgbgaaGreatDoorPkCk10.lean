/- Joined. -/
import Derived.Test.YthclbjjgfcgbgaaGreatDoorPkCk8
import Derived.Lib.Bytealg
set_option linter.unusedSimpArgs false
set_option linter.unusedVariables false
set_option maxRecDepth 1000000
open Go.Proofs.Tryz renaming prog->zA,func118->zU
open Bool renaming and_eq_true->zB,cond_eq_ite->zH,false_eq_true->zK
open Nat renaming le_of_ble_eq_true->zC,lt_of_lt_of_le->zF,lt_succ_self->zI,le_refl->zJ,eq_of_beq_eq_true->zN,ble_eq_true_of_le->zO,blt->zQ,ble->zW,add->zX,sub->zY,beq->zZ
open Go.Lib renaming indexByte->zD,hid->zV
open List renaming mem_of_getElem?->zG,getElem?_map->zL,length_map->zM,all_cons->zS
open Classical renaming byContradiction->zT
open Go
namespace Go.Proofs.YthclbjjgfcgbgaaGreatDoor
section
namespace Ev
open Go Go.RowKit
theorem yne(c:UInt8):∀(l:List UInt8) (k:Nat),(match findByte c l k with|some i=>Int.ofNat i|none=>-1)=(if zD l c == -1 then -1 else zD l c+(k:Int))
 |[],k=>by simp[findByte,zD]
 | x :: l,k=>by
   unfold findByte zD
   by_cases hx:x=c
   .subst hx;simp
   .have h1:zZ x.toNat c.toNat=false:=by
     rw[Bool.eq_false_iff];intro h;exact hx (UInt8.toNat_inj.1 (zN h))
    have h2:(x==c)=false:=by simpa using hx
    rw[h1,h2];have ih:=yne c l (k+1);simp only[zH,zK,if_false];rw[ih];have:=Lib.indexByte_ge l c
    by_cases hm:zD l c = -1
    .simp[hm]
    .have hm':(zD l c == -1)=false:=by simpa using hm
     rw[hm'];simp only[zK,if_false];rw[if_neg (by simp;omega)]
     push_cast;omega
theorem yqb(args:List Value)(m:Mem)(out:Out)(h:evIndexByte m args=some out):yby zA (.call 245 args m) out:=by
 unfold evIndexByte at h;split at h
 .rename_i s c
  have hf:=yne c.toUInt8 s.data.toList 0
  have key:∀n:Int,n=zD s.data.toList c.toUInt8->yby zA (.call 245 [.string s,.int .u8 (.ofNat c)] m) (.call (.int .i64 n) (enterM m)):=by
   intro n hn hw;refine⟨⟨zJ _,fun i b hb=>.inl ⟨b,hb⟩,fun i b _ _ hb=>hb,hw⟩,fun φ M w args' hR hs hv _=>.inr ⟨.int .i64 n,w,?_,?_⟩⟩
   .have e:args'=[.string s,.int .u8 (.ofNat c)]:=by
     cases hv with
     | cons h1 h2 =>
       cases h2 with
       | cons h3 h4 =>
         cases h4
         rw[h1.eq_simple rfl,h3.eq_simple rfl]
    subst e;rw[run_callFunc_extern Tryz.func245 (by kernel_rfl) (by kernel_rfl) (by kernel_rfl) (by kernel_rfl),Lib.run_indexByteString,hn]
    rfl
   .exact⟨_,rfl,φ,M,⟨φ.le_refl,fun _ _=>rfl,hR,hs,fun _ _ _=>rfl,WG.refl _ _ _⟩,.simple rfl⟩
  have h0:(if zD s.data.toList c.toUInt8 == -1 then -1 else zD s.data.toList c.toUInt8+((0:Nat):Int))=zD s.data.toList c.toUInt8:=by
   by_cases hm:zD s.data.toList c.toUInt8 = -1
   .simp[hm]
   .simp[hm]
  rw[h0]at hf;split at h
  .rename_i i hi
   rw[hi]at hf;simp only[ybp]at h;cases h
   exact key _ hf
  .rename_i hi
   rw[hi]at hf;cases h
   exact key _ hf
 .cases h
end Ev
end
section
open Go.RowKit
theorem yze(w:World):Calls zA 154 #[.nilIface] w fun e w'=>e = .returned (.tuple #[.agg #[.int .i64 0,.int .i64 0],.bool false])/\Below w.heap.size w w':=by
 go_enter Tryz.func154,Tryz.ntmps154
 go_wp2
 refine⟨rfl,.tuple #[.agg #[.int .i64 0,.int .i64 0],.bool false],?_,rfl,?_⟩
 .simp[results,Tryz.results154,go_sem]
 .exact(Below.refl _ _).alloc (zJ _) _
theorem catch_idle(p q:Addr)(w:World) :
 CallsD zA 153 #[.pointer (some p),.pointer (some q)] .returning w fun e u' w'=>e = .returned (.tuple #[])/\u' = .returning/\Below w.heap.size w w':=by
 refine callsD_of_wpS Tryz.func153 rfl fun c₀ cs hu=>?_;apply wpS_seq;apply wpS_region;simp[wpOpsS,go_sem,recoverD,hu,Tryz.ntmps153,Exit.thenS];refine(yze w).mono ?_;rintro e w1 ⟨rfl,hb⟩;simp[go_sem];apply wpS_seq;apply wpS_region;simp[wpOpsS,go_sem,Exit.thenS];refine wpS_cond (t:=false) (by simp[Act.eval,Array.replicate]) ?_
 simp only[zK,if_false];refine wpS_of_wp (wp_skip ?_);refine⟨rfl,.returning,by cases c₀;simp_all,.tuple #[],by simp[results,Tryz.results153],rfl,rfl,hb.alloc hb.size _⟩
def yfm(w:World):World:=(w.alloc (.cells #[.int .i64 0] 3)).alloc (.cells #[.int .i64 0] 42)
theorem ycdj(w:World):(yfm w).heap[w.heap.size]?=some (.cells #[.int .i64 0] 3):=by
 unfold yfm;rw[Below.heap_alloc _ _ _ (by simp[go_sem])]
 exact heap_alloc_new w _
theorem ycen(w:World):(yfm w).heap[w.heap.size+1]?=some (.cells #[.int .i64 0] 42):=by
 have:=heap_alloc_new (w.alloc (.cells #[.int .i64 0] 3)) (.cells #[.int .i64 0] 42);rw[show(w.alloc (.cells #[.int .i64 0] 3)).heap.size=w.heap.size+1 by simp[go_sem]]at this
 exact this
theorem ybfy (h:FuncId) (first cap:Array Value) (w:World) (Q:World->Prop)
 (hq:∀w',Q w'->w'.heap[w.heap.size]?=(yfm w).heap[w.heap.size]?/\w'.heap[w.heap.size+1]?=(yfm w).heap[w.heap.size+1]?)
 (hc:((callFunc h (first++cap)).run zA (yfm w) = .ok (.enter h (first++cap)) (yfm w)/\Calls zA h (first++cap) (yfm w) fun e w'=>(∃v,e = .returned v)/\Q w') \/
   (∃v w',(callFunc h (first++cap)).run zA (yfm w) = .ok (.value v) w'/\Q w')) :
 Calls zA 118 #[.func (.func h) first cap] w fun e w''=>e = .returned (.tuple #[.int .i64 0,.int .i64 0]) /\
  ∃w',Q w'/\Below w'.heap.size ((w'.setCell ⟨w.heap.size,0,none⟩ (.int .i64 0)).setCell ⟨w.heap.size+1,0,none⟩ (.int .i64 0)) w'':=by
 have hmf:∀(fn:Fn) (first cap:Array Value) (w:World),(Instr.makeFunc fn first cap).run zA w = .ok (.func fn first cap) w:=fun _ _ _ _=>rfl
 have Hq:=zV hq;clear hq
 have Hc:=zV hc;clear hc
 go_enter_defers zU,Tryz.ntmps118
 generalize hC:(Code.seq (Code.region 2 _ false) _)=C
 generalize hB:(bodyPostD _ _ _)=B
 go_wp2
 subst hC hB;refine wp_seq (wp_region_list ?_);refine wpList_plain rfl fun K hK=>?_;simp[Oper.wp,go_sem];apply hK;refine wpList_plain rfl fun K2 hK2=>?_;simp[Oper.wp,go_sem]
 have key:∀v w',Q w'->K2 { tmps:=#[.func (.func h) first cap,undef,.pointer (some ⟨w.heap.size,0,none⟩),.pointer (some ⟨w.heap.size+1,0,none⟩),.func (.func 153) #[] #[.pointer (some ⟨w.heap.size,0,none⟩),.pointer (some ⟨w.heap.size+1,0,none⟩)],.func (.func h) first cap,v],defers:=[{ target:=.fn (.func 153) #[.pointer (some ⟨w.heap.size,0,none⟩),.pointer (some ⟨w.heap.size+1,0,none⟩)],args:=#[] }] } w':=by
  intro v w' hQ;apply hK2;refine wpList_nil ?_;obtain⟨h1,h2⟩:=Hq.out w' hQ;have h1:w'.heap[w.heap.size]?=some (.cells #[.int .i64 0] 3):=h1.trans (ycdj w);have h2:w'.heap[w.heap.size+1]?=some (.cells #[.int .i64 0] 42):=h2.trans (ycen w);have c1:w'.cell? ⟨w.heap.size,0,none⟩=some (.int .i64 0):=by simp[World.cell?,h1]
  have c2:w'.cell? ⟨w.heap.size+1,0,none⟩=some (.int .i64 0):=by simp[World.cell?,h2]
  have z1:w'.frozen? ⟨w.heap.size,0,none⟩=false:=by simp[World.frozen?,h1]
  have z2:w'.frozen? ⟨w.heap.size+1,0,none⟩=false:=by simp[World.frozen?,h2]
  have l1:=(Array.getElem?_eq_some_iff.1 h1).1;have l2:=(Array.getElem?_eq_some_iff.1 h2).1;have HQ:=zV hQ;clear hQ
  clear h1 h2
  simp only[Exit.then]
  go_wp2
  refine leaves_cons (f:=153) (args:=#[.pointer (some ⟨w.heap.size,0,none⟩),.pointer (some ⟨w.heap.size+1,0,none⟩)]) (by simp) (by simp[go_sem]) ?_
  refine(catch_idle ⟨w.heap.size,0,none⟩ ⟨w.heap.size+1,0,none⟩ _).mono ?_;rintro e u' w'' ⟨rfl,rfl,hb⟩;have hsz:((w'.setCell ⟨w.heap.size,0,none⟩ (.int .i64 0)).setCell ⟨w.heap.size+1,0,none⟩ (.int .i64 0)).heap.size=w'.heap.size:=by simp[go_sem]
  rw[hsz]at hb
  have d1:w''.cell? ⟨w.heap.size,0,none⟩=some (.int .i64 0):=by
   rw[hb.cell l1];simp[go_sem,c1]
  have d2:w''.cell? ⟨w.heap.size+1,0,none⟩=some (.int .i64 0):=by
   rw[hb.cell l2];simp[go_sem,c2]
  simp[Leaves,settle,results,Tryz.results118,go_sem,d1,d2];exact⟨w',HQ.out,hb⟩
 have hcc:=RowKit.Hid.out Hc
 clear Hc hmf Hq hK
 revert key
 generalize K2=K
 intro key;rw[show((w.alloc (Obj.cells #[Value.int IntKind.i64 0] 3)).alloc (Obj.cells #[Value.int IntKind.i64 0] 42))=yfm w from rfl]
 generalize Sem.run zA (callFunc h (first++cap)) (yfm w)=r at hcc ⊢
 rcases hcc with⟨rfl,hc⟩|⟨v,w',rfl,hc⟩
 .rw[Oper.upon_enter];refine hc.mono ?_;rintro e w' ⟨⟨v,rfl⟩,hQ⟩;exact key v w' hQ
 .exact key v w' hc
end
section
namespace Ev
open Go Go.RowKit
theorem ytk(w:World)(k:Nat)(hk:k<w.heap.size):(yfm w).heap[k]?=w.heap[k]?:=by
 unfold yfm;rw[Below.heap_alloc _ _ _ (by simp[go_sem];omega),Below.heap_alloc _ _ _ hk]
theorem yew(w:World):(yfm w).heap.size=w.heap.size+2:=by simp[yfm,go_sem]
theorem ybjf(self:Task->Option Out)(hself:yel zA self)(args:List Value)(m:Mem)(out:Out)(h:evCatch self m args=some out):yby zA (.call 118 args m) out:=by
 unfold evCatch at h;split at h
 .rename_i g first captured
  obtain⟨o,ho,h2⟩:=yg h;cases o with
  |code=>cases h2
  | call v m1 =>
    cases h2
    have hs:=hself _ _ ho;intro hw;obtain⟨hext,hall⟩:=hs hw;refine⟨hext,fun φ M w args' hR hsub hv hfresh=>.inl ⟨ybv yra zU rfl _ _,?_⟩⟩;obtain⟨u,rfl,hu⟩:=yfs hv;obtain⟨x',y',rfl,hf1,hf2⟩:=hu.func_inv;have hR2:Rel φ M (yfm w):=hR.keep fun k hk=>ytk w k hk
    have himg:∀k,w.heap.size<=k->¬Img φ M k:=by
     rintro k hk ⟨i,b,l,h1,h2,h3⟩;obtain⟨l',h4,h5⟩:=hR.blk i b h1;rw[h2]at h4;cases h4
     have:=h5.lt;omega
    have hcall:=hall φ M (yfm w) (x'++y') hR2 hsub (hf1.append hf2) hfresh;rw[show(x'++y').toArray=x'.toArray++y'.toArray by simp]at hcall
    refine(ybfy g x'.toArray y'.toArray w (fun w'=>∃e,ydrh φ M (yfm w) m v m1 e w') ?_ ?_).mono ?_
    .rintro w' ⟨e,v',rfl,φ',M',hgood,hvr⟩;exact⟨hgood.wg.keep _ (by rw[yew];omega) (himg _ (zJ _)),hgood.wg.keep _ (by rw[yew];omega) (himg _ (by omega))⟩
    .rcases hcall with⟨h1,h2⟩|⟨v',w',h1,h2⟩
     .refine .inl ⟨h1,h2.mono ?_⟩;intro e w' hk;have hk':=hk;obtain⟨v',rfl,_⟩:=hk;exact⟨⟨_,rfl⟩,_,hk'⟩
     .exact .inr ⟨v',w',h1,_,h2⟩
    .rintro e w'' ⟨rfl,w',⟨e,v',rfl,φ',M',hgood,hvr⟩,hb⟩;have hsz:w.heap.size+2<=w'.heap.size:=by rw[<-yew];exact hgood.wg.size
     have hheap:∀k,k<w'.heap.size->k≠w.heap.size->k≠w.heap.size+1->w''.heap[k]?=w'.heap[k]?:=fun k hk h1 h2=>by
      rw[hb.block k hk,Below.heap_setCell _ _ _ _ h2,Below.heap_setCell _ _ _ _ h1]
     have hne:∀k,Img φ' M' k->k≠w.heap.size/\k≠w.heap.size+1:=fun k hi=>by
      refine⟨?_,?_⟩
      .rintro rfl;exact himg _ (zJ _) (hgood.wg.img _ (by rw[yew];omega) hi)
      .rintro rfl;exact himg _ (by omega) (hgood.wg.img _ (by rw[yew];omega) hi)
     have hb2:w'.heap.size<=w''.heap.size:=by
      have:=hb.size
      simpa[go_sem]using this
     refine⟨_,rfl,φ',M',⟨hgood.le,hgood.out,⟨⟨fun i b h1=>?_,hgood.rel.inj⟩,fun x hx=>⟨?_,(hgood.rel.gl x hx).2⟩⟩,hgood.sub,hgood.frame,⟨hb.os.trans hgood.wg.os,hb.tape.trans hgood.wg.tape,hb.output.trans hgood.wg.output,by omega,fun k hk hi=>?_,fun k hk hi=>hgood.wg.img k (by rw[yew];omega) hi⟩⟩,?_⟩
     .obtain⟨l,h2,h3⟩:=hgood.rel.blk i b h1;have hn:=hne l.blk ⟨i,b,l,h1,h2,rfl⟩;exact⟨l,h2,h3.keep (hheap _ h3.lt hn.1 hn.2)⟩
     .obtain⟨e,fz,q⟩:=(hgood.rel.gl x hx).1;obtain⟨e0,fz0,q0⟩:=(hR.gl x hx).1;have hlt:=(Array.getElem?_eq_some_iff.1 q0).1;exact⟨e,fz,(hheap _ (by omega) (by omega) (by omega)).trans q⟩
     .rw[hheap k (by omega) (by omega) (by omega),hgood.wg.keep k (by rw[yew];omega) hi,ytk w k hk]
     .exact .tuple (.cons (.simple rfl) (.cons (.simple rfl) .nil))
 .cases h
end Ev
end
section
namespace Ev
open Go Go.RowKit
def hkC(cs:List Chunk):Hooks:=⟨some 118,some 245,some 175,symB,cs,none⟩
def hk(fs:List Fact):Hooks:=hkC [⟨1000000000000,fs⟩]
def ycy(fs:List Fact):Prop:=∀f∈fs,yfp zA f
def ygc(cs:List Chunk):Prop:=∀c∈cs,ycy c.l
theorem ydpg{cs:List Chunk}(h:ygc cs):HooksOk zA (hkC cs) :=
 ⟨fun g h=>(by cases h;exact ybjf),fun g h=>(by cases h;exact yqb),fun g h=>(by cases h;exact ybsk),h,fun g h=>(by cases h)⟩
theorem ygc.nil:ygc []:=fun c hc=>by cases hc
theorem ygc.cons{n:Nat}{l:List Fact}{cs:List Chunk}(h:ycy l)(t:ygc cs):ygc (⟨n,l⟩::cs):=fun c hc=>by
 rcases List.mem_cons.1 hc with rfl|hc
 .exact h
 .exact t c hc
theorem ydup{fs:List Fact}(h:ycy fs):HooksOk zA (hk fs):=ydpg (ygc.cons h ygc.nil)
theorem ycy.nil:ycy []:=fun f hf=>by cases hf
theorem ycy.cons{f:Fact}{l:List Fact}(h:yfp zA f)(t:ycy l):ycy (f::l):=fun x hx=>by
 rcases List.mem_cons.1 hx with rfl|hx
 .exact h
 .exact t x hx
theorem ycy.at_{f:Fact}{l:List Fact}(h:ycy l)(i:Nat)(e:l[i]?=some f):yfp zA f:=h f (zG e)
noncomputable def checkSeq(new:List Fact):List Fact->Bool:=List.rec (fun _=>true) (fun f _ ih fs=>f.check zA (hk fs)&&ih (f::fs)) new
theorem ycy.seq:∀{new fs:List Fact},ycy fs->checkSeq new fs=true->ycy new
 |[],_,_,_=>ycy.nil
 | f :: l,fs,h,hc=>by
   have hc:(f.check zA (hk fs)&&checkSeq l (f::fs))=true:=hc;rw[zB]at hc;have hf:yfp zA f:=ybaw (yxm mix yra (ydup h) 3000) hc.1
   have hfs:ycy (f::fs):=fun x hx=>by
    rcases List.mem_cons.1 hx with rfl|hx
    .exact hf
    .exact h x hx
   have hl:=ycy.seq hfs hc.2;intro x hx;rcases List.mem_cons.1 hx with rfl|hx
   .exact hf
   .exact hl x hx
def by8(l:List Nat):ByteArray:=⟨(l.map Nat.toUInt8).toArray⟩
end Ev
end
section
namespace Ev
noncomputable section defs
def renA(ρ:Nat->Nat)(a:Addr):Addr:=forceN (ρ a.block) fun b=>⟨b,a.off,a.spot⟩
def ren1(ρ:Nat->Nat):Value->Value
 |.pointer (some a)=>.pointer (some (renA ρ a))
 |.slice (some a) n c=>.slice (some (renA ρ a)) n c
 |v=>v
def ren2(ρ:Nat->Nat):Value->Value
 |.agg a=>.agg (a.toList.map (ren1 ρ)).toArray
 |.func g a c=>.func g (a.toList.map (ren1 ρ)).toArray (c.toList.map (ren1 ρ)).toArray
 |v=>ren1 ρ v
def renV(ρ:Nat->Nat):Value->Value
 |.tuple a=>.tuple (a.toList.map (ren2 ρ)).toArray
 |v=>ren2 ρ v
def yrb:Value->Bool
 |.pointer (some a)=>a.spot.isNone
 |.slice (some a) _ _=>a.spot.isNone
 |v=>simple v
def ykz:Value->Bool
 |.agg a=>a.toList.all yrb
 |.func (.func _) a c=>a.toList.all yrb&&c.toList.all yrb
 |v=>yrb v
def ybvx:Value->Bool
 |.tuple a=>a.toList.all ykz
 |v=>ykz v
def yyz:List BlkL->List Nat->Nat->Nat->Nat
 |b::l,t::k,d,i=>bif zZ b.i i then t else yyz l k d i
 |_,_,d,_=>d
def Fact.rho(f:Fact)(tgt:List Nat)(n0:Nat)(i:Nat):Nat :=
 bif zW f.next0 i&&zQ i f.next1 then zX (zY i f.next0) n0 else yyz f.pre tgt (zX n0 (zY f.next1 f.next0)) i
def BlkL.ren(ρ:Nat->Nat)(b:BlkL):BlkL:=⟨forceN (ρ b.i) fun i=>i,b.e,b.z,b.l.map (ren2 ρ)⟩
def Fact.move(f:Fact)(tgt:List Nat)(n0:Nat):Fact :=
 ⟨f.g,f.args.map (ren2 (f.rho tgt n0)),n0,f.pre.map (BlkL.ren (f.rho tgt n0)),renV (f.rho tgt n0) f.v,zX n0 (zY f.next1 f.next0),f.post.map (BlkL.ren (f.rho tgt n0)),n0⟩
def Fact.after(f:Fact):Mem:=⟨f.next1,blksT f.mem.b f.post,f.next0⟩
def yhc:List Nat->Bool
 |[]=>true
 |x::l=>!(l.elem x)&&yhc l
def Fact.moves(f:Fact)(tgt:List Nat)(n0:Nat):Bool :=
 zW f.next0 f.low&&f.args.all ykz&&ybvx f.v&&f.pre.all (fun b=>zQ b.i f.next0&&b.l.all ykz)&&f.post.all (fun b=>zQ b.i f.next1&&b.l.all ykz) &&
  yhc ((f.move tgt n0).pre.map (·.i))&&(f.move tgt n0).pre.all (fun b=>zQ b.i n0&&blkIs (f.move tgt n0).mem b)&&(f.move tgt n0).post.all (blkIs (f.move tgt n0).after)&&zW f.next0 f.next1
end defs
section
variable {φ φ2:Phi}{ρ:Nat->Nat}
theorem yjv(a:Addr):renA ρ a=⟨ρ a.block,a.off,a.spot⟩:=by unfold renA;rw[ybp]
theorem BlkL.ygh(b:BlkL):(b.ren ρ).i=ρ b.i:=by show forceN (ρ b.i) (fun i=>i)=_;rw[ybp]
theorem vr1(hφ:∀b,φ b=φ2 (ρ b)){v v':Value}(hf:yrb v=true):VR φ v v'↔VR φ2 (ren1 ρ v) v':=by
 unfold yrb at hf;split at hf
 .rename_i a
  obtain⟨b,o,s⟩:=a;have hs:s=none:=by simpa using hf
  subst hs;show VR φ _ _↔VR φ2 (.pointer (some (renA ρ ⟨b,o,none⟩))) v';rw[yjv];constructor
  .intro h;cases h with
   |simple q=>cases q
   |ptr h=>rw[hφ]at h;exact VR.ptr h
  .intro h;cases h with
   |simple q=>cases q
   |ptr h=>rw[<-hφ]at h;exact VR.ptr h
 .rename_i a n c
  obtain⟨b,o,s⟩:=a;have hs:s=none:=by simpa using hf
  subst hs;show VR φ _ _↔VR φ2 (.slice (some (renA ρ ⟨b,o,none⟩)) n c) v';rw[yjv];constructor
  .intro h;cases h with
   |simple q=>cases q
   |slice h h1 h2 h3 h4=>rw[hφ]at h;exact VR.slice h h1 h2 h3 h4
  .intro h;cases h with
   |simple q=>cases q
   |slice h h1 h2 h3 h4=>rw[<-hφ]at h;exact VR.slice h h1 h2 h3 h4
 .rename_i h1 h2
  have hr:ren1 ρ v=v:=by
   unfold ren1;split
   .rename_i a;exact absurd rfl (h1 a)
   .rename_i a n c;exact absurd rfl (h2 a n c)
   .rfl
  rw[hr];constructor
  .intro h;rw[h.eq_simple hf];exact VR.simple hf
  .intro h;rw[h.eq_simple hf];exact VR.simple hf
theorem vrl1(hφ:∀b,φ b=φ2 (ρ b)):∀{l l':List Value},l.all yrb=true->(VRL φ l l'↔VRL φ2 (l.map (ren1 ρ)) l')
 | [],l',_=>by
   constructor
   .intro h;cases h;exact VRL.nil
   .intro h;cases h;exact VRL.nil
 | v :: l,l',hf=>by
   simp only[zS,zB]at hf;constructor
   .intro h;cases h with
    |cons h1 h2=>exact VRL.cons ((vr1 hφ hf.1).1 h1) ((vrl1 hφ hf.2).1 h2)
   .intro h;cases h with
    |cons h1 h2=>exact VRL.cons ((vr1 hφ hf.1).2 h1) ((vrl1 hφ hf.2).2 h2)
theorem vr2(hφ:∀b,φ b=φ2 (ρ b)){v v':Value}(hf:ykz v=true):VR φ v v'↔VR φ2 (ren2 ρ v) v':=by
 unfold ykz at hf;split at hf
 .rename_i a
  obtain⟨a⟩:=a;show VR φ (.agg a.toArray) _↔VR φ2 (.agg (a.map (ren1 ρ)).toArray) v';constructor
  .intro h;cases h with
   |simple q=>cases q
   |agg h=>exact VR.agg ((vrl1 hφ hf).1 h)
  .intro h;cases h with
   |simple q=>cases q
   |agg h=>exact VR.agg ((vrl1 hφ hf).2 h)
 .rename_i g a c
  obtain⟨a⟩:=a;obtain⟨c⟩:=c;simp only[zB]at hf;show VR φ (.func (.func g) a.toArray c.toArray) _↔VR φ2 (.func (.func g) (a.map (ren1 ρ)).toArray (c.map (ren1 ρ)).toArray) v';constructor
  .intro h;cases h with
   |simple q=>cases q
   |func h k=>exact VR.func ((vrl1 hφ hf.1).1 h) ((vrl1 hφ hf.2).1 k)
  .intro h;cases h with
   |simple q=>cases q
   |func h k=>exact VR.func ((vrl1 hφ hf.1).2 h) ((vrl1 hφ hf.2).2 k)
 .rename_i h1 h2
  have hr:ren2 ρ v=ren1 ρ v:=by
   unfold ren2;split
   .rename_i a;exact absurd rfl (h1 a)
   .rename_i g a c
    cases hf
   .rfl
  rw[hr];exact vr1 hφ hf
theorem vrl2(hφ:∀b,φ b=φ2 (ρ b)):∀{l l':List Value},l.all ykz=true->(VRL φ l l'↔VRL φ2 (l.map (ren2 ρ)) l')
 | [],l',_=>by
   constructor
   .intro h;cases h;exact VRL.nil
   .intro h;cases h;exact VRL.nil
 | v :: l,l',hf=>by
   simp only[zS,zB]at hf;constructor
   .intro h;cases h with
    |cons h1 h2=>exact VRL.cons ((vr2 hφ hf.1).1 h1) ((vrl2 hφ hf.2).1 h2)
   .intro h;cases h with
    |cons h1 h2=>exact VRL.cons ((vr2 hφ hf.1).2 h1) ((vrl2 hφ hf.2).2 h2)
theorem vrV(hφ:∀b,φ b=φ2 (ρ b)){v v':Value}(hf:ybvx v=true)(h:VR φ v v'):VR φ2 (renV ρ v) v':=by
 unfold ybvx at hf;split at hf
 .rename_i a
  obtain⟨a⟩:=a;show VR φ2 (.tuple (a.map (ren2 ρ)).toArray) v';cases h with
  |simple q=>cases q
  |tuple h=>exact VR.tuple ((vrl2 hφ hf).1 h)
 .rename_i h1
  have hr:renV ρ v=ren2 ρ v:=by
   unfold renV;split
   .rename_i a;exact absurd rfl (h1 a)
   .rfl
  rw[hr];exact(vr2 hφ hf).1 h
theorem yxg{α:Type}{g:α->Nat}:∀{l:List α},yhc (l.map g)=true->∀a∈l,∀b∈l,g a=g b->a=b
 |[],_,a,ha,_,_,_=>by cases ha
 | x :: l,h,a,ha,b,hb,e=>by
   have h:(!(l.map g).elem (g x)&&yhc (l.map g))=true:=h;simp only[zB,Bool.not_eq_true']at h
   have hx:∀y∈l,g y≠g x:=fun y hy q=>by
    have:(l.map g).elem (g x)=true:=List.elem_eq_true_of_mem (List.mem_map.2 ⟨y,hy,q⟩);rw[this]at h;cases h.1
   rcases List.mem_cons.1 ha with ea|ha'
   .rcases List.mem_cons.1 hb with eb|hb'
    .rw[ea,eb]
    .exact absurd (by rw[<-e,ea]) (hx b hb')
   .rcases List.mem_cons.1 hb with eb|hb'
    .exact absurd (by rw[e,eb]) (hx a ha')
    .exact yxg h.2 a ha' b hb' e
theorem ybka:∀(l:List BlkL) (k:List Nat) (d i:Nat),yyz l k d i=d\/∃b∈l,b.i=i
 |[],_,_,_=>.inl rfl
 |_::_,[],_,_=>.inl rfl
 | b :: l,t::k,d,i=>by
   unfold yyz;rw[zH];split
   .rename_i h;exact .inr ⟨b,List.mem_cons_self,zN h⟩
   .rcases ybka l k d i with h|⟨c,h1,h2⟩
    .exact .inl h
    .exact .inr ⟨c,List.mem_cons_of_mem _ h1,h2⟩
end
theorem yna{P:Program}{f:Fact}{tgt:List Nat}{n0:Nat}(hok:yfp P f)(hc:f.moves tgt n0=true):yfp P (f.move tgt n0):=by
 obtain⟨m',hs,e1,e2,e3⟩:=hok;unfold Fact.moves at hc;simp only[zB]at hc;obtain⟨⟨⟨⟨⟨⟨⟨⟨c1,c2⟩,c3⟩,c4⟩,c5⟩,c6⟩,c7⟩,c8⟩,c9⟩:=hc;have c1:=zC c1;have c9:=zC c9;obtain⟨ρ,hρ⟩:∃ρ,f.rho tgt n0=ρ:=⟨_,rfl⟩;obtain⟨n1,hn1⟩:∃n1,n0+(f.next1-f.next0)=n1:=⟨_,rfl⟩
 have hmv:f.move tgt n0=⟨f.g,f.args.map (ren2 ρ),n0,f.pre.map (BlkL.ren ρ),renV ρ f.v,n1,f.post.map (BlkL.ren ρ),n0⟩:=by
  unfold Fact.move;rw[hρ,<-hn1];rfl
 rw[hmv]at c6 c7 c8 ⊢;simp only at c6 c7 c8
 have hpre:∀b∈f.pre,b.i<f.next0/\b.l.all ykz=true:=fun b hb=>by
  have:=List.all_eq_true.1 c4 b hb;simp only[zB]at this;exact⟨zF (zI _) (zC this.1),this.2⟩
 have hpostc:∀b∈f.post,b.i<f.next1/\b.l.all ykz=true:=fun b hb=>by
  have:=List.all_eq_true.1 c5 b hb;simp only[zB]at this;exact⟨zF (zI _) (zC this.1),this.2⟩
 have hinj:∀b∈f.pre,∀c∈f.pre,ρ b.i=ρ c.i->b=c:=by
  rw[List.map_map]at c6;intro b hb c hc he;exact yxg c6 b hb c hc (by show(b.ren ρ).i=(c.ren ρ).i;rw[b.ygh,c.ygh];exact he)
 have hp2:∀b∈f.pre,ρ b.i<n0/\blkIs (Fact.mem ⟨f.g,f.args.map (ren2 ρ),n0,f.pre.map (BlkL.ren ρ),renV ρ f.v,n1,f.post.map (BlkL.ren ρ),n0⟩) (b.ren ρ)=true:=fun b hb=>by
  have:=List.all_eq_true.1 c7 (b.ren ρ) (List.mem_map.2 ⟨b,hb,rfl⟩);simp only[zB]at this;have h1:=zF (zI _) (zC this.1);rw[b.ygh]at h1;exact⟨h1,this.2⟩
 have hfresh:∀i,f.next0<=i->i<f.next1->ρ i=i-f.next0+n0:=fun i h1 h2=>by
  rw[<-hρ];unfold Fact.rho;rw[zH,if_pos (by simp only[zB];exact⟨zO h1,zO h2⟩)]
  rfl
 have hold:∀i,¬(f.next0<=i/\i<f.next1)->ρ i=n1\/ρ i<n0:=fun i hi=>by
  have h1:ρ i=yyz f.pre tgt n1 i:=by
   rw[<-hρ,<-hn1];unfold Fact.rho;rw[zH,if_neg]
   .rfl
   .simp only[zB];exact fun q=>hi ⟨zC q.1,zF (zI _) (zC q.2)⟩
  rcases ybka f.pre tgt n1 i with h|⟨b,hb,rfl⟩
  .exact .inl (h1.trans h)
  .exact .inr (hp2 b hb).1
 have hle:n0<=n1:=by omega
 let f2:Fact:=⟨f.g,f.args.map (ren2 ρ),n0,f.pre.map (BlkL.ren ρ),renV ρ f.v,n1,f.post.map (BlkL.ren ρ),n0⟩
 have hget:∀i x,f.mem.b.get i=some x->∃b∈f.pre,b.i=i/\x=b.blk:=fun i x hx=>by
  rcases yiq hx with h|h
  .exact h
  .cases h
 have hget2:∀i x,f2.mem.b.get i=some x->∃b∈f.pre,ρ b.i=i/\x=(b.ren ρ).blk:=fun i x hx=>by
  rcases yiq hx with⟨b',hb',h1,h2⟩|h
  .obtain⟨b,hb,rfl⟩:=List.mem_map.1 hb';rw[b.ygh]at h1;exact⟨b,hb,h1,h2⟩
  .cases h
 have hpost:∀b∈f.post,f.next0<=b.i/\b.i<f.next1/\∃c,m'.b.get b.i=some (.cells c b.l.length b.e b.z)/\∀j v,j<b.l.length->(c.get j=some v↔b.l[j]?=some v):=fun b hb=>by
  obtain⟨c,k1,_,k2⟩:=yil (e3 b hb).2;exact⟨Nat.le_trans c1 (e3 b hb).1,(hpostc b hb).1,c,k1,k2⟩
 have hget3:∀i x,(blksT f2.mem.b f2.post).get i=some x->(∃b∈f.post,ρ b.i=i/\x=(b.ren ρ).blk)\/f2.mem.b.get i=some x:=fun i x hx=>by
  rcases yiq hx with⟨b',hb',h1,h2⟩|h
  .obtain⟨b,hb,rfl⟩:=List.mem_map.1 hb';rw[b.ygh]at h1;exact .inl ⟨b,hb,h1,h2⟩
  .exact .inr h
 have hpr:∀b∈f.post,n0<=ρ b.i/\ρ b.i<n1:=fun b hb=>by
  obtain⟨k1,k2,_⟩:=hpost b hb;rw[hfresh b.i k1 k2];omega
 have hwf1:Wf f.mem:=fun i x hx=>by
  obtain⟨b,hb,rfl,rfl⟩:=hget i x hx;exact(hpre b hb).1
 refine⟨f2.after,?_,rfl,zJ _,fun b hb=>?_⟩
 .intro hw;obtain⟨E,S⟩:=hs hwf1;refine⟨⟨hle,fun i x hx=>?_,fun i x hi hnf hx=>?_,fun i x hx=>?_⟩,fun φ2 M2 w args' hR hsub hv hfr=>?_⟩
  .rcases hget3 i x hx with⟨b,hb,rfl,rfl⟩|h
   .exact .inr (hpr b hb)
   .exact .inl ⟨x,h⟩
  .rcases hget3 i x hx with⟨b,hb,rfl,rfl⟩|h
   .exact absurd (hpr b hb) hnf
   .exact h
  .show i<n1;rcases hget3 i x hx with⟨b,hb,rfl,rfl⟩|h
   .exact(hpr b hb).2
   .exact zF (hw i x h) hle
  .have hfr:∀i,n0<=i->i<n1->φ2 i=none:=hfr
   let φ:Phi:=fun b=>φ2 (ρ b)
   let M:AM:=fun i=>f.mem.b.get i
   have hφ:∀b,φ b=φ2 (ρ b):=fun _=>rfl
   have hpm:∀b∈f.pre,∃c,M2 (ρ b.i)=some (.cells c b.l.length b.e b.z)/\∀j v,j<b.l.length->(c.get j=some v↔(b.l.map (ren2 ρ))[j]?=some v):=fun b hb=>by
    obtain⟨c,k1,_,k2⟩:=yil (hp2 b hb).2;rw[b.ygh]at k1;have el:(b.ren ρ).l.length=b.l.length:=zM ..;rw[el]at k1 k2;exact⟨c,hsub _ _ k1,k2⟩
   have hmapget:∀{l:List Value}{j:Nat}{v:Value},l[j]?=some v->(l.map (ren2 ρ))[j]?=some (ren2 ρ v):=fun h=>by rw[zL,h];rfl
   have hRel:Rel φ M w:=by
    refine⟨⟨fun i x hx=>?_,fun i j x y li lj hne hx hy hli hlj=>?_⟩,fun z hz=>⟨(hR.gl z hz).1,fun⟨i,x,l,a1,a2,a3⟩=>(hR.gl z hz).2 (by
     obtain⟨b,hb,rfl,rfl⟩:=hget i x a1;obtain⟨c,k1,_⟩:=hpm b hb;exact⟨_,_,l,k1,a2,a3⟩)⟩⟩
    .obtain⟨b,hb,rfl,rfl⟩:=hget i x hx;obtain⟨c,k1,k2⟩:=hpm b hb;obtain⟨l,r1,r2,r3,cs,qe,qf,q0,r4,r5,r6⟩:=hR.blk _ _ k1;refine⟨l,r1,r2,r3,cs,qe,qf,q0,r4,r5,fun j v hj hg=>?_⟩;have hv0:=ykh hg;obtain⟨v',s1,s2⟩:=r6 j _ hj ((k2 j _ hj).2 (hmapget hv0));exact⟨v',s1,(vr2 hφ (List.all_eq_true.1 (hpre b hb).2 v (zG hv0))).2 s2⟩
    .obtain⟨b,hb,rfl,rfl⟩:=hget i x hx;obtain⟨c,hc,rfl,rfl⟩:=hget j y hy;obtain⟨cb,k1,_⟩:=hpm b hb;obtain⟨cc,k2,_⟩:=hpm c hc;exact hR.inj _ _ _ _ li lj (fun q=>hne (by rw[hinj b hb c hc q])) k1 k2 hli hlj
   have hSub:Sub f.mem M:=fun i x hx=>hx
   have hFr:ygs φ f.mem.next m'.next:=fun i h1 h2=>by
    rw[e1]at h2;have h1:f.next0<=i:=h1;show φ2 (ρ i)=none;rw[hfresh i h1 h2];exact hfr _ (by omega) (by omega)
   refine(S φ M w args' hRel hSub ((vrl2 hφ c2).2 hv) hFr).mono ?_;rintro e w' ⟨v',rfl,φ',M',hgd,hvr⟩;have hout:∀i,¬(f.next0<=i/\i<f.next1)->φ' i=φ i:=fun i hi=>hgd.out i (by rw[e1];exact hi)
   have hframe:∀i,¬(f.next0<=i/\i<f.next1)->(f.mem.b.get i=none\/i<f.next0)->M' i=M i:=fun i hi hn =>
    hgd.frame i (by rw[e1];exact hi) (hn.imp id fun q=>by omega)
   let φ3:Phi:=fun j=>if n0<=j/\j<n1 then φ' (j-n0+f.next0)else φ2 j
   let M3:AM:=fun j=>if n0<=j/\j<n1 then f2.after.b.get j else M2 j
   have hφ3:∀b,φ' b=φ3 (ρ b):=fun b=>by
    by_cases hb:f.next0<=b/\b<f.next1
    .have hr:=hfresh b hb.1 hb.2;have:n0<=ρ b/\ρ b<n1:=by rw[hr];omega
     show φ' b=if n0<=ρ b/\ρ b<n1 then φ' (ρ b-n0+f.next0)else φ2 (ρ b)
     rw[if_pos this,hr];congr 1;omega
    .have:¬(n0<=ρ b/\ρ b<n1):=by rcases hold b hb with h|h<;>omega
     show φ' b=if n0<=ρ b/\ρ b<n1 then φ' (ρ b-n0+f.next0)else φ2 (ρ b)
     rw[if_neg this,hout b hb]
   have hle3:φ2.le φ3:=fun j l hj=>by
    have:¬(n0<=j/\j<n1):=fun q=>by rw[hfr j q.1 q.2]at hj;cases hj
    show(if n0<=j/\j<n1 then φ' (j-n0+f.next0)else φ2 j)=some l
    rw[if_neg this];exact hj
   have hout3:∀j,¬(n0<=j/\j<n1)->φ3 j=φ2 j:=fun j hj=>if_neg hj;have hM3o:∀j,¬(n0<=j/\j<n1)->M3 j=M2 j:=fun j hj=>if_neg hj;have hM3f:∀j,n0<=j/\j<n1->M3 j=f2.after.b.get j:=fun j hj=>if_pos hj
   have hnew:∀j x,n0<=j/\j<n1->M3 j=some x->∃b∈f.post,ρ b.i=j/\x=(b.ren ρ).blk:=fun j x hj hx=>by
    rw[hM3f j hj]at hx;rcases hget3 j x hx with h|h
    .exact h
    .obtain⟨b,hb,rfl,_⟩:=hget2 j x h;have:=(hp2 b hb).1;omega
   have hnewR:∀b∈f.post,∃l c,φ' b.i=some l/\M' b.i=some (.cells c b.l.length b.e b.z)/\BR φ3 l w' (b.ren ρ).blk/\¬l.blk<w.heap.size:=fun b hb=>by
    obtain⟨k1,k2,c,k3,k4⟩:=hpost b hb;have hM:=hgd.sub _ _ k3;obtain⟨l,r1,r2,r3,cs,qe,qf,q0,r4,r5,r6⟩:=hgd.rel.blk _ _ hM;have el:(b.ren ρ).l.length=b.l.length:=zM ..;refine⟨l,c,r1,hM,⟨r2,by rw[el];exact r3,cs,qe,qf,q0,r4,r5,fun j v hj hg=>?_⟩,fun hlt=>?_⟩
    .rw[el]at hj;have hg:=ykh hg;have hg':(b.l.map (ren2 ρ))[j]?=some v:=hg;rw[zL]at hg';cases hq:b.l[j]? with
     |none=>rw[hq]at hg';cases hg'
     | some u =>
       rw[hq]at hg';cases hg'
       obtain⟨v',s1,s2⟩:=r6 j u hj ((k4 j u hj).2 hq);exact⟨v',s1,(vr2 hφ3 (List.all_eq_true.1 (hpostc b hb).2 u (zG hq))).1 s2⟩
    .obtain⟨i,x,l',a1,a2,a3⟩:=hgd.wg.img l.blk hlt ⟨_,_,l,hM,r1,rfl⟩;obtain⟨p,hp,rfl,rfl⟩:=hget i x a1;have hpi:=(hpre p hp).1;have hnf:¬(f.next0<=p.i/\p.i<f.next1):=fun q=>by omega
     have hMp:=hframe p.i hnf (.inr hpi);exact hgd.rel.inj p.i b.i _ _ l' l (by omega) (hMp.trans a1) hM ((hout p.i hnf).trans a2) r1 a3
   have hoimg:∀j x l,¬(n0<=j/\j<n1)->M2 j=some x->φ2 j=some l->BR φ3 l w' x:=fun j x l hj hx hl=>by
    obtain⟨l0,q1,q2⟩:=hR.blk j x hx;rw[hl]at q1;cases q1
    by_cases him:Img φ M l.blk
    .obtain⟨i,y,l',a1,a2,a3⟩:=him;obtain⟨p,hp,rfl,rfl⟩:=hget i y a1;obtain⟨c,k1,k2⟩:=hpm p hp
     have hji:j=ρ p.i:=by
      apply zT;intro hne;exact hR.inj _ _ _ _ l l' hne hx k1 hl a2 a3.symm
     subst hji;rw[k1]at hx;cases hx
     have a2':φ2 (ρ p.i)=some l':=a2;rw[hl]at a2';cases a2'
     have hpi:=(hpre p hp).1;have hnf:¬(f.next0<=p.i/\p.i<f.next1):=fun q=>by omega
     have hMp:=(hframe p.i hnf (.inr hpi)).trans a1;obtain⟨l2,r1,r2,r3,cs,qe,qf,q0,r4,r5,r6⟩:=hgd.rel.blk _ _ hMp;rw[hout p.i hnf,a2]at r1;cases r1
     refine⟨r2,r3,cs,qe,qf,q0,r4,r5,fun j v hj' hg=>?_⟩;have hg:=(k2 j v hj').1 hg;rw[zL]at hg;cases hq:p.l[j]? with
     |none=>rw[hq]at hg;cases hg
     | some u =>
       rw[hq]at hg;cases hg
       have hlen:p.l.length<1000000:=by
        obtain⟨_,_,hl6,_⟩:=yil (hp2 p hp).2;have el:(p.ren ρ).l.length=p.l.length:=zM ..
        rwa [el]at hl6
       obtain⟨v',s1,s2⟩:=r6 j u hj' (by rw[ybyi (by omega)];exact hq)
       exact⟨v',s1,(vr2 hφ3 (List.all_eq_true.1 (hpre p hp).2 u (zG hq))).1 s2⟩
    .exact(q2.keep (hgd.wg.keep _ q2.lt him)).mono hle3
   have himg3:∀k,k<w.heap.size->Img φ3 M3 k->Img φ2 M2 k:=fun k hk hq=>by
    obtain⟨i,x,l,a1,a2,rfl⟩:=hq
    by_cases hi:n0<=i/\i<n1
    .obtain⟨b,hb,rfl,rfl⟩:=hnew i x hi a1;obtain⟨l',c,r1,_,_,r4⟩:=hnewR b hb;rw[<-hφ3,r1]at a2;cases a2
     exact absurd hk r4
    .rw[hM3o i hi]at a1;rw[hout3 i hi]at a2;exact⟨i,x,l,a1,a2,rfl⟩
   refine⟨v',rfl,φ3,M3,⟨hle3,hout3,⟨⟨fun j x hx=>?_,fun i j x y li lj hne hx hy hli hlj=>?_⟩,fun z hz=>⟨(hgd.rel.gl z hz).1,fun q=>(hR.gl z hz).2 (himg3 _ (Array.getElem?_eq_some_iff.1 (hR.gl z hz).1.choose_spec.choose_spec).1 q)⟩⟩,fun i x hx=>?_,fun i hi _=>hM3o i hi,⟨hgd.wg.os,hgd.wg.tape,hgd.wg.output,hgd.wg.size,fun k hk hn=>?_,fun k hk hq=>?_⟩⟩,vrV hφ3 c3 hvr⟩
   .by_cases hj:n0<=j/\j<n1
    .obtain⟨b,hb,rfl,rfl⟩:=hnew j x hj hx;obtain⟨l,c,r1,_,r3,_⟩:=hnewR b hb;exact⟨l,by rw[<-hφ3];exact r1,r3⟩
    .rw[hM3o j hj]at hx;obtain⟨l,q1,_⟩:=hR.blk j x hx;exact⟨l,by rw[hout3 j hj];exact q1,hoimg j x l hj hx q1⟩
   .by_cases hi:n0<=i/\i<n1
    .obtain⟨b,hb,rfl,rfl⟩:=hnew i x hi hx;obtain⟨l,c,r1,r2,_,r4⟩:=hnewR b hb;rw[<-hφ3,r1]at hli;cases hli
     by_cases hj:n0<=j/\j<n1
     .obtain⟨b',hb',rfl,rfl⟩:=hnew j y hj hy;obtain⟨l',c',s1,s2,_,_⟩:=hnewR b' hb';rw[<-hφ3,s1]at hlj;cases hlj
      exact hgd.rel.inj _ _ _ _ _ _ (fun q=>hne (by rw[q])) r2 s2 r1 s1
     .rw[hM3o j hj]at hy;rw[hout3 j hj]at hlj;obtain⟨l',q1,q2⟩:=hR.blk j y hy;rw[hlj]at q1;cases q1
      exact fun q=>r4 (by rw[q];exact q2.lt)
    .rw[hM3o i hi]at hx;rw[hout3 i hi]at hli
     by_cases hj:n0<=j/\j<n1
     .obtain⟨b',hb',rfl,rfl⟩:=hnew j y hj hy;obtain⟨l',c',s1,s2,_,s4⟩:=hnewR b' hb';rw[<-hφ3,s1]at hlj;cases hlj
      obtain⟨l0,q1,q2⟩:=hR.blk i x hx;rw[hli]at q1;cases q1
      exact fun q=>s4 (by rw[<-q];exact q2.lt)
     .rw[hM3o j hj]at hy;rw[hout3 j hj]at hlj;exact hR.inj i j x y li lj hne hx hy hli hlj
   .show M3 i=some x
    by_cases hi:n0<=i/\i<n1
    .rw[hM3f i hi];exact hx
    .rw[hM3o i hi];rcases hget3 i x hx with⟨b,hb,rfl,rfl⟩|h
     .exact absurd (hpr b hb) hi
     .exact hsub i x h
   .refine hgd.wg.keep k hk fun⟨i,x,l,a1,a2,a3⟩=>hn ?_;obtain⟨b,hb,rfl,rfl⟩:=hget i x a1;obtain⟨c,k1,_⟩:=hpm b hb;exact⟨_,_,l,k1,a2,a3⟩
   .exact himg3 k hk hq
 .obtain⟨b0,hb0,rfl⟩:=List.mem_map.1 hb;refine⟨?_,List.all_eq_true.1 c8 _ hb⟩;show n0<=(b0.ren ρ).i;rw[b0.ygh];exact(hpr b0 hb0).1
end Ev
end
section
namespace Ev
def Kqii(n:Int):Value:=.int .i64 n
def KqiL:List Int->List Value
 |[]=>[]
 |n::l=>.int .i64 n::KqiL l
def ybjm:ByteArray:=by8 [112,114,111,103,114,97,109,32,99,111,108,111,117,114,105,110,103,59,10,118,97,114,32,99,32,58,32,48,32,46,46,32,110,59,10,114,117,108,101,32,102,105,120,58,32,115,111,109,101,40,113,46,99,32,61,61,32,99,41,32,45,62,32,99,32,58,61,32,109,101,120,40,113,46,99,41,59,10]
def ydpw:List Value:=(KqiL [1,0,7,0,1,8,17,0,3,17,18,0,1,19,22,0,1,23,24,0,3,25,26,0,2,27,28,0,3,29,31,0,1,32,33,0,3,33,34,0,1,35,39,0,1,40,43,0,3,43,44,0,1,45,49,0,3,49,50,0,1,50,51,0,3,51,52,0,1,52,53,0,3,54,56,0,1,57,58,0,3,58,59,0,3,60,62,0,1,63,64,0,3,65,67,0,1,68,71,0,3,71,72,0,1,72,73,0,3,73,74,0,1,74,75,0,3,75,76,0,3,76,77,0])
def Kqb0:BlkL:=⟨274,251,2,(KqiL [21,0,35,0,12,0,5,0])⟩
def Kqb1:BlkL:=⟨310,251,2,(KqiL [27,0,12,0])⟩
def Kqb2:BlkL:=⟨317,203,2,[Kqii 0,.slice (some ⟨310,0,none⟩) 2 CU]⟩
end Ev
end
section
namespace Ev
def ydwo:List Fact:=[⟨119,[.pointer (some ⟨203,0,none⟩)],204,[⟨202,178,4,ydpw⟩,⟨203,144,0,[.string ybjm,.slice (some ⟨202,0,none⟩) 31 CU,.slice none 0 0,.string (by8 []),.slice none 0 0,.slice none 0 0,.slice none 0 0]⟩],.tuple #[],322,[⟨203,144,0,[.string ybjm,.slice (some ⟨202,124,none⟩) 0 CU,.slice (some ⟨226,0,none⟩) 1 CU,.string (by8 [99,111,108,111,117,114,105,110,103]),.slice (some ⟨228,0,none⟩) 1 CU,.slice (some ⟨321,0,none⟩) 1 CU,.slice (some ⟨235,0,none⟩) 1 CU]⟩,⟨226,9,1,[.string (by8 [99])]⟩,⟨228,160,6,[.string (by8 [99]),Kqii 1,Kqii 0,Kqii 0,Kqii 1,Kqii 0]⟩,⟨235,9,1,[.string (by8 [102,105,120])]⟩,Kqb0,Kqb1,Kqb2,⟨321,193,3,[.string (by8 [102,105,120]),.slice (some ⟨274,0,none⟩) 4 CU,.slice (some ⟨317,0,none⟩) 1 CU]⟩],203⟩]
theorem yceg:ycy ydwo:=ycy.seq ycy.nil (by kernel_rfl)
def ybke:Fact:=⟨130,[.agg #[.string (by8 [99,111,108,111,117,114,105,110,103]),.slice (some ⟨228,0,none⟩) 1 CU,.slice (some ⟨321,0,none⟩) 1 CU]],439,[⟨228,160,6,[.string (by8 [99]),Kqii 1,Kqii 0,Kqii 0,Kqii 1,Kqii 0]⟩,Kqb0,Kqb1,Kqb2,⟨321,193,3,[.string (by8 [102,105,120]),.slice (some ⟨274,0,none⟩) 4 CU,.slice (some ⟨317,0,none⟩) 1 CU]⟩],.bool true,556,[],439⟩
def ydvk:List Fact:=[ybke]
theorem yblf:ycy ydvk:=ycy.seq ycy.nil (by kernel_rfl)
end Ev
end
section
namespace Ev
def ysb:Fact:=⟨11,[.string ybjm],0,[],.agg #[.string (by8 [99,111,108,111,117,114,105,110,103]),.slice (some ⟨228,0,none⟩) 1 CU,.slice (some ⟨321,0,none⟩) 1 CU],439,[⟨228,160,6,[.string (by8 [99]),Kqii 1,Kqii 0,Kqii 0,Kqii 1,Kqii 0]⟩,Kqb0,Kqb1,Kqb2,⟨321,193,3,[.string (by8 [102,105,120]),.slice (some ⟨274,0,none⟩) 4 CU,.slice (some ⟨317,0,none⟩) 1 CU]⟩],0⟩
def ydwp:List Fact:=[ysb]
theorem yblk:ycy ydwp:=ycy.seq yceg (by kernel_rfl)
end Ev
end
section
namespace Ev
end Ev
end
end Go.Proofs.YthclbjjgfcgbgaaGreatDoor
