/- Joined. -/
import Derived.Test.YthclbjjgfcgbgaaGreatDoorPkCm8
import Derived.Lib.Bytealg
set_option linter.unusedSimpArgs false
set_option linter.unusedVariables false
set_option maxRecDepth 1000000
open Go.Proofs.Tryz renaming prog->zA,func118->zU
open Bool renaming and_eq_true->zB,cond_eq_ite->zH,false_eq_true->zK
open Nat renaming le_of_ble_eq_true->zC,lt_of_lt_of_le->zF,lt_succ_self->zI,le_refl->zJ,eq_of_beq_eq_true->zN,ble_eq_true_of_le->zO,blt->zQ,ble->zW,add->zX,sub->zY,beq->zZ
open Go.Lib renaming indexByte->zD,hid->zV
open List renaming mem_of_getElem?->zG,getElem?_map->zL,length_map->zM,all_cons->zS
open Classical renaming byContradiction->zT
open Go
namespace Go.Proofs.YthclbjjgfcgbgaaGreatDoor
section
namespace Ev
open Go Go.RowKit
theorem ynd(c:UInt8):∀(l:List UInt8) (k:Nat),(match findByte c l k with|some i=>Int.ofNat i|none=>-1)=(if zD l c == -1 then -1 else zD l c+(k:Int))
 |[],k=>by simp[findByte,zD]
 | x :: l,k=>by
   unfold findByte zD
   by_cases hx:x=c
   .subst hx;simp
   .have h1:zZ x.toNat c.toNat=false:=by
     rw[Bool.eq_false_iff];intro h;exact hx (UInt8.toNat_inj.1 (zN h))
    have h2:(x==c)=false:=by simpa using hx
    rw[h1,h2];have ih:=ynd c l (k+1);simp only[zH,zK,if_false];rw[ih];have:=Lib.indexByte_ge l c
    by_cases hm:zD l c = -1
    .simp[hm]
    .have hm':(zD l c == -1)=false:=by simpa using hm
     rw[hm'];simp only[zK,if_false];rw[if_neg (by simp;omega)]
     push_cast;omega
theorem yqy(args:List Value)(m:Mem)(out:Out)(h:evIndexByte m args=some out):ycb zA (.call 245 args m) out:=by
 unfold evIndexByte at h;split at h
 .rename_i s c
  have hf:=ynd c.toUInt8 s.data.toList 0
  have key:∀n:Int,n=zD s.data.toList c.toUInt8->ycb zA (.call 245 [.string s,.int .u8 (.ofNat c)] m) (.call (.int .i64 n) (enterM m)):=by
   intro n hn hw;refine⟨⟨zJ _,fun i b hb=>.inl ⟨b,hb⟩,fun i b _ _ hb=>hb,hw⟩,fun φ M w args' hR hs hv _=>.inr ⟨.int .i64 n,w,?_,?_⟩⟩
   .have e:args'=[.string s,.int .u8 (.ofNat c)]:=by
     cases hv with
     | cons h1 h2 =>
       cases h2 with
       | cons h3 h4 =>
         cases h4
         rw[h1.eq_simple rfl,h3.eq_simple rfl]
    subst e;rw[run_callFunc_extern Tryz.func245 (by kernel_rfl) (by kernel_rfl) (by kernel_rfl) (by kernel_rfl),Lib.run_indexByteString,hn]
    rfl
   .exact⟨_,rfl,φ,M,⟨φ.le_refl,fun _ _=>rfl,hR,hs,fun _ _ _=>rfl,WG.refl _ _ _⟩,.simple rfl⟩
  have h0:(if zD s.data.toList c.toUInt8 == -1 then -1 else zD s.data.toList c.toUInt8+((0:Nat):Int))=zD s.data.toList c.toUInt8:=by
   by_cases hm:zD s.data.toList c.toUInt8 = -1
   .simp[hm]
   .simp[hm]
  rw[h0]at hf;split at h
  .rename_i i hi
   rw[hi]at hf;simp only[ybp]at h;cases h
   exact key _ hf
  .rename_i hi
   rw[hi]at hf;cases h
   exact key _ hf
 .cases h
end Ev
end
section
open Go.RowKit
theorem yzk(w:World):Calls zA 154 #[.nilIface] w fun e w'=>e = .returned (.tuple #[.agg #[.int .i64 0,.int .i64 0],.bool false])/\Below w.heap.size w w':=by
 go_enter Tryz.func154,Tryz.ntmps154
 go_wp2
 refine⟨rfl,.tuple #[.agg #[.int .i64 0,.int .i64 0],.bool false],?_,rfl,?_⟩
 .simp[results,Tryz.results154,go_sem]
 .exact(Below.refl _ _).alloc (zJ _) _
theorem catch_idle(p q:Addr)(w:World) :
 CallsD zA 153 #[.pointer (some p),.pointer (some q)] .returning w fun e u' w'=>e = .returned (.tuple #[])/\u' = .returning/\Below w.heap.size w w':=by
 refine callsD_of_wpS Tryz.func153 rfl fun c₀ cs hu=>?_;apply wpS_seq;apply wpS_region;simp[wpOpsS,go_sem,recoverD,hu,Tryz.ntmps153,Exit.thenS];refine(yzk w).mono ?_;rintro e w1 ⟨rfl,hb⟩;simp[go_sem];apply wpS_seq;apply wpS_region;simp[wpOpsS,go_sem,Exit.thenS];refine wpS_cond (t:=false) (by simp[Act.eval,Array.replicate]) ?_
 simp only[zK,if_false];refine wpS_of_wp (wp_skip ?_);refine⟨rfl,.returning,by cases c₀;simp_all,.tuple #[],by simp[results,Tryz.results153],rfl,rfl,hb.alloc hb.size _⟩
def yfy(w:World):World:=(w.alloc (.cells #[.int .i64 0] 3)).alloc (.cells #[.int .i64 0] 42)
theorem ycju(w:World):(yfy w).heap[w.heap.size]?=some (.cells #[.int .i64 0] 3):=by
 unfold yfy;rw[Below.heap_alloc _ _ _ (by simp[go_sem])]
 exact heap_alloc_new w _
theorem ycfz(w:World):(yfy w).heap[w.heap.size+1]?=some (.cells #[.int .i64 0] 42):=by
 have:=heap_alloc_new (w.alloc (.cells #[.int .i64 0] 3)) (.cells #[.int .i64 0] 42);rw[show(w.alloc (.cells #[.int .i64 0] 3)).heap.size=w.heap.size+1 by simp[go_sem]]at this
 exact this
theorem ybjp (h:FuncId) (first cap:Array Value) (w:World) (Q:World->Prop)
 (hq:∀w',Q w'->w'.heap[w.heap.size]?=(yfy w).heap[w.heap.size]?/\w'.heap[w.heap.size+1]?=(yfy w).heap[w.heap.size+1]?)
 (hc:((callFunc h (first++cap)).run zA (yfy w) = .ok (.enter h (first++cap)) (yfy w)/\Calls zA h (first++cap) (yfy w) fun e w'=>(∃v,e = .returned v)/\Q w') \/
   (∃v w',(callFunc h (first++cap)).run zA (yfy w) = .ok (.value v) w'/\Q w')) :
 Calls zA 118 #[.func (.func h) first cap] w fun e w''=>e = .returned (.tuple #[.int .i64 0,.int .i64 0]) /\
  ∃w',Q w'/\Below w'.heap.size ((w'.setCell ⟨w.heap.size,0,none⟩ (.int .i64 0)).setCell ⟨w.heap.size+1,0,none⟩ (.int .i64 0)) w'':=by
 have hmf:∀(fn:Fn) (first cap:Array Value) (w:World),(Instr.makeFunc fn first cap).run zA w = .ok (.func fn first cap) w:=fun _ _ _ _=>rfl
 have Hq:=zV hq;clear hq
 have Hc:=zV hc;clear hc
 go_enter_defers zU,Tryz.ntmps118
 generalize hC:(Code.seq (Code.region 2 _ false) _)=C
 generalize hB:(bodyPostD _ _ _)=B
 go_wp2
 subst hC hB;refine wp_seq (wp_region_list ?_);refine wpList_plain rfl fun K hK=>?_;simp[Oper.wp,go_sem];apply hK;refine wpList_plain rfl fun K2 hK2=>?_;simp[Oper.wp,go_sem]
 have key:∀v w',Q w'->K2 { tmps:=#[.func (.func h) first cap,undef,.pointer (some ⟨w.heap.size,0,none⟩),.pointer (some ⟨w.heap.size+1,0,none⟩),.func (.func 153) #[] #[.pointer (some ⟨w.heap.size,0,none⟩),.pointer (some ⟨w.heap.size+1,0,none⟩)],.func (.func h) first cap,v],defers:=[{ target:=.fn (.func 153) #[.pointer (some ⟨w.heap.size,0,none⟩),.pointer (some ⟨w.heap.size+1,0,none⟩)],args:=#[] }] } w':=by
  intro v w' hQ;apply hK2;refine wpList_nil ?_;obtain⟨h1,h2⟩:=Hq.out w' hQ;have h1:w'.heap[w.heap.size]?=some (.cells #[.int .i64 0] 3):=h1.trans (ycju w);have h2:w'.heap[w.heap.size+1]?=some (.cells #[.int .i64 0] 42):=h2.trans (ycfz w);have c1:w'.cell? ⟨w.heap.size,0,none⟩=some (.int .i64 0):=by simp[World.cell?,h1]
  have c2:w'.cell? ⟨w.heap.size+1,0,none⟩=some (.int .i64 0):=by simp[World.cell?,h2]
  have z1:w'.frozen? ⟨w.heap.size,0,none⟩=false:=by simp[World.frozen?,h1]
  have z2:w'.frozen? ⟨w.heap.size+1,0,none⟩=false:=by simp[World.frozen?,h2]
  have l1:=(Array.getElem?_eq_some_iff.1 h1).1;have l2:=(Array.getElem?_eq_some_iff.1 h2).1;have HQ:=zV hQ;clear hQ
  clear h1 h2
  simp only[Exit.then]
  go_wp2
  refine leaves_cons (f:=153) (args:=#[.pointer (some ⟨w.heap.size,0,none⟩),.pointer (some ⟨w.heap.size+1,0,none⟩)]) (by simp) (by simp[go_sem]) ?_
  refine(catch_idle ⟨w.heap.size,0,none⟩ ⟨w.heap.size+1,0,none⟩ _).mono ?_;rintro e u' w'' ⟨rfl,rfl,hb⟩;have hsz:((w'.setCell ⟨w.heap.size,0,none⟩ (.int .i64 0)).setCell ⟨w.heap.size+1,0,none⟩ (.int .i64 0)).heap.size=w'.heap.size:=by simp[go_sem]
  rw[hsz]at hb
  have d1:w''.cell? ⟨w.heap.size,0,none⟩=some (.int .i64 0):=by
   rw[hb.cell l1];simp[go_sem,c1]
  have d2:w''.cell? ⟨w.heap.size+1,0,none⟩=some (.int .i64 0):=by
   rw[hb.cell l2];simp[go_sem,c2]
  simp[Leaves,settle,results,Tryz.results118,go_sem,d1,d2];exact⟨w',HQ.out,hb⟩
 have hcc:=RowKit.Hid.out Hc
 clear Hc hmf Hq hK
 revert key
 generalize K2=K
 intro key;rw[show((w.alloc (Obj.cells #[Value.int IntKind.i64 0] 3)).alloc (Obj.cells #[Value.int IntKind.i64 0] 42))=yfy w from rfl]
 generalize Sem.run zA (callFunc h (first++cap)) (yfy w)=r at hcc ⊢
 rcases hcc with⟨rfl,hc⟩|⟨v,w',rfl,hc⟩
 .rw[Oper.upon_enter];refine hc.mono ?_;rintro e w' ⟨⟨v,rfl⟩,hQ⟩;exact key v w' hQ
 .exact key v w' hc
end
section
namespace Ev
open Go Go.RowKit
theorem ysx(w:World)(k:Nat)(hk:k<w.heap.size):(yfy w).heap[k]?=w.heap[k]?:=by
 unfold yfy;rw[Below.heap_alloc _ _ _ (by simp[go_sem];omega),Below.heap_alloc _ _ _ hk]
theorem yfb(w:World):(yfy w).heap.size=w.heap.size+2:=by simp[yfy,go_sem]
theorem yblj(self:Task->Option Out)(hself:yex zA self)(args:List Value)(m:Mem)(out:Out)(h:evCatch self m args=some out):ycb zA (.call 118 args m) out:=by
 unfold evCatch at h;split at h
 .rename_i g first captured
  obtain⟨o,ho,h2⟩:=yg h;cases o with
  |code=>cases h2
  | call v m1 =>
    cases h2
    have hs:=hself _ _ ho;intro hw;obtain⟨hext,hall⟩:=hs hw;refine⟨hext,fun φ M w args' hR hsub hv hfresh=>.inl ⟨ybx yri zU rfl _ _,?_⟩⟩;obtain⟨u,rfl,hu⟩:=ygi hv;obtain⟨x',y',rfl,hf1,hf2⟩:=hu.func_inv;have hR2:Rel φ M (yfy w):=hR.keep fun k hk=>ysx w k hk
    have himg:∀k,w.heap.size<=k->¬Img φ M k:=by
     rintro k hk ⟨i,b,l,h1,h2,h3⟩;obtain⟨l',h4,h5⟩:=hR.blk i b h1;rw[h2]at h4;cases h4
     have:=h5.lt;omega
    have hcall:=hall φ M (yfy w) (x'++y') hR2 hsub (hf1.append hf2) hfresh;rw[show(x'++y').toArray=x'.toArray++y'.toArray by simp]at hcall
    refine(ybjp g x'.toArray y'.toArray w (fun w'=>∃e,ydvf φ M (yfy w) m v m1 e w') ?_ ?_).mono ?_
    .rintro w' ⟨e,v',rfl,φ',M',hgood,hvr⟩;exact⟨hgood.wg.keep _ (by rw[yfb];omega) (himg _ (zJ _)),hgood.wg.keep _ (by rw[yfb];omega) (himg _ (by omega))⟩
    .rcases hcall with⟨h1,h2⟩|⟨v',w',h1,h2⟩
     .refine .inl ⟨h1,h2.mono ?_⟩;intro e w' hk;have hk':=hk;obtain⟨v',rfl,_⟩:=hk;exact⟨⟨_,rfl⟩,_,hk'⟩
     .exact .inr ⟨v',w',h1,_,h2⟩
    .rintro e w'' ⟨rfl,w',⟨e,v',rfl,φ',M',hgood,hvr⟩,hb⟩;have hsz:w.heap.size+2<=w'.heap.size:=by rw[<-yfb];exact hgood.wg.size
     have hheap:∀k,k<w'.heap.size->k≠w.heap.size->k≠w.heap.size+1->w''.heap[k]?=w'.heap[k]?:=fun k hk h1 h2=>by
      rw[hb.block k hk,Below.heap_setCell _ _ _ _ h2,Below.heap_setCell _ _ _ _ h1]
     have hne:∀k,Img φ' M' k->k≠w.heap.size/\k≠w.heap.size+1:=fun k hi=>by
      refine⟨?_,?_⟩
      .rintro rfl;exact himg _ (zJ _) (hgood.wg.img _ (by rw[yfb];omega) hi)
      .rintro rfl;exact himg _ (by omega) (hgood.wg.img _ (by rw[yfb];omega) hi)
     have hb2:w'.heap.size<=w''.heap.size:=by
      have:=hb.size
      simpa[go_sem]using this
     refine⟨_,rfl,φ',M',⟨hgood.le,hgood.out,⟨⟨fun i b h1=>?_,hgood.rel.inj⟩,fun x hx=>⟨?_,(hgood.rel.gl x hx).2⟩⟩,hgood.sub,hgood.frame,⟨hb.os.trans hgood.wg.os,hb.tape.trans hgood.wg.tape,hb.output.trans hgood.wg.output,by omega,fun k hk hi=>?_,fun k hk hi=>hgood.wg.img k (by rw[yfb];omega) hi⟩⟩,?_⟩
     .obtain⟨l,h2,h3⟩:=hgood.rel.blk i b h1;have hn:=hne l.blk ⟨i,b,l,h1,h2,rfl⟩;exact⟨l,h2,h3.keep (hheap _ h3.lt hn.1 hn.2)⟩
     .obtain⟨e,fz,q⟩:=(hgood.rel.gl x hx).1;obtain⟨e0,fz0,q0⟩:=(hR.gl x hx).1;have hlt:=(Array.getElem?_eq_some_iff.1 q0).1;exact⟨e,fz,(hheap _ (by omega) (by omega) (by omega)).trans q⟩
     .rw[hheap k (by omega) (by omega) (by omega),hgood.wg.keep k (by rw[yfb];omega) hi,ysx w k hk]
     .exact .tuple (.cons (.simple rfl) (.cons (.simple rfl) .nil))
 .cases h
end Ev
end
section
namespace Ev
open Go Go.RowKit
def hkC(cs:List Chunk):Hooks:=⟨some 118,some 245,some 175,symB,cs,none⟩
def hk(fs:List Fact):Hooks:=hkC [⟨1000000000000,fs⟩]
def ybr(fs:List Fact):Prop:=∀f∈fs,yeq zA f
def ygj(cs:List Chunk):Prop:=∀c∈cs,ybr c.l
theorem ydpo{cs:List Chunk}(h:ygj cs):HooksOk zA (hkC cs) :=
 ⟨fun g h=>(by cases h;exact yblj),fun g h=>(by cases h;exact yqy),fun g h=>(by cases h;exact ybut),h,fun g h=>(by cases h)⟩
theorem ygj.nil:ygj []:=fun c hc=>by cases hc
theorem ygj.cons{n:Nat}{l:List Fact}{cs:List Chunk}(h:ybr l)(t:ygj cs):ygj (⟨n,l⟩::cs):=fun c hc=>by
 rcases List.mem_cons.1 hc with rfl|hc
 .exact h
 .exact t c hc
theorem yeaw{fs:List Fact}(h:ybr fs):HooksOk zA (hk fs):=ydpo (ygj.cons h ygj.nil)
theorem ybr.nil:ybr []:=fun f hf=>by cases hf
theorem ybr.cons{f:Fact}{l:List Fact}(h:yeq zA f)(t:ybr l):ybr (f::l):=fun x hx=>by
 rcases List.mem_cons.1 hx with rfl|hx
 .exact h
 .exact t x hx
theorem ybr.at_{f:Fact}{l:List Fact}(h:ybr l)(i:Nat)(e:l[i]?=some f):yeq zA f:=h f (zG e)
theorem ybr.append{a b:List Fact}(ha:ybr a)(hb:ybr b):ybr (a++b):=fun f hf=>by
 rcases List.mem_append.1 hf with h|h
 .exact ha f h
 .exact hb f h
noncomputable def checkSeq(new:List Fact):List Fact->Bool:=List.rec (fun _=>true) (fun f _ ih fs=>f.check zA (hk fs)&&ih (f::fs)) new
theorem ybr.seq:∀{new fs:List Fact},ybr fs->checkSeq new fs=true->ybr new
 |[],_,_,_=>ybr.nil
 | f :: l,fs,h,hc=>by
   have hc:(f.check zA (hk fs)&&checkSeq l (f::fs))=true:=hc;rw[zB]at hc;have hf:yeq zA f:=ybfs (yban mix yri (yeaw h) 3000) hc.1
   have hfs:ybr (f::fs):=fun x hx=>by
    rcases List.mem_cons.1 hx with rfl|hx
    .exact hf
    .exact h x hx
   have hl:=ybr.seq hfs hc.2;intro x hx;rcases List.mem_cons.1 hx with rfl|hx
   .exact hf
   .exact hl x hx
def by8(l:List Nat):ByteArray:=⟨(l.map Nat.toUInt8).toArray⟩
end Ev
end
section
namespace Ev
noncomputable section defs
def renA(ρ:Nat->Nat)(a:Addr):Addr:=forceN (ρ a.block) fun b=>⟨b,a.off,a.spot⟩
def ren1(ρ:Nat->Nat):Value->Value
 |.pointer (some a)=>.pointer (some (renA ρ a))
 |.slice (some a) n c=>.slice (some (renA ρ a)) n c
 |v=>v
def ren2(ρ:Nat->Nat):Value->Value
 |.agg a=>.agg (a.toList.map (ren1 ρ)).toArray
 |.func g a c=>.func g (a.toList.map (ren1 ρ)).toArray (c.toList.map (ren1 ρ)).toArray
 |v=>ren1 ρ v
def renV(ρ:Nat->Nat):Value->Value
 |.tuple a=>.tuple (a.toList.map (ren2 ρ)).toArray
 |v=>ren2 ρ v
def yrm:Value->Bool
 |.pointer (some a)=>a.spot.isNone
 |.slice (some a) _ _=>a.spot.isNone
 |v=>simple v
def ylr:Value->Bool
 |.agg a=>a.toList.all yrm
 |.func (.func _) a c=>a.toList.all yrm&&c.toList.all yrm
 |v=>yrm v
def yccs:Value->Bool
 |.tuple a=>a.toList.all ylr
 |v=>ylr v
def yzm:List BlkL->List Nat->Nat->Nat->Nat
 |b::l,t::k,d,i=>bif zZ b.i i then t else yzm l k d i
 |_,_,d,_=>d
def Fact.rho(f:Fact)(tgt:List Nat)(n0:Nat)(i:Nat):Nat :=
 bif zW f.next0 i&&zQ i f.next1 then zX (zY i f.next0) n0 else yzm f.pre tgt (zX n0 (zY f.next1 f.next0)) i
def BlkL.ren(ρ:Nat->Nat)(b:BlkL):BlkL:=⟨forceN (ρ b.i) fun i=>i,b.e,b.z,b.l.map (ren2 ρ)⟩
def Fact.move(f:Fact)(tgt:List Nat)(n0:Nat):Fact :=
 ⟨f.g,f.args.map (ren2 (f.rho tgt n0)),n0,f.pre.map (BlkL.ren (f.rho tgt n0)),renV (f.rho tgt n0) f.v,zX n0 (zY f.next1 f.next0),f.post.map (BlkL.ren (f.rho tgt n0)),n0⟩
def Fact.after(f:Fact):Mem:=⟨f.next1,blksT f.mem.b f.post,f.next0⟩
def yhk:List Nat->Bool
 |[]=>true
 |x::l=>!(l.elem x)&&yhk l
def Fact.moves(f:Fact)(tgt:List Nat)(n0:Nat):Bool :=
 zW f.next0 f.low&&f.args.all ylr&&yccs f.v&&f.pre.all (fun b=>zQ b.i f.next0&&b.l.all ylr)&&f.post.all (fun b=>zQ b.i f.next1&&b.l.all ylr) &&
  yhk ((f.move tgt n0).pre.map (·.i))&&(f.move tgt n0).pre.all (fun b=>zQ b.i n0&&blkIs (f.move tgt n0).mem b)&&(f.move tgt n0).post.all (blkIs (f.move tgt n0).after)&&zW f.next0 f.next1
end defs
section
variable {φ φ2:Phi}{ρ:Nat->Nat}
theorem ykp(a:Addr):renA ρ a=⟨ρ a.block,a.off,a.spot⟩:=by unfold renA;rw[ybp]
theorem BlkL.ygr(b:BlkL):(b.ren ρ).i=ρ b.i:=by show forceN (ρ b.i) (fun i=>i)=_;rw[ybp]
theorem vr1(hφ:∀b,φ b=φ2 (ρ b)){v v':Value}(hf:yrm v=true):VR φ v v'↔VR φ2 (ren1 ρ v) v':=by
 unfold yrm at hf;split at hf
 .rename_i a
  obtain⟨b,o,s⟩:=a;have hs:s=none:=by simpa using hf
  subst hs;show VR φ _ _↔VR φ2 (.pointer (some (renA ρ ⟨b,o,none⟩))) v';rw[ykp];constructor
  .intro h;cases h with
   |simple q=>cases q
   |ptr h=>rw[hφ]at h;exact VR.ptr h
  .intro h;cases h with
   |simple q=>cases q
   |ptr h=>rw[<-hφ]at h;exact VR.ptr h
 .rename_i a n c
  obtain⟨b,o,s⟩:=a;have hs:s=none:=by simpa using hf
  subst hs;show VR φ _ _↔VR φ2 (.slice (some (renA ρ ⟨b,o,none⟩)) n c) v';rw[ykp];constructor
  .intro h;cases h with
   |simple q=>cases q
   |slice h h1 h2 h3 h4=>rw[hφ]at h;exact VR.slice h h1 h2 h3 h4
  .intro h;cases h with
   |simple q=>cases q
   |slice h h1 h2 h3 h4=>rw[<-hφ]at h;exact VR.slice h h1 h2 h3 h4
 .rename_i h1 h2
  have hr:ren1 ρ v=v:=by
   unfold ren1;split
   .rename_i a;exact absurd rfl (h1 a)
   .rename_i a n c;exact absurd rfl (h2 a n c)
   .rfl
  rw[hr];constructor
  .intro h;rw[h.eq_simple hf];exact VR.simple hf
  .intro h;rw[h.eq_simple hf];exact VR.simple hf
theorem vrl1(hφ:∀b,φ b=φ2 (ρ b)):∀{l l':List Value},l.all yrm=true->(VRL φ l l'↔VRL φ2 (l.map (ren1 ρ)) l')
 | [],l',_=>by
   constructor
   .intro h;cases h;exact VRL.nil
   .intro h;cases h;exact VRL.nil
 | v :: l,l',hf=>by
   simp only[zS,zB]at hf;constructor
   .intro h;cases h with
    |cons h1 h2=>exact VRL.cons ((vr1 hφ hf.1).1 h1) ((vrl1 hφ hf.2).1 h2)
   .intro h;cases h with
    |cons h1 h2=>exact VRL.cons ((vr1 hφ hf.1).2 h1) ((vrl1 hφ hf.2).2 h2)
theorem vr2(hφ:∀b,φ b=φ2 (ρ b)){v v':Value}(hf:ylr v=true):VR φ v v'↔VR φ2 (ren2 ρ v) v':=by
 unfold ylr at hf;split at hf
 .rename_i a
  obtain⟨a⟩:=a;show VR φ (.agg a.toArray) _↔VR φ2 (.agg (a.map (ren1 ρ)).toArray) v';constructor
  .intro h;cases h with
   |simple q=>cases q
   |agg h=>exact VR.agg ((vrl1 hφ hf).1 h)
  .intro h;cases h with
   |simple q=>cases q
   |agg h=>exact VR.agg ((vrl1 hφ hf).2 h)
 .rename_i g a c
  obtain⟨a⟩:=a;obtain⟨c⟩:=c;simp only[zB]at hf;show VR φ (.func (.func g) a.toArray c.toArray) _↔VR φ2 (.func (.func g) (a.map (ren1 ρ)).toArray (c.map (ren1 ρ)).toArray) v';constructor
  .intro h;cases h with
   |simple q=>cases q
   |func h k=>exact VR.func ((vrl1 hφ hf.1).1 h) ((vrl1 hφ hf.2).1 k)
  .intro h;cases h with
   |simple q=>cases q
   |func h k=>exact VR.func ((vrl1 hφ hf.1).2 h) ((vrl1 hφ hf.2).2 k)
 .rename_i h1 h2
  have hr:ren2 ρ v=ren1 ρ v:=by
   unfold ren2;split
   .rename_i a;exact absurd rfl (h1 a)
   .rename_i g a c
    cases hf
   .rfl
  rw[hr];exact vr1 hφ hf
theorem vrl2(hφ:∀b,φ b=φ2 (ρ b)):∀{l l':List Value},l.all ylr=true->(VRL φ l l'↔VRL φ2 (l.map (ren2 ρ)) l')
 | [],l',_=>by
   constructor
   .intro h;cases h;exact VRL.nil
   .intro h;cases h;exact VRL.nil
 | v :: l,l',hf=>by
   simp only[zS,zB]at hf;constructor
   .intro h;cases h with
    |cons h1 h2=>exact VRL.cons ((vr2 hφ hf.1).1 h1) ((vrl2 hφ hf.2).1 h2)
   .intro h;cases h with
    |cons h1 h2=>exact VRL.cons ((vr2 hφ hf.1).2 h1) ((vrl2 hφ hf.2).2 h2)
theorem vrV(hφ:∀b,φ b=φ2 (ρ b)){v v':Value}(hf:yccs v=true)(h:VR φ v v'):VR φ2 (renV ρ v) v':=by
 unfold yccs at hf;split at hf
 .rename_i a
  obtain⟨a⟩:=a;show VR φ2 (.tuple (a.map (ren2 ρ)).toArray) v';cases h with
  |simple q=>cases q
  |tuple h=>exact VR.tuple ((vrl2 hφ hf).1 h)
 .rename_i h1
  have hr:renV ρ v=ren2 ρ v:=by
   unfold renV;split
   .rename_i a;exact absurd rfl (h1 a)
   .rfl
  rw[hr];exact(vr2 hφ hf).1 h
theorem yxf{α:Type}{g:α->Nat}:∀{l:List α},yhk (l.map g)=true->∀a∈l,∀b∈l,g a=g b->a=b
 |[],_,a,ha,_,_,_=>by cases ha
 | x :: l,h,a,ha,b,hb,e=>by
   have h:(!(l.map g).elem (g x)&&yhk (l.map g))=true:=h;simp only[zB,Bool.not_eq_true']at h
   have hx:∀y∈l,g y≠g x:=fun y hy q=>by
    have:(l.map g).elem (g x)=true:=List.elem_eq_true_of_mem (List.mem_map.2 ⟨y,hy,q⟩);rw[this]at h;cases h.1
   rcases List.mem_cons.1 ha with ea|ha'
   .rcases List.mem_cons.1 hb with eb|hb'
    .rw[ea,eb]
    .exact absurd (by rw[<-e,ea]) (hx b hb')
   .rcases List.mem_cons.1 hb with eb|hb'
    .exact absurd (by rw[e,eb]) (hx a ha')
    .exact yxf h.2 a ha' b hb' e
theorem ybkl:∀(l:List BlkL) (k:List Nat) (d i:Nat),yzm l k d i=d\/∃b∈l,b.i=i
 |[],_,_,_=>.inl rfl
 |_::_,[],_,_=>.inl rfl
 | b :: l,t::k,d,i=>by
   unfold yzm;rw[zH];split
   .rename_i h;exact .inr ⟨b,List.mem_cons_self,zN h⟩
   .rcases ybkl l k d i with h|⟨c,h1,h2⟩
    .exact .inl h
    .exact .inr ⟨c,List.mem_cons_of_mem _ h1,h2⟩
end
theorem yhs{P:Program}{f:Fact}{tgt:List Nat}{n0:Nat}(hok:yeq P f)(hc:f.moves tgt n0=true):yeq P (f.move tgt n0):=by
 obtain⟨m',hs,e1,e2,e3⟩:=hok;unfold Fact.moves at hc;simp only[zB]at hc;obtain⟨⟨⟨⟨⟨⟨⟨⟨c1,c2⟩,c3⟩,c4⟩,c5⟩,c6⟩,c7⟩,c8⟩,c9⟩:=hc;have c1:=zC c1;have c9:=zC c9;obtain⟨ρ,hρ⟩:∃ρ,f.rho tgt n0=ρ:=⟨_,rfl⟩;obtain⟨n1,hn1⟩:∃n1,n0+(f.next1-f.next0)=n1:=⟨_,rfl⟩
 have hmv:f.move tgt n0=⟨f.g,f.args.map (ren2 ρ),n0,f.pre.map (BlkL.ren ρ),renV ρ f.v,n1,f.post.map (BlkL.ren ρ),n0⟩:=by
  unfold Fact.move;rw[hρ,<-hn1];rfl
 rw[hmv]at c6 c7 c8 ⊢;simp only at c6 c7 c8
 have hpre:∀b∈f.pre,b.i<f.next0/\b.l.all ylr=true:=fun b hb=>by
  have:=List.all_eq_true.1 c4 b hb;simp only[zB]at this;exact⟨zF (zI _) (zC this.1),this.2⟩
 have hpostc:∀b∈f.post,b.i<f.next1/\b.l.all ylr=true:=fun b hb=>by
  have:=List.all_eq_true.1 c5 b hb;simp only[zB]at this;exact⟨zF (zI _) (zC this.1),this.2⟩
 have hinj:∀b∈f.pre,∀c∈f.pre,ρ b.i=ρ c.i->b=c:=by
  rw[List.map_map]at c6;intro b hb c hc he;exact yxf c6 b hb c hc (by show(b.ren ρ).i=(c.ren ρ).i;rw[b.ygr,c.ygr];exact he)
 have hp2:∀b∈f.pre,ρ b.i<n0/\blkIs (Fact.mem ⟨f.g,f.args.map (ren2 ρ),n0,f.pre.map (BlkL.ren ρ),renV ρ f.v,n1,f.post.map (BlkL.ren ρ),n0⟩) (b.ren ρ)=true:=fun b hb=>by
  have:=List.all_eq_true.1 c7 (b.ren ρ) (List.mem_map.2 ⟨b,hb,rfl⟩);simp only[zB]at this;have h1:=zF (zI _) (zC this.1);rw[b.ygr]at h1;exact⟨h1,this.2⟩
 have hfresh:∀i,f.next0<=i->i<f.next1->ρ i=i-f.next0+n0:=fun i h1 h2=>by
  rw[<-hρ];unfold Fact.rho;rw[zH,if_pos (by simp only[zB];exact⟨zO h1,zO h2⟩)]
  rfl
 have hold:∀i,¬(f.next0<=i/\i<f.next1)->ρ i=n1\/ρ i<n0:=fun i hi=>by
  have h1:ρ i=yzm f.pre tgt n1 i:=by
   rw[<-hρ,<-hn1];unfold Fact.rho;rw[zH,if_neg]
   .rfl
   .simp only[zB];exact fun q=>hi ⟨zC q.1,zF (zI _) (zC q.2)⟩
  rcases ybkl f.pre tgt n1 i with h|⟨b,hb,rfl⟩
  .exact .inl (h1.trans h)
  .exact .inr (hp2 b hb).1
 have hle:n0<=n1:=by omega
 let f2:Fact:=⟨f.g,f.args.map (ren2 ρ),n0,f.pre.map (BlkL.ren ρ),renV ρ f.v,n1,f.post.map (BlkL.ren ρ),n0⟩
 have hget:∀i x,f.mem.b.get i=some x->∃b∈f.pre,b.i=i/\x=b.blk:=fun i x hx=>by
  rcases yji hx with h|h
  .exact h
  .cases h
 have hget2:∀i x,f2.mem.b.get i=some x->∃b∈f.pre,ρ b.i=i/\x=(b.ren ρ).blk:=fun i x hx=>by
  rcases yji hx with⟨b',hb',h1,h2⟩|h
  .obtain⟨b,hb,rfl⟩:=List.mem_map.1 hb';rw[b.ygr]at h1;exact⟨b,hb,h1,h2⟩
  .cases h
 have hpost:∀b∈f.post,f.next0<=b.i/\b.i<f.next1/\∃c,m'.b.get b.i=some (.cells c b.l.length b.e b.z)/\∀j v,j<b.l.length->(c.get j=some v↔b.l[j]?=some v):=fun b hb=>by
  obtain⟨c,k1,_,k2⟩:=yjf (e3 b hb).2;exact⟨Nat.le_trans c1 (e3 b hb).1,(hpostc b hb).1,c,k1,k2⟩
 have hget3:∀i x,(blksT f2.mem.b f2.post).get i=some x->(∃b∈f.post,ρ b.i=i/\x=(b.ren ρ).blk)\/f2.mem.b.get i=some x:=fun i x hx=>by
  rcases yji hx with⟨b',hb',h1,h2⟩|h
  .obtain⟨b,hb,rfl⟩:=List.mem_map.1 hb';rw[b.ygr]at h1;exact .inl ⟨b,hb,h1,h2⟩
  .exact .inr h
 have hpr:∀b∈f.post,n0<=ρ b.i/\ρ b.i<n1:=fun b hb=>by
  obtain⟨k1,k2,_⟩:=hpost b hb;rw[hfresh b.i k1 k2];omega
 have hwf1:Wf f.mem:=fun i x hx=>by
  obtain⟨b,hb,rfl,rfl⟩:=hget i x hx;exact(hpre b hb).1
 refine⟨f2.after,?_,rfl,zJ _,fun b hb=>?_⟩
 .intro hw;obtain⟨E,S⟩:=hs hwf1;refine⟨⟨hle,fun i x hx=>?_,fun i x hi hnf hx=>?_,fun i x hx=>?_⟩,fun φ2 M2 w args' hR hsub hv hfr=>?_⟩
  .rcases hget3 i x hx with⟨b,hb,rfl,rfl⟩|h
   .exact .inr (hpr b hb)
   .exact .inl ⟨x,h⟩
  .rcases hget3 i x hx with⟨b,hb,rfl,rfl⟩|h
   .exact absurd (hpr b hb) hnf
   .exact h
  .show i<n1;rcases hget3 i x hx with⟨b,hb,rfl,rfl⟩|h
   .exact(hpr b hb).2
   .exact zF (hw i x h) hle
  .have hfr:∀i,n0<=i->i<n1->φ2 i=none:=hfr
   let φ:Phi:=fun b=>φ2 (ρ b)
   let M:AM:=fun i=>f.mem.b.get i
   have hφ:∀b,φ b=φ2 (ρ b):=fun _=>rfl
   have hpm:∀b∈f.pre,∃c,M2 (ρ b.i)=some (.cells c b.l.length b.e b.z)/\∀j v,j<b.l.length->(c.get j=some v↔(b.l.map (ren2 ρ))[j]?=some v):=fun b hb=>by
    obtain⟨c,k1,_,k2⟩:=yjf (hp2 b hb).2;rw[b.ygr]at k1;have el:(b.ren ρ).l.length=b.l.length:=zM ..;rw[el]at k1 k2;exact⟨c,hsub _ _ k1,k2⟩
   have hmapget:∀{l:List Value}{j:Nat}{v:Value},l[j]?=some v->(l.map (ren2 ρ))[j]?=some (ren2 ρ v):=fun h=>by rw[zL,h];rfl
   have hRel:Rel φ M w:=by
    refine⟨⟨fun i x hx=>?_,fun i j x y li lj hne hx hy hli hlj=>?_⟩,fun z hz=>⟨(hR.gl z hz).1,fun⟨i,x,l,a1,a2,a3⟩=>(hR.gl z hz).2 (by
     obtain⟨b,hb,rfl,rfl⟩:=hget i x a1;obtain⟨c,k1,_⟩:=hpm b hb;exact⟨_,_,l,k1,a2,a3⟩)⟩⟩
    .obtain⟨b,hb,rfl,rfl⟩:=hget i x hx;obtain⟨c,k1,k2⟩:=hpm b hb;obtain⟨l,r1,r2,r3,cs,qe,qf,q0,r4,r5,r6⟩:=hR.blk _ _ k1;refine⟨l,r1,r2,r3,cs,qe,qf,q0,r4,r5,fun j v hj hg=>?_⟩;have hv0:=yko hg;obtain⟨v',s1,s2⟩:=r6 j _ hj ((k2 j _ hj).2 (hmapget hv0));exact⟨v',s1,(vr2 hφ (List.all_eq_true.1 (hpre b hb).2 v (zG hv0))).2 s2⟩
    .obtain⟨b,hb,rfl,rfl⟩:=hget i x hx;obtain⟨c,hc,rfl,rfl⟩:=hget j y hy;obtain⟨cb,k1,_⟩:=hpm b hb;obtain⟨cc,k2,_⟩:=hpm c hc;exact hR.inj _ _ _ _ li lj (fun q=>hne (by rw[hinj b hb c hc q])) k1 k2 hli hlj
   have hSub:Sub f.mem M:=fun i x hx=>hx
   have hFr:ygv φ f.mem.next m'.next:=fun i h1 h2=>by
    rw[e1]at h2;have h1:f.next0<=i:=h1;show φ2 (ρ i)=none;rw[hfresh i h1 h2];exact hfr _ (by omega) (by omega)
   refine(S φ M w args' hRel hSub ((vrl2 hφ c2).2 hv) hFr).mono ?_;rintro e w' ⟨v',rfl,φ',M',hgd,hvr⟩;have hout:∀i,¬(f.next0<=i/\i<f.next1)->φ' i=φ i:=fun i hi=>hgd.out i (by rw[e1];exact hi)
   have hframe:∀i,¬(f.next0<=i/\i<f.next1)->(f.mem.b.get i=none\/i<f.next0)->M' i=M i:=fun i hi hn =>
    hgd.frame i (by rw[e1];exact hi) (hn.imp id fun q=>by omega)
   let φ3:Phi:=fun j=>if n0<=j/\j<n1 then φ' (j-n0+f.next0)else φ2 j
   let M3:AM:=fun j=>if n0<=j/\j<n1 then f2.after.b.get j else M2 j
   have hφ3:∀b,φ' b=φ3 (ρ b):=fun b=>by
    by_cases hb:f.next0<=b/\b<f.next1
    .have hr:=hfresh b hb.1 hb.2;have:n0<=ρ b/\ρ b<n1:=by rw[hr];omega
     show φ' b=if n0<=ρ b/\ρ b<n1 then φ' (ρ b-n0+f.next0)else φ2 (ρ b)
     rw[if_pos this,hr];congr 1;omega
    .have:¬(n0<=ρ b/\ρ b<n1):=by rcases hold b hb with h|h<;>omega
     show φ' b=if n0<=ρ b/\ρ b<n1 then φ' (ρ b-n0+f.next0)else φ2 (ρ b)
     rw[if_neg this,hout b hb]
   have hle3:φ2.le φ3:=fun j l hj=>by
    have:¬(n0<=j/\j<n1):=fun q=>by rw[hfr j q.1 q.2]at hj;cases hj
    show(if n0<=j/\j<n1 then φ' (j-n0+f.next0)else φ2 j)=some l
    rw[if_neg this];exact hj
   have hout3:∀j,¬(n0<=j/\j<n1)->φ3 j=φ2 j:=fun j hj=>if_neg hj;have hM3o:∀j,¬(n0<=j/\j<n1)->M3 j=M2 j:=fun j hj=>if_neg hj;have hM3f:∀j,n0<=j/\j<n1->M3 j=f2.after.b.get j:=fun j hj=>if_pos hj
   have hnew:∀j x,n0<=j/\j<n1->M3 j=some x->∃b∈f.post,ρ b.i=j/\x=(b.ren ρ).blk:=fun j x hj hx=>by
    rw[hM3f j hj]at hx;rcases hget3 j x hx with h|h
    .exact h
    .obtain⟨b,hb,rfl,_⟩:=hget2 j x h;have:=(hp2 b hb).1;omega
   have hnewR:∀b∈f.post,∃l c,φ' b.i=some l/\M' b.i=some (.cells c b.l.length b.e b.z)/\BR φ3 l w' (b.ren ρ).blk/\¬l.blk<w.heap.size:=fun b hb=>by
    obtain⟨k1,k2,c,k3,k4⟩:=hpost b hb;have hM:=hgd.sub _ _ k3;obtain⟨l,r1,r2,r3,cs,qe,qf,q0,r4,r5,r6⟩:=hgd.rel.blk _ _ hM;have el:(b.ren ρ).l.length=b.l.length:=zM ..;refine⟨l,c,r1,hM,⟨r2,by rw[el];exact r3,cs,qe,qf,q0,r4,r5,fun j v hj hg=>?_⟩,fun hlt=>?_⟩
    .rw[el]at hj;have hg:=yko hg;have hg':(b.l.map (ren2 ρ))[j]?=some v:=hg;rw[zL]at hg';cases hq:b.l[j]? with
     |none=>rw[hq]at hg';cases hg'
     | some u =>
       rw[hq]at hg';cases hg'
       obtain⟨v',s1,s2⟩:=r6 j u hj ((k4 j u hj).2 hq);exact⟨v',s1,(vr2 hφ3 (List.all_eq_true.1 (hpostc b hb).2 u (zG hq))).1 s2⟩
    .obtain⟨i,x,l',a1,a2,a3⟩:=hgd.wg.img l.blk hlt ⟨_,_,l,hM,r1,rfl⟩;obtain⟨p,hp,rfl,rfl⟩:=hget i x a1;have hpi:=(hpre p hp).1;have hnf:¬(f.next0<=p.i/\p.i<f.next1):=fun q=>by omega
     have hMp:=hframe p.i hnf (.inr hpi);exact hgd.rel.inj p.i b.i _ _ l' l (by omega) (hMp.trans a1) hM ((hout p.i hnf).trans a2) r1 a3
   have hoimg:∀j x l,¬(n0<=j/\j<n1)->M2 j=some x->φ2 j=some l->BR φ3 l w' x:=fun j x l hj hx hl=>by
    obtain⟨l0,q1,q2⟩:=hR.blk j x hx;rw[hl]at q1;cases q1
    by_cases him:Img φ M l.blk
    .obtain⟨i,y,l',a1,a2,a3⟩:=him;obtain⟨p,hp,rfl,rfl⟩:=hget i y a1;obtain⟨c,k1,k2⟩:=hpm p hp
     have hji:j=ρ p.i:=by
      apply zT;intro hne;exact hR.inj _ _ _ _ l l' hne hx k1 hl a2 a3.symm
     subst hji;rw[k1]at hx;cases hx
     have a2':φ2 (ρ p.i)=some l':=a2;rw[hl]at a2';cases a2'
     have hpi:=(hpre p hp).1;have hnf:¬(f.next0<=p.i/\p.i<f.next1):=fun q=>by omega
     have hMp:=(hframe p.i hnf (.inr hpi)).trans a1;obtain⟨l2,r1,r2,r3,cs,qe,qf,q0,r4,r5,r6⟩:=hgd.rel.blk _ _ hMp;rw[hout p.i hnf,a2]at r1;cases r1
     refine⟨r2,r3,cs,qe,qf,q0,r4,r5,fun j v hj' hg=>?_⟩;have hg:=(k2 j v hj').1 hg;rw[zL]at hg;cases hq:p.l[j]? with
     |none=>rw[hq]at hg;cases hg
     | some u =>
       rw[hq]at hg;cases hg
       have hlen:p.l.length<1000000:=by
        obtain⟨_,_,hl6,_⟩:=yjf (hp2 p hp).2;have el:(p.ren ρ).l.length=p.l.length:=zM ..
        rwa [el]at hl6
       obtain⟨v',s1,s2⟩:=r6 j u hj' (by rw[ybwe (by omega)];exact hq)
       exact⟨v',s1,(vr2 hφ3 (List.all_eq_true.1 (hpre p hp).2 u (zG hq))).1 s2⟩
    .exact(q2.keep (hgd.wg.keep _ q2.lt him)).mono hle3
   have himg3:∀k,k<w.heap.size->Img φ3 M3 k->Img φ2 M2 k:=fun k hk hq=>by
    obtain⟨i,x,l,a1,a2,rfl⟩:=hq
    by_cases hi:n0<=i/\i<n1
    .obtain⟨b,hb,rfl,rfl⟩:=hnew i x hi a1;obtain⟨l',c,r1,_,_,r4⟩:=hnewR b hb;rw[<-hφ3,r1]at a2;cases a2
     exact absurd hk r4
    .rw[hM3o i hi]at a1;rw[hout3 i hi]at a2;exact⟨i,x,l,a1,a2,rfl⟩
   refine⟨v',rfl,φ3,M3,⟨hle3,hout3,⟨⟨fun j x hx=>?_,fun i j x y li lj hne hx hy hli hlj=>?_⟩,fun z hz=>⟨(hgd.rel.gl z hz).1,fun q=>(hR.gl z hz).2 (himg3 _ (Array.getElem?_eq_some_iff.1 (hR.gl z hz).1.choose_spec.choose_spec).1 q)⟩⟩,fun i x hx=>?_,fun i hi _=>hM3o i hi,⟨hgd.wg.os,hgd.wg.tape,hgd.wg.output,hgd.wg.size,fun k hk hn=>?_,fun k hk hq=>?_⟩⟩,vrV hφ3 c3 hvr⟩
   .by_cases hj:n0<=j/\j<n1
    .obtain⟨b,hb,rfl,rfl⟩:=hnew j x hj hx;obtain⟨l,c,r1,_,r3,_⟩:=hnewR b hb;exact⟨l,by rw[<-hφ3];exact r1,r3⟩
    .rw[hM3o j hj]at hx;obtain⟨l,q1,_⟩:=hR.blk j x hx;exact⟨l,by rw[hout3 j hj];exact q1,hoimg j x l hj hx q1⟩
   .by_cases hi:n0<=i/\i<n1
    .obtain⟨b,hb,rfl,rfl⟩:=hnew i x hi hx;obtain⟨l,c,r1,r2,_,r4⟩:=hnewR b hb;rw[<-hφ3,r1]at hli;cases hli
     by_cases hj:n0<=j/\j<n1
     .obtain⟨b',hb',rfl,rfl⟩:=hnew j y hj hy;obtain⟨l',c',s1,s2,_,_⟩:=hnewR b' hb';rw[<-hφ3,s1]at hlj;cases hlj
      exact hgd.rel.inj _ _ _ _ _ _ (fun q=>hne (by rw[q])) r2 s2 r1 s1
     .rw[hM3o j hj]at hy;rw[hout3 j hj]at hlj;obtain⟨l',q1,q2⟩:=hR.blk j y hy;rw[hlj]at q1;cases q1
      exact fun q=>r4 (by rw[q];exact q2.lt)
    .rw[hM3o i hi]at hx;rw[hout3 i hi]at hli
     by_cases hj:n0<=j/\j<n1
     .obtain⟨b',hb',rfl,rfl⟩:=hnew j y hj hy;obtain⟨l',c',s1,s2,_,s4⟩:=hnewR b' hb';rw[<-hφ3,s1]at hlj;cases hlj
      obtain⟨l0,q1,q2⟩:=hR.blk i x hx;rw[hli]at q1;cases q1
      exact fun q=>s4 (by rw[<-q];exact q2.lt)
     .rw[hM3o j hj]at hy;rw[hout3 j hj]at hlj;exact hR.inj i j x y li lj hne hx hy hli hlj
   .show M3 i=some x
    by_cases hi:n0<=i/\i<n1
    .rw[hM3f i hi];exact hx
    .rw[hM3o i hi];rcases hget3 i x hx with⟨b,hb,rfl,rfl⟩|h
     .exact absurd (hpr b hb) hi
     .exact hsub i x h
   .refine hgd.wg.keep k hk fun⟨i,x,l,a1,a2,a3⟩=>hn ?_;obtain⟨b,hb,rfl,rfl⟩:=hget i x a1;obtain⟨c,k1,_⟩:=hpm b hb;exact⟨_,_,l,k1,a2,a3⟩
   .exact himg3 k hk hq
 .obtain⟨b0,hb0,rfl⟩:=List.mem_map.1 hb;refine⟨?_,List.all_eq_true.1 c8 _ hb⟩;show n0<=(b0.ren ρ).i;rw[b0.ygr];exact(hpr b0 hb0).1
end Ev
end
section
namespace Ev
def Mqii(n:Int):Value:=.int .i64 n
def MqiL:List Int->List Value
 |[]=>[]
 |n::l=>.int .i64 n::MqiL l
def MqiA(l:List Int):Array Value:=⟨MqiL l⟩
def Mqnx(g:Nat)(t:ByteArray)(a:Int)(n:Nat)(l:List Int)(e:Int)(m:Nat):Fact:=⟨g,[.string t,.int .i64 a],n,[],.tuple #[.agg (MqiA l),.int .i64 e],m,[],n⟩
def ybv:ByteArray:=by8 [112,114,111,103,114,97,109,32,109,97,116,99,104,105,110,103,59,10,118,97,114,32,112,32,58,32,112,111,114,116,59,10,114,117,108,101,32,97,99,99,101,112,116,58,32,112,32,61,61,32,110,111,110,101,32,38,38,32,115,111,109,101,40,113,46,112,32,61,61,32,113,46,98,97,99,107,41,32,45,62,32,112,32,58,61,32,102,105,114,115,116,40,113,46,112,32,61,61,32,113,46,98,97,99,107,41,59,10,114,117,108,101,32,112,114,111,112,111,115,101,58,32,112,32,61,61,32,110,111,110,101,32,38,38,32,115,111,109,101,40,113,46,112,32,61,61,32,110,111,110,101,41,32,45,62,32,112,32,58,61,32,102,105,114,115,116,40,113,46,112,32,61,61,32,110,111,110,101,41,59,10,114,117,108,101,32,119,105,116,104,100,114,97,119,58,32,115,111,109,101,40,113,32,61,61,32,112,32,38,38,32,113,46,112,32,33,61,32,110,111,110,101,32,38,38,32,113,46,112,32,33,61,32,113,46,98,97,99,107,41,32,45,62,32,112,32,58,61,32,110,111,110,101,59,10]
def ybko:List Value:=(MqiL [1,0,7,0,1,8,16,0,3,16,17,0,1,18,21,0,1,22,23,0,3,24,25,0,1,26,30,0,3,30,31,0,1,32,36,0,1,37,43,0,3,43,44,0,1,45,46,0,3,47,49,0,1,50,54,0,3,55,57,0,1,58,62,0,3,62,63,0,1,63,64,0,3,64,65,0,1,65,66,0,3,67,69,0,1,70,71,0,3,71,72,0,1,72,76,0,3,76,77,0,3,78,80,0,1,81,82,0,3,83,85,0,1,86,91,0,3,91,92,0,1,92,93,0,3,93,94,0,1,94,95,0,3,96,98,0,1,99,100,0,3,100,101,0,1,101,105,0,3,105,106,0,3,106,107,0,1,108,112,0,1,113,120,0,3,120,121,0,1,122,123,0,3,124,126,0,1,127,131,0,3,132,134,0,1,135,139,0,3,139,140,0,1,140,141,0,3,141,142,0,1,142,143,0,3,144,146,0,1,147,151,0,3,151,152,0,3,153,155,0,1,156,157,0,3,158,160,0,1,161,166,0,3,166,167,0,1,167,168,0,3,168,169,0,1,169,170,0,3,171,173,0,1,174,178,0,3,178,179,0,3,179,180,0,1,181,185,0,1,186,194,0,3,194,195,0,1,196,200,0,3,200,201,0,1,201,202,0,3,203,205,0,1,206,207,0,3,208,210,0,1,211,212,0,3,212,213,0,1,213,214,0,3,215,217,0,1,218,222,0,3,223,225,0,1,226,227,0,3,227,228,0,1,228,229,0,3,230,232,0,1,233,234,0,3,234,235,0,1,235,239,0,3,239,240,0,3,241,243,0,1,244,245,0,3,246,248,0,1,249,253,0,3,253,254,0])
def Mqb0:BlkL:=⟨713,251,2,(MqiL [41,0,35,0,5,0,4,0,21,0,35,0,12,0,17,0])⟩
def Mqb1:BlkL:=⟨762,251,2,(MqiL [23,0,35,0,12,0,17,0])⟩
def Mqb2:BlkL:=⟨769,203,2,[Mqii 0,.slice (some ⟨762,0,none⟩) 4 CU]⟩
def Mqb3:BlkL:=⟨848,251,2,(MqiL [41,0,35,0,5,0,4,0,21,0,35,0,12,0,4,0])⟩
def Mqb4:BlkL:=⟨893,251,2,(MqiL [23,0,35,0,12,0,4,0])⟩
def Mqb5:BlkL:=⟨900,203,2,[Mqii 0,.slice (some ⟨893,0,none⟩) 4 CU]⟩
def Mqb6:BlkL:=⟨1009,251,2,(MqiL [21,0,41,0,41,0,35,0,11,0,5,0,36,0,12,0,4,0,36,0,12,0,17,0])⟩
def Mqb7:BlkL:=⟨1025,251,2,(MqiL [4,0])⟩
def Mqb8:BlkL:=⟨1032,203,2,[Mqii 0,.slice (some ⟨1025,0,none⟩) 1 1]⟩
end Ev
end
section
namespace Ev
def yebt:List Fact:=[Mqnx 152 ybv 0 2 [1,0,7,0] 0 5,Mqnx 152 ybv 8 8 [1,8,16,0] 0 11,Mqnx 152 ybv 16 14 [3,16,17,0] 0 18,Mqnx 152 ybv 24 33 [3,24,25,0] 0 37,Mqnx 152 ybv 30 46 [3,30,31,0] 0 50,Mqnx 152 ybv 43 65 [3,43,44,0] 0 69,Mqnx 152 ybv 47 78 [3,47,49,0] 0 82,Mqnx 152 ybv 62 104 [3,62,63,0] 0 108,Mqnx 152 ybv 64 117 [3,64,65,0] 0 121,Mqnx 152 ybv 67 130 [3,67,69,0] 0 134,Mqnx 152 ybv 71 143 [3,71,72,0] 0 147,Mqnx 152 ybv 76 156 [3,76,77,0] 0 160,Mqnx 152 ybv 91 189 [3,91,92,0] 0 193,Mqnx 152 ybv 93 202 [3,93,94,0] 0 206,Mqnx 152 ybv 96 215 [3,96,98,0] 0 219,Mqnx 152 ybv 100 228 [3,100,101,0] 0 232,Mqnx 152 ybv 105 241 [3,105,106,0] 0 245,Mqnx 152 ybv 106 248 [3,106,107,0] 0 252,Mqnx 152 ybv 113 261 [1,113,120,0] 0 264,Mqnx 152 ybv 120 267 [3,120,121,0] 0 271]
theorem ycjn:ybr yebt:=ybr.seq ybr.nil (by kernel_rfl)
def yebq:List Fact:=[Mqnx 152 ybv 139 306 [3,139,140,0] 0 310,Mqnx 152 ybv 141 319 [3,141,142,0] 0 323,Mqnx 152 ybv 151 345 [3,151,152,0] 0 349,Mqnx 152 ybv 166 378 [3,166,167,0] 0 382,Mqnx 152 ybv 168 391 [3,168,169,0] 0 395,Mqnx 152 ybv 178 417 [3,178,179,0] 0 421,Mqnx 152 ybv 179 424 [3,179,180,0] 0 428,Mqnx 152 ybv 186 437 [1,186,194,0] 0 440,Mqnx 152 ybv 194 443 [3,194,195,0] 0 447,Mqnx 152 ybv 200 456 [3,200,201,0] 0 460,Mqnx 152 ybv 212 495 [3,212,213,0] 0 499,Mqnx 152 ybv 215 508 [3,215,217,0] 0 512,Mqnx 152 ybv 227 534 [3,227,228,0] 0 538,Mqnx 152 ybv 230 547 [3,230,232,0] 0 551,Mqnx 152 ybv 234 560 [3,234,235,0] 0 564,Mqnx 152 ybv 239 573 [3,239,240,0] 0 577,Mqnx 152 ybv 253 606 [3,253,254,0] 0 610]
theorem ycid:ybr yebq:=ybr.seq ybr.nil (by kernel_rfl)
def yead:List Fact:=[⟨198,[.pointer (some ⟨613,0,none⟩)],644,[⟨612,178,4,ybko⟩,⟨613,144,0,[.string ybv,.slice (some ⟨612,44,none⟩) 83 CU,.slice (some ⟨632,0,none⟩) 1 CU,.string (by8 [109,97,116,99,104,105,110,103]),.slice (some ⟨634,0,none⟩) 1 CU,.slice none 0 0,.slice (some ⟨641,0,none⟩) 1 CU]⟩,⟨632,9,1,[.string (by8 [112])]⟩,⟨634,160,6,[.string (by8 [112]),Mqii 3,Mqii 0,Mqii 0,Mqii 0,Mqii 0]⟩,⟨641,9,1,[.string (by8 [97,99,99,101,112,116])]⟩],.slice (some ⟨713,0,none⟩) 8 CU,716,[⟨613,144,0,[.string ybv,.slice (some ⟨612,100,none⟩) 69 CU,.slice (some ⟨632,0,none⟩) 1 CU,.string (by8 [109,97,116,99,104,105,110,103]),.slice (some ⟨634,0,none⟩) 1 CU,.slice none 0 0,.slice (some ⟨641,0,none⟩) 1 CU]⟩,⟨632,9,1,[.string (by8 [112])]⟩,⟨634,160,6,[.string (by8 [112]),Mqii 3,Mqii 0,Mqii 0,Mqii 0,Mqii 0]⟩,⟨641,9,1,[.string (by8 [97,99,99,101,112,116])]⟩,Mqb0],613⟩]
theorem ycip:ybr yead:=ybr.seq ybr.nil (by kernel_rfl)
def yeay:List Fact:=[⟨159,[.pointer (some ⟨613,0,none⟩)],776,[⟨612,178,4,ybko⟩,⟨613,144,0,[.string ybv,.slice (some ⟨612,160,none⟩) 54 CU,.slice (some ⟨632,0,none⟩) 1 CU,.string (by8 [109,97,116,99,104,105,110,103]),.slice (some ⟨634,0,none⟩) 1 CU,.slice (some ⟨773,0,none⟩) 1 CU,.slice (some ⟨641,0,none⟩) 1 CU]⟩,⟨632,9,1,[.string (by8 [112])]⟩,⟨634,160,6,[.string (by8 [112]),Mqii 3,Mqii 0,Mqii 0,Mqii 0,Mqii 0]⟩,⟨641,9,1,[.string (by8 [97,99,99,101,112,116])]⟩,Mqb0,Mqb1,Mqb2,⟨773,193,3,[.string (by8 [97,99,99,101,112,116]),.slice (some ⟨713,0,none⟩) 8 CU,.slice (some ⟨769,0,none⟩) 1 CU]⟩],.tuple #[],905,[⟨613,144,0,[.string ybv,.slice (some ⟨612,264,none⟩) 28 CU,.slice (some ⟨632,0,none⟩) 1 CU,.string (by8 [109,97,116,99,104,105,110,103]),.slice (some ⟨634,0,none⟩) 1 CU,.slice (some ⟨904,0,none⟩) 2 CU,.slice (some ⟨780,0,none⟩) 2 CU]⟩,⟨632,9,1,[.string (by8 [112])]⟩,⟨634,160,6,[.string (by8 [112]),Mqii 3,Mqii 0,Mqii 0,Mqii 0,Mqii 0]⟩,Mqb0,Mqb1,Mqb2,⟨780,9,1,[.string (by8 [97,99,99,101,112,116]),.string (by8 [112,114,111,112,111,115,101])]⟩,Mqb3,Mqb4,Mqb5,⟨904,193,3,[.string (by8 [97,99,99,101,112,116]),.slice (some ⟨713,0,none⟩) 8 CU,.slice (some ⟨769,0,none⟩) 1 CU,.string (by8 [112,114,111,112,111,115,101]),.slice (some ⟨848,0,none⟩) 8 CU,.slice (some ⟨900,0,none⟩) 1 CU]⟩],613⟩]
theorem ycgy:ybr yeay:=ybr.seq ybr.nil (by kernel_rfl)
end Ev
end
section
namespace Ev
def ydzx:List Fact:=[⟨159,[.pointer (some ⟨613,0,none⟩)],907,[⟨612,178,4,ybko⟩,⟨613,144,0,[.string ybv,.slice (some ⟨612,268,none⟩) 27 CU,.slice (some ⟨632,0,none⟩) 1 CU,.string (by8 [109,97,116,99,104,105,110,103]),.slice (some ⟨634,0,none⟩) 1 CU,.slice (some ⟨904,0,none⟩) 2 CU,.slice (some ⟨780,0,none⟩) 2 CU]⟩,⟨632,9,1,[.string (by8 [112])]⟩,⟨634,160,6,[.string (by8 [112]),Mqii 3,Mqii 0,Mqii 0,Mqii 0,Mqii 0]⟩,Mqb0,Mqb1,Mqb2,⟨780,9,1,[.string (by8 [97,99,99,101,112,116]),.string (by8 [112,114,111,112,111,115,101])]⟩,Mqb3,Mqb4,Mqb5,⟨904,193,3,[.string (by8 [97,99,99,101,112,116]),.slice (some ⟨713,0,none⟩) 8 CU,.slice (some ⟨769,0,none⟩) 1 CU,.string (by8 [112,114,111,112,111,115,101]),.slice (some ⟨848,0,none⟩) 8 CU,.slice (some ⟨900,0,none⟩) 1 CU]⟩],.tuple #[],1037,[⟨613,144,0,[.string ybv,.slice (some ⟨612,376,none⟩) 0 CU,.slice (some ⟨632,0,none⟩) 1 CU,.string (by8 [109,97,116,99,104,105,110,103]),.slice (some ⟨634,0,none⟩) 1 CU,.slice (some ⟨1036,0,none⟩) 3 CU,.slice (some ⟨911,0,none⟩) 3 CU]⟩,⟨632,9,1,[.string (by8 [112])]⟩,⟨634,160,6,[.string (by8 [112]),Mqii 3,Mqii 0,Mqii 0,Mqii 0,Mqii 0]⟩,Mqb0,Mqb1,Mqb2,Mqb3,Mqb4,Mqb5,⟨911,9,1,[.string (by8 [97,99,99,101,112,116]),.string (by8 [112,114,111,112,111,115,101]),.string (by8 [119,105,116,104,100,114,97,119])]⟩,Mqb6,Mqb7,Mqb8,⟨1036,193,3,[.string (by8 [97,99,99,101,112,116]),.slice (some ⟨713,0,none⟩) 8 CU,.slice (some ⟨769,0,none⟩) 1 CU,.string (by8 [112,114,111,112,111,115,101]),.slice (some ⟨848,0,none⟩) 8 CU,.slice (some ⟨900,0,none⟩) 1 CU,.string (by8 [119,105,116,104,100,114,97,119]),.slice (some ⟨1009,0,none⟩) 12 CU,.slice (some ⟨1032,0,none⟩) 1 CU]⟩],613⟩]
theorem yckr:ybr ydzx:=ybr.seq ybr.nil (by kernel_rfl)
def ycqk:Fact:=⟨166,[.agg #[.string (by8 [97,99,99,101,112,116]),.slice (some ⟨713,0,none⟩) 8 CU,.slice (some ⟨769,0,none⟩) 1 CU],.slice (some ⟨1282,0,none⟩) 1 1],1285,[Mqb0,Mqb1,Mqb2,⟨1282,3,1,(MqiL [3])⟩],.bool true,1409,[],1285⟩
def ycnw:Fact:=⟨166,[.agg #[.string (by8 [112,114,111,112,111,115,101]),.slice (some ⟨848,0,none⟩) 8 CU,.slice (some ⟨900,0,none⟩) 1 CU],.slice (some ⟨1282,0,none⟩) 1 1],1410,[Mqb3,Mqb4,Mqb5,⟨1282,3,1,(MqiL [3])⟩],.bool true,1534,[],1410⟩
def yeax:List Fact:=[ycqk,ycnw]
theorem yzl:ybr yeax:=ybr.seq ybr.nil (by kernel_rfl)
def ycwb:Fact:=⟨166,[.agg #[.string (by8 [119,105,116,104,100,114,97,119]),.slice (some ⟨1009,0,none⟩) 12 CU,.slice (some ⟨1032,0,none⟩) 1 CU],.slice (some ⟨1282,0,none⟩) 1 1],1535,[Mqb6,Mqb7,Mqb8,⟨1282,3,1,(MqiL [3])⟩],.bool true,1669,[],1535⟩
def yeae:List Fact:=[ycwb]
theorem ybkq:ybr yeae:=ybr.seq ybr.nil (by kernel_rfl)
end Ev
end
section
namespace Ev
def ydzk:List Fact:=[⟨117,[.string ybv],2,[],.tuple #[.slice (some ⟨612,0,none⟩) 94 CU,Mqii 0,Mqii 0],613,[⟨612,178,4,ybko⟩],2⟩]
theorem ycgv:ybr ydzk:=ybr.seq (ybr.append ycjn ycid) (by kernel_rfl)
def ydzs:List Fact:=[⟨120,[.agg #[.string (by8 [109,97,116,99,104,105,110,103]),.slice (some ⟨634,0,none⟩) 1 CU,.slice (some ⟨1036,0,none⟩) 3 CU]],1037,[⟨634,160,6,[.string (by8 [112]),Mqii 3,Mqii 0,Mqii 0,Mqii 0,Mqii 0]⟩,Mqb0,Mqb1,Mqb2,Mqb3,Mqb4,Mqb5,Mqb6,Mqb7,Mqb8,⟨1036,193,3,[.string (by8 [97,99,99,101,112,116]),.slice (some ⟨713,0,none⟩) 8 CU,.slice (some ⟨769,0,none⟩) 1 CU,.string (by8 [112,114,111,112,111,115,101]),.slice (some ⟨848,0,none⟩) 8 CU,.slice (some ⟨900,0,none⟩) 1 CU,.string (by8 [119,105,116,104,100,114,97,119]),.slice (some ⟨1009,0,none⟩) 12 CU,.slice (some ⟨1032,0,none⟩) 1 CU]⟩],Mqii 0,1669,[],1037⟩]
theorem ychk:ybr ydzs:=ybr.seq (ybr.append yzl ybkq) (by kernel_rfl)
def Mqm0:Fact:=ycqk.move [713,762,769,1916] 1919
theorem ydfo:yeq zA Mqm0:=yhs (ybr.at_ yzl 0 rfl) (by kernel_rfl)
def Mqm1:Fact:=ycnw.move [848,893,900,1916] 2044
theorem ydgm:yeq zA Mqm1:=yhs (ybr.at_ yzl 1 rfl) (by kernel_rfl)
def Mqm2:Fact:=ycwb.move [1009,1025,1032,1916] 2169
theorem yddc:yeq zA Mqm2:=yhs (ybr.at_ ybkq 0 rfl) (by kernel_rfl)
def yzr:Fact:=⟨130,[.agg #[.string (by8 [109,97,116,99,104,105,110,103]),.slice (some ⟨634,0,none⟩) 1 CU,.slice (some ⟨1036,0,none⟩) 3 CU]],1670,[⟨634,160,6,[.string (by8 [112]),Mqii 3,Mqii 0,Mqii 0,Mqii 0,Mqii 0]⟩,Mqb0,Mqb1,Mqb2,Mqb3,Mqb4,Mqb5,Mqb6,Mqb7,Mqb8,⟨1036,193,3,[.string (by8 [97,99,99,101,112,116]),.slice (some ⟨713,0,none⟩) 8 CU,.slice (some ⟨769,0,none⟩) 1 CU,.string (by8 [112,114,111,112,111,115,101]),.slice (some ⟨848,0,none⟩) 8 CU,.slice (some ⟨900,0,none⟩) 1 CU,.string (by8 [119,105,116,104,100,114,97,119]),.slice (some ⟨1009,0,none⟩) 12 CU,.slice (some ⟨1032,0,none⟩) 1 CU]⟩],.bool true,2303,[],1670⟩
def ydrk:List Fact:=[yzr]
theorem ybbr:ybr ydrk:=ybr.seq (ybr.append (ybr.cons (f:=Mqm0) ydfo ybr.nil) (ybr.append (ybr.cons (f:=Mqm1) ydgm ybr.nil) (ybr.cons (f:=Mqm2) yddc ybr.nil))) (by kernel_rfl)
end Ev
end
section
namespace Ev
def yui:Fact:=⟨11,[.string ybv],0,[],.agg #[.string (by8 [109,97,116,99,104,105,110,103]),.slice (some ⟨634,0,none⟩) 1 CU,.slice (some ⟨1036,0,none⟩) 3 CU],1670,[⟨634,160,6,[.string (by8 [112]),Mqii 3,Mqii 0,Mqii 0,Mqii 0,Mqii 0]⟩,Mqb0,Mqb1,Mqb2,Mqb3,Mqb4,Mqb5,Mqb6,Mqb7,Mqb8,⟨1036,193,3,[.string (by8 [97,99,99,101,112,116]),.slice (some ⟨713,0,none⟩) 8 CU,.slice (some ⟨769,0,none⟩) 1 CU,.string (by8 [112,114,111,112,111,115,101]),.slice (some ⟨848,0,none⟩) 8 CU,.slice (some ⟨900,0,none⟩) 1 CU,.string (by8 [119,105,116,104,100,114,97,119]),.slice (some ⟨1009,0,none⟩) 12 CU,.slice (some ⟨1032,0,none⟩) 1 CU]⟩],0⟩
def ydzl:List Fact:=[yui]
theorem ybln:ybr ydzl:=ybr.seq (ybr.append ycgv (ybr.append ycip (ybr.append ycgy (ybr.append yckr ychk)))) (by kernel_rfl)
end Ev
end
section
namespace Ev
end Ev
end
end Go.Proofs.YthclbjjgfcgbgaaGreatDoor
