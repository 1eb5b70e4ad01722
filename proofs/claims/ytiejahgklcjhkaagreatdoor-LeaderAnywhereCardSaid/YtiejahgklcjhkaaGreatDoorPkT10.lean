/- Joined. -/
import Derived.Test.YtiejahgklcjhkaaGreatDoorPkT8
import Derived.Lib.Bytealg
set_option linter.unusedSimpArgs false
set_option linter.unusedVariables false
set_option maxRecDepth 1000000
open Go.Proofs.Tryz renaming prog→zA,func149→zU
open Bool renaming and_eq_true→zB,cond_eq_ite→zH,false_eq_true→zK
open Nat renaming le_of_ble_eq_true→zC,lt_of_lt_of_le→zF,lt_succ_self→zI,le_refl→zJ,eq_of_beq_eq_true→zN,ble_eq_true_of_le→zO,blt→zQ,ble→zW,add→zX,sub→zY,beq→zZ
open Go.Lib renaming indexByte→zD,hid→zV
open List renaming mem_of_getElem?→zG,getElem?_map→zL,length_map→zM,all_cons→zS
open Classical renaming byContradiction→zT
open Go
namespace Go.Proofs.YtiejahgklcjhkaaGreatDoor
section
namespace Ev
open Go Go.RowKit
theorem ynf(c:UInt8):∀(l:List UInt8) (k:Nat),(match findByte c l k with|some i=>Int.ofNat i|none=>-1)=(if zD l c == -1 then -1 else zD l c+(k:Int))
 |[],k=>by simp[findByte,zD]
 | x :: l,k=>by
   unfold findByte zD
   by_cases hx:x=c
   ·subst hx;simp
   ·have h1:zZ x.toNat c.toNat=false:=by
     rw[Bool.eq_false_iff];intro h;exact hx (UInt8.toNat_inj.1 (zN h))
    have h2:(x==c)=false:=by simpa using hx
    rw[h1,h2];have ih:=ynf c l (k+1);simp only[zH,zK,if_false];rw[ih];have:=Lib.indexByte_ge l c
    by_cases hm:zD l c = -1
    ·simp[hm]
    ·have hm':(zD l c == -1)=false:=by simpa using hm
     rw[hm'];simp only[zK,if_false];rw[if_neg (by simp;omega)]
     push_cast;omega
theorem ybbw(args:List Value)(m:Mem)(out:Out)(h:evIndexByte m args=some out):ybq zA (.call 261 args m) out:=by
 unfold evIndexByte at h;split at h
 ·rename_i s c
  have hf:=ynf c.toUInt8 s.data.toList 0
  have key:∀n:Int,n=zD s.data.toList c.toUInt8->ybq zA (.call 261 [.string s,.int .u8 (.ofNat c)] m) (.call (.int .i64 n) (enterM m)):=by
   intro n hn hw;refine⟨⟨zJ _,fun i b hb=>.inl ⟨b,hb⟩,fun i b _ _ hb=>hb,hw⟩,fun φ M w args' hR hs hv _=>.inr ⟨.int .i64 n,w,?_,?_⟩⟩
   ·have e:args'=[.string s,.int .u8 (.ofNat c)]:=by
     cases hv with
     | cons h1 h2 =>
       cases h2 with
       | cons h3 h4 =>
         cases h4
         rw[h1.eq_simple rfl,h3.eq_simple rfl]
    subst e;rw[run_callFunc_extern Tryz.func261 (by kernel_rfl) (by kernel_rfl) (by kernel_rfl) (by kernel_rfl),Lib.run_indexByteString,hn]
    rfl
   ·exact⟨_,rfl,φ,M,⟨φ.le_refl,fun _ _=>rfl,hR,hs,fun _ _ _=>rfl,WG.refl _ _ _⟩,.simple rfl⟩
  have h0:(if zD s.data.toList c.toUInt8 == -1 then -1 else zD s.data.toList c.toUInt8+((0:Nat):Int))=zD s.data.toList c.toUInt8:=by
   by_cases hm:zD s.data.toList c.toUInt8 = -1
   ·simp[hm]
   ·simp[hm]
  rw[h0]at hf;split at h
  ·rename_i i hi
   rw[hi]at hf;simp only[ybm]at h;cases h
   exact key _ hf
  ·rename_i hi
   rw[hi]at hf;cases h
   exact key _ hf
 ·cases h
end Ev
end
section
open Go.RowKit
theorem ywt(w:World):Calls zA 176 #[.nilIface] w fun e w'=>e = .returned (.tuple #[.agg #[.int .i64 0,.int .i64 0],.bool false])/\Below w.heap.size w w':=by
 go_enter Tryz.func176,Tryz.ntmps176
 go_wp2
 refine⟨rfl,.tuple #[.agg #[.int .i64 0,.int .i64 0],.bool false],?_,rfl,?_⟩
 ·simp[results,Tryz.results176,go_sem]
 ·exact(Below.refl _ _).alloc (zJ _) _
theorem catch_idle(p q:Addr)(w:World) :
 CallsD zA 175 #[.pointer (some p),.pointer (some q)] .returning w fun e u' w'=>e = .returned (.tuple #[])/\u' = .returning/\Below w.heap.size w w':=by
 refine callsD_of_wpS Tryz.func175 rfl fun c₀ cs hu=>?_;apply wpS_seq;apply wpS_region;simp[wpOpsS,go_sem,recoverD,hu,Tryz.ntmps175,Exit.thenS];refine(ywt w).mono ?_;rintro e w1 ⟨rfl,hb⟩;simp[go_sem];apply wpS_seq;apply wpS_region;simp[wpOpsS,go_sem,Exit.thenS];refine wpS_cond (t:=false) (by simp[Act.eval,Array.replicate]) ?_
 simp only[zK,if_false];refine wpS_of_wp (wp_skip ?_);refine⟨rfl,.returning,by cases c₀;simp_all,.tuple #[],by simp[results,Tryz.results175],rfl,rfl,hb.alloc hb.size _⟩
def yfi(w:World):World:=(w.alloc (.cells #[.int .i64 0] 3)).alloc (.cells #[.int .i64 0] 62)
theorem yccn(w:World):(yfi w).heap[w.heap.size]?=some (.cells #[.int .i64 0] 3):=by
 unfold yfi;rw[Below.heap_alloc _ _ _ (by simp[go_sem])]
 exact heap_alloc_new w _
theorem ycdd(w:World):(yfi w).heap[w.heap.size+1]?=some (.cells #[.int .i64 0] 62):=by
 have:=heap_alloc_new (w.alloc (.cells #[.int .i64 0] 3)) (.cells #[.int .i64 0] 62);rw[show(w.alloc (.cells #[.int .i64 0] 3)).heap.size=w.heap.size+1 by simp[go_sem]]at this
 exact this
theorem ybdz (h:FuncId) (first cap:Array Value) (w:World) (Q:World->Prop)
 (hq:∀w',Q w'->w'.heap[w.heap.size]?=(yfi w).heap[w.heap.size]?/\w'.heap[w.heap.size+1]?=(yfi w).heap[w.heap.size+1]?)
 (hc:((callFunc h (first++cap)).run zA (yfi w) = .ok (.enter h (first++cap)) (yfi w)/\Calls zA h (first++cap) (yfi w) fun e w'=>(∃v,e = .returned v)/\Q w') \/
   (∃v w',(callFunc h (first++cap)).run zA (yfi w) = .ok (.value v) w'/\Q w')) :
 Calls zA 149 #[.func (.func h) first cap] w fun e w''=>e = .returned (.tuple #[.int .i64 0,.int .i64 0]) /\
  ∃w',Q w'/\Below w'.heap.size ((w'.setCell ⟨w.heap.size,0,none⟩ (.int .i64 0)).setCell ⟨w.heap.size+1,0,none⟩ (.int .i64 0)) w'':=by
 have hmf:∀(fn:Fn) (first cap:Array Value) (w:World),(Instr.makeFunc fn first cap).run zA w = .ok (.func fn first cap) w:=fun _ _ _ _=>rfl
 have Hq:=zV hq;clear hq
 have Hc:=zV hc;clear hc
 go_enter_defers zU,Tryz.ntmps149
 generalize hC:(Code.seq (Code.region 2 _ false) _)=C
 generalize hB:(bodyPostD _ _ _)=B
 go_wp2
 subst hC hB;refine wp_seq (wp_region_list ?_);refine wpList_plain rfl fun K hK=>?_;simp[Oper.wp,go_sem];apply hK;refine wpList_plain rfl fun K2 hK2=>?_;simp[Oper.wp,go_sem]
 have key:∀v w',Q w'->K2 { tmps:=#[.func (.func h) first cap,undef,.pointer (some ⟨w.heap.size,0,none⟩),.pointer (some ⟨w.heap.size+1,0,none⟩),.func (.func 175) #[] #[.pointer (some ⟨w.heap.size,0,none⟩),.pointer (some ⟨w.heap.size+1,0,none⟩)],.func (.func h) first cap,v],defers:=[{ target:=.fn (.func 175) #[.pointer (some ⟨w.heap.size,0,none⟩),.pointer (some ⟨w.heap.size+1,0,none⟩)],args:=#[] }] } w':=by
  intro v w' hQ;apply hK2;refine wpList_nil ?_;obtain⟨h1,h2⟩:=Hq.out w' hQ;have h1:w'.heap[w.heap.size]?=some (.cells #[.int .i64 0] 3):=h1.trans (yccn w);have h2:w'.heap[w.heap.size+1]?=some (.cells #[.int .i64 0] 62):=h2.trans (ycdd w);have c1:w'.cell? ⟨w.heap.size,0,none⟩=some (.int .i64 0):=by simp[World.cell?,h1]
  have c2:w'.cell? ⟨w.heap.size+1,0,none⟩=some (.int .i64 0):=by simp[World.cell?,h2]
  have z1:w'.frozen? ⟨w.heap.size,0,none⟩=false:=by simp[World.frozen?,h1]
  have z2:w'.frozen? ⟨w.heap.size+1,0,none⟩=false:=by simp[World.frozen?,h2]
  have l1:=(Array.getElem?_eq_some_iff.1 h1).1;have l2:=(Array.getElem?_eq_some_iff.1 h2).1;have HQ:=zV hQ;clear hQ
  clear h1 h2
  simp only[Exit.then]
  go_wp2
  refine leaves_cons (f:=175) (args:=#[.pointer (some ⟨w.heap.size,0,none⟩),.pointer (some ⟨w.heap.size+1,0,none⟩)]) (by simp) (by simp[go_sem]) ?_
  refine(catch_idle ⟨w.heap.size,0,none⟩ ⟨w.heap.size+1,0,none⟩ _).mono ?_;rintro e u' w'' ⟨rfl,rfl,hb⟩;have hsz:((w'.setCell ⟨w.heap.size,0,none⟩ (.int .i64 0)).setCell ⟨w.heap.size+1,0,none⟩ (.int .i64 0)).heap.size=w'.heap.size:=by simp[go_sem]
  rw[hsz]at hb
  have d1:w''.cell? ⟨w.heap.size,0,none⟩=some (.int .i64 0):=by
   rw[hb.cell l1];simp[go_sem,c1]
  have d2:w''.cell? ⟨w.heap.size+1,0,none⟩=some (.int .i64 0):=by
   rw[hb.cell l2];simp[go_sem,c2]
  simp[Leaves,settle,results,Tryz.results149,go_sem,d1,d2];exact⟨w',HQ.out,hb⟩
 have hcc:=RowKit.Hid.out Hc
 clear Hc hmf Hq hK
 revert key
 generalize K2=K
 intro key;rw[show((w.alloc (Obj.cells #[Value.int IntKind.i64 0] 3)).alloc (Obj.cells #[Value.int IntKind.i64 0] 62))=yfi w from rfl]
 generalize Sem.run zA (callFunc h (first++cap)) (yfi w)=r at hcc ⊢
 rcases hcc with⟨rfl,hc⟩|⟨v,w',rfl,hc⟩
 ·rw[Oper.upon_enter];refine hc.mono ?_;rintro e w' ⟨⟨v,rfl⟩,hQ⟩;exact key v w' hQ
 ·exact key v w' hc
end
section
namespace Ev
open Go Go.RowKit
theorem yre(w:World)(k:Nat)(hk:k<w.heap.size):(yfi w).heap[k]?=w.heap[k]?:=by
 unfold yfi;rw[Below.heap_alloc _ _ _ (by simp[go_sem];omega),Below.heap_alloc _ _ _ hk]
theorem yer(w:World):(yfi w).heap.size=w.heap.size+2:=by simp[yfi,go_sem]
theorem ycbs(self:Task->Option Out)(hself:yeh zA self)(args:List Value)(m:Mem)(out:Out)(h:evCatch self m args=some out):ybq zA (.call 149 args m) out:=by
 unfold evCatch at h;split at h
 ·rename_i g first captured
  obtain⟨o,ho,h2⟩:=yh h;cases o with
  |code=>cases h2
  | call v m1 =>
    cases h2
    have hs:=hself _ _ ho;intro hw;obtain⟨hext,hall⟩:=hs hw;refine⟨hext,fun φ M w args' hR hsub hv hfresh=>.inl ⟨ycu ytg zU rfl _ _,?_⟩⟩;obtain⟨u,rfl,hu⟩:=yhs hv;obtain⟨x',y',rfl,hf1,hf2⟩:=hu.func_inv;have hR2:Rel φ M (yfi w):=hR.keep fun k hk=>yre w k hk
    have himg:∀k,w.heap.size<=k->¬Img φ M k:=by
     rintro k hk ⟨i,b,l,h1,h2,h3⟩;obtain⟨l',h4,h5⟩:=hR.blk i b h1;rw[h2]at h4;cases h4
     have:=h5.lt;omega
    have hcall:=hall φ M (yfi w) (x'++y') hR2 hsub (hf1.append hf2) hfresh;rw[show(x'++y').toArray=x'.toArray++y'.toArray by simp]at hcall
    refine(ybdz g x'.toArray y'.toArray w (fun w'=>∃e,ydin φ M (yfi w) m v m1 e w') ?_ ?_).mono ?_
    ·rintro w' ⟨e,v',rfl,φ',M',hgood,hvr⟩;exact⟨hgood.wg.keep _ (by rw[yer];omega) (himg _ (zJ _)),hgood.wg.keep _ (by rw[yer];omega) (himg _ (by omega))⟩
    ·rcases hcall with⟨h1,h2⟩|⟨v',w',h1,h2⟩
     ·refine .inl ⟨h1,h2.mono ?_⟩;intro e w' hk;have hk':=hk;obtain⟨v',rfl,_⟩:=hk;exact⟨⟨_,rfl⟩,_,hk'⟩
     ·exact .inr ⟨v',w',h1,_,h2⟩
    ·rintro e w'' ⟨rfl,w',⟨e,v',rfl,φ',M',hgood,hvr⟩,hb⟩;have hsz:w.heap.size+2<=w'.heap.size:=by rw[<-yer];exact hgood.wg.size
     have hheap:∀k,k<w'.heap.size->k≠w.heap.size->k≠w.heap.size+1->w''.heap[k]?=w'.heap[k]?:=fun k hk h1 h2=>by
      rw[hb.block k hk,Below.heap_setCell _ _ _ _ h2,Below.heap_setCell _ _ _ _ h1]
     have hne:∀k,Img φ' M' k->k≠w.heap.size/\k≠w.heap.size+1:=fun k hi=>by
      refine⟨?_,?_⟩
      ·rintro rfl;exact himg _ (zJ _) (hgood.wg.img _ (by rw[yer];omega) hi)
      ·rintro rfl;exact himg _ (by omega) (hgood.wg.img _ (by rw[yer];omega) hi)
     have hb2:w'.heap.size<=w''.heap.size:=by
      have:=hb.size
      simpa[go_sem]using this
     refine⟨_,rfl,φ',M',⟨hgood.le,hgood.out,⟨⟨fun i b h1=>?_,hgood.rel.inj⟩,fun x hx=>⟨?_,(hgood.rel.gl x hx).2⟩⟩,hgood.sub,hgood.frame,⟨hb.os.trans hgood.wg.os,hb.tape.trans hgood.wg.tape,hb.output.trans hgood.wg.output,by omega,fun k hk hi=>?_,fun k hk hi=>hgood.wg.img k (by rw[yer];omega) hi⟩⟩,?_⟩
     ·obtain⟨l,h2,h3⟩:=hgood.rel.blk i b h1;have hn:=hne l.blk ⟨i,b,l,h1,h2,rfl⟩;exact⟨l,h2,h3.keep (hheap _ h3.lt hn.1 hn.2)⟩
     ·obtain⟨e,fz,q⟩:=(hgood.rel.gl x hx).1;obtain⟨e0,fz0,q0⟩:=(hR.gl x hx).1;have hlt:=(Array.getElem?_eq_some_iff.1 q0).1;exact⟨e,fz,(hheap _ (by omega) (by omega) (by omega)).trans q⟩
     ·rw[hheap k (by omega) (by omega) (by omega),hgood.wg.keep k (by rw[yer];omega) hi,yre w k hk]
     ·exact .tuple (.cons (.simple rfl) (.cons (.simple rfl) .nil))
 ·cases h
end Ev
end
section
namespace Ev
open Go Go.RowKit
def hkC(cs:List Chunk):Hooks:=⟨some 149,some 261,some 153,symB,cs,none⟩
def hk(fs:List Fact):Hooks:=hkC [⟨1000000000000,fs⟩]
def yu(fs:List Fact):Prop:=∀f∈fs,yew zA f
def ybk(cs:List Chunk):Prop:=∀c∈cs,yu c.l
theorem ycsm{cs:List Chunk}(h:ybk cs):HooksOk zA (hkC cs) :=
 ⟨fun g h=>(by cases h;exact ycbs),fun g h=>(by cases h;exact ybbw),fun g h=>(by cases h;exact ybpv),h,fun g h=>(by cases h)⟩
theorem ybk.nil:ybk []:=fun c hc=>by cases hc
theorem ybk.cons{n:Nat}{l:List Fact}{cs:List Chunk}(h:yu l)(t:ybk cs):ybk (⟨n,l⟩::cs):=fun c hc=>by
 rcases List.mem_cons.1 hc with rfl|hc
 ·exact h
 ·exact t c hc
theorem ydjv{fs:List Fact}(h:yu fs):HooksOk zA (hk fs):=ycsm (ybk.cons h ybk.nil)
theorem yu.nil:yu []:=fun f hf=>by cases hf
theorem yu.cons{f:Fact}{l:List Fact}(h:yew zA f)(t:yu l):yu (f::l):=fun x hx=>by
 rcases List.mem_cons.1 hx with rfl|hx
 ·exact h
 ·exact t x hx
theorem yu.at_{f:Fact}{l:List Fact}(h:yu l)(i:Nat)(e:l[i]?=some f):yew zA f:=h f (zG e)
theorem yu.append{a b:List Fact}(ha:yu a)(hb:yu b):yu (a++b):=fun f hf=>by
 rcases List.mem_append.1 hf with h|h
 ·exact ha f h
 ·exact hb f h
theorem yu.check{fs new:List Fact}(h:yu fs)(hc:new.all (fun f=>f.check zA (hk fs))=true):yu new:=fun f hf =>
 yjl (yng mix ytg (ydjv h) 3000) (List.all_eq_true.1 hc f hf)
noncomputable def checkSeq(new:List Fact):List Fact->Bool:=List.rec (fun _=>true) (fun f _ ih fs=>f.check zA (hk fs)&&ih (f::fs)) new
theorem yu.seq:∀{new fs:List Fact},yu fs->checkSeq new fs=true->yu new
 |[],_,_,_=>yu.nil
 | f :: l,fs,h,hc=>by
   have hc:(f.check zA (hk fs)&&checkSeq l (f::fs))=true:=hc;rw[zB]at hc;have hf:yew zA f:=yjl (yng mix ytg (ydjv h) 3000) hc.1
   have hfs:yu (f::fs):=fun x hx=>by
    rcases List.mem_cons.1 hx with rfl|hx
    ·exact hf
    ·exact h x hx
   have hl:=yu.seq hfs hc.2;intro x hx;rcases List.mem_cons.1 hx with rfl|hx
   ·exact hf
   ·exact hl x hx
theorem yu.one{f:Fact}{cs:List Chunk}(h:ybk cs)(hc:f.check zA (hkC cs)=true):yu [f] :=
 yu.cons (yjl (yng mix ytg (ycsm h) 3000) hc) yu.nil
def by8(l:List Nat):ByteArray:=⟨(l.map Nat.toUInt8).toArray⟩
end Ev
end
section
namespace Ev
noncomputable section defs
def renA(ρ:Nat->Nat)(a:Addr):Addr:=forceN (ρ a.block) fun b=>⟨b,a.off,a.spot⟩
def ren1(ρ:Nat->Nat):Value->Value
 |.pointer (some a)=>.pointer (some (renA ρ a))
 |.slice (some a) n c=>.slice (some (renA ρ a)) n c
 |v=>v
def ren2(ρ:Nat->Nat):Value->Value
 |.agg a=>.agg (a.toList.map (ren1 ρ)).toArray
 |.func g a c=>.func g (a.toList.map (ren1 ρ)).toArray (c.toList.map (ren1 ρ)).toArray
 |v=>ren1 ρ v
def renV(ρ:Nat->Nat):Value->Value
 |.tuple a=>.tuple (a.toList.map (ren2 ρ)).toArray
 |v=>ren2 ρ v
def yqa:Value->Bool
 |.pointer (some a)=>a.spot.isNone
 |.slice (some a) _ _=>a.spot.isNone
 |v=>simple v
def yko:Value->Bool
 |.agg a=>a.toList.all yqa
 |.func (.func _) a c=>a.toList.all yqa&&c.toList.all yqa
 |v=>yqa v
def ybph:Value->Bool
 |.tuple a=>a.toList.all yko
 |v=>yko v
def yyf:List BlkL->List Nat->Nat->Nat->Nat
 |b::l,t::k,d,i=>bif zZ b.i i then t else yyf l k d i
 |_,_,d,_=>d
def Fact.rho(f:Fact)(tgt:List Nat)(n0:Nat)(i:Nat):Nat :=
 bif zW f.next0 i&&zQ i f.next1 then zX (zY i f.next0) n0 else yyf f.pre tgt (zX n0 (zY f.next1 f.next0)) i
def BlkL.ren(ρ:Nat->Nat)(b:BlkL):BlkL:=⟨forceN (ρ b.i) fun i=>i,b.e,b.z,b.l.map (ren2 ρ)⟩
def Fact.move(f:Fact)(tgt:List Nat)(n0:Nat):Fact :=
 ⟨f.g,f.args.map (ren2 (f.rho tgt n0)),n0,f.pre.map (BlkL.ren (f.rho tgt n0)),renV (f.rho tgt n0) f.v,zX n0 (zY f.next1 f.next0),f.post.map (BlkL.ren (f.rho tgt n0)),n0⟩
def Fact.after(f:Fact):Mem:=⟨f.next1,blksT f.mem.b f.post,f.next0⟩
def ygl:List Nat->Bool
 |[]=>true
 |x::l=>!(l.elem x)&&ygl l
def Fact.moves(f:Fact)(tgt:List Nat)(n0:Nat):Bool :=
 zW f.next0 f.low&&f.args.all yko&&ybph f.v&&f.pre.all (fun b=>zQ b.i f.next0&&b.l.all yko)&&f.post.all (fun b=>zQ b.i f.next1&&b.l.all yko) &&
  ygl ((f.move tgt n0).pre.map (·.i))&&(f.move tgt n0).pre.all (fun b=>zQ b.i n0&&blkIs (f.move tgt n0).mem b)&&(f.move tgt n0).post.all (blkIs (f.move tgt n0).after)&&zW f.next0 f.next1
end defs
section
variable {φ φ2:Phi}{ρ:Nat->Nat}
theorem yjp(a:Addr):renA ρ a=⟨ρ a.block,a.off,a.spot⟩:=by unfold renA;rw[ybm]
theorem BlkL.ygz(b:BlkL):(b.ren ρ).i=ρ b.i:=by show forceN (ρ b.i) (fun i=>i)=_;rw[ybm]
theorem vr1(hφ:∀b,φ b=φ2 (ρ b)){v v':Value}(hf:yqa v=true):VR φ v v'↔VR φ2 (ren1 ρ v) v':=by
 unfold yqa at hf;split at hf
 ·rename_i a
  obtain⟨b,o,s⟩:=a;have hs:s=none:=by simpa using hf
  subst hs;show VR φ _ _↔VR φ2 (.pointer (some (renA ρ ⟨b,o,none⟩))) v';rw[yjp];constructor
  ·intro h;cases h with
   |simple q=>cases q
   |ptr h=>rw[hφ]at h;exact VR.ptr h
  ·intro h;cases h with
   |simple q=>cases q
   |ptr h=>rw[<-hφ]at h;exact VR.ptr h
 ·rename_i a n c
  obtain⟨b,o,s⟩:=a;have hs:s=none:=by simpa using hf
  subst hs;show VR φ _ _↔VR φ2 (.slice (some (renA ρ ⟨b,o,none⟩)) n c) v';rw[yjp];constructor
  ·intro h;cases h with
   |simple q=>cases q
   |slice h h1 h2 h3 h4=>rw[hφ]at h;exact VR.slice h h1 h2 h3 h4
  ·intro h;cases h with
   |simple q=>cases q
   |slice h h1 h2 h3 h4=>rw[<-hφ]at h;exact VR.slice h h1 h2 h3 h4
 ·rename_i h1 h2
  have hr:ren1 ρ v=v:=by
   unfold ren1;split
   ·rename_i a;exact absurd rfl (h1 a)
   ·rename_i a n c;exact absurd rfl (h2 a n c)
   ·rfl
  rw[hr];constructor
  ·intro h;rw[h.eq_simple hf];exact VR.simple hf
  ·intro h;rw[h.eq_simple hf];exact VR.simple hf
theorem vrl1(hφ:∀b,φ b=φ2 (ρ b)):∀{l l':List Value},l.all yqa=true->(VRL φ l l'↔VRL φ2 (l.map (ren1 ρ)) l')
 | [],l',_=>by
   constructor
   ·intro h;cases h;exact VRL.nil
   ·intro h;cases h;exact VRL.nil
 | v :: l,l',hf=>by
   simp only[zS,zB]at hf;constructor
   ·intro h;cases h with
    |cons h1 h2=>exact VRL.cons ((vr1 hφ hf.1).1 h1) ((vrl1 hφ hf.2).1 h2)
   ·intro h;cases h with
    |cons h1 h2=>exact VRL.cons ((vr1 hφ hf.1).2 h1) ((vrl1 hφ hf.2).2 h2)
theorem vr2(hφ:∀b,φ b=φ2 (ρ b)){v v':Value}(hf:yko v=true):VR φ v v'↔VR φ2 (ren2 ρ v) v':=by
 unfold yko at hf;split at hf
 ·rename_i a
  obtain⟨a⟩:=a;show VR φ (.agg a.toArray) _↔VR φ2 (.agg (a.map (ren1 ρ)).toArray) v';constructor
  ·intro h;cases h with
   |simple q=>cases q
   |agg h=>exact VR.agg ((vrl1 hφ hf).1 h)
  ·intro h;cases h with
   |simple q=>cases q
   |agg h=>exact VR.agg ((vrl1 hφ hf).2 h)
 ·rename_i g a c
  obtain⟨a⟩:=a;obtain⟨c⟩:=c;simp only[zB]at hf;show VR φ (.func (.func g) a.toArray c.toArray) _↔VR φ2 (.func (.func g) (a.map (ren1 ρ)).toArray (c.map (ren1 ρ)).toArray) v';constructor
  ·intro h;cases h with
   |simple q=>cases q
   |func h k=>exact VR.func ((vrl1 hφ hf.1).1 h) ((vrl1 hφ hf.2).1 k)
  ·intro h;cases h with
   |simple q=>cases q
   |func h k=>exact VR.func ((vrl1 hφ hf.1).2 h) ((vrl1 hφ hf.2).2 k)
 ·rename_i h1 h2
  have hr:ren2 ρ v=ren1 ρ v:=by
   unfold ren2;split
   ·rename_i a;exact absurd rfl (h1 a)
   ·rename_i g a c
    cases hf
   ·rfl
  rw[hr];exact vr1 hφ hf
theorem vrl2(hφ:∀b,φ b=φ2 (ρ b)):∀{l l':List Value},l.all yko=true->(VRL φ l l'↔VRL φ2 (l.map (ren2 ρ)) l')
 | [],l',_=>by
   constructor
   ·intro h;cases h;exact VRL.nil
   ·intro h;cases h;exact VRL.nil
 | v :: l,l',hf=>by
   simp only[zS,zB]at hf;constructor
   ·intro h;cases h with
    |cons h1 h2=>exact VRL.cons ((vr2 hφ hf.1).1 h1) ((vrl2 hφ hf.2).1 h2)
   ·intro h;cases h with
    |cons h1 h2=>exact VRL.cons ((vr2 hφ hf.1).2 h1) ((vrl2 hφ hf.2).2 h2)
theorem vrV(hφ:∀b,φ b=φ2 (ρ b)){v v':Value}(hf:ybph v=true)(h:VR φ v v'):VR φ2 (renV ρ v) v':=by
 unfold ybph at hf;split at hf
 ·rename_i a
  obtain⟨a⟩:=a;show VR φ2 (.tuple (a.map (ren2 ρ)).toArray) v';cases h with
  |simple q=>cases q
  |tuple h=>exact VR.tuple ((vrl2 hφ hf).1 h)
 ·rename_i h1
  have hr:renV ρ v=ren2 ρ v:=by
   unfold renV;split
   ·rename_i a;exact absurd rfl (h1 a)
   ·rfl
  rw[hr];exact(vr2 hφ hf).1 h
theorem ytu{α:Type}{g:α->Nat}:∀{l:List α},ygl (l.map g)=true->∀a∈l,∀b∈l,g a=g b->a=b
 |[],_,a,ha,_,_,_=>by cases ha
 | x :: l,h,a,ha,b,hb,e=>by
   have h:(!(l.map g).elem (g x)&&ygl (l.map g))=true:=h;simp only[zB,Bool.not_eq_true']at h
   have hx:∀y∈l,g y≠g x:=fun y hy q=>by
    have:(l.map g).elem (g x)=true:=List.elem_eq_true_of_mem (List.mem_map.2 ⟨y,hy,q⟩);rw[this]at h;cases h.1
   rcases List.mem_cons.1 ha with ea|ha'
   ·rcases List.mem_cons.1 hb with eb|hb'
    ·rw[ea,eb]
    ·exact absurd (by rw[<-e,ea]) (hx b hb')
   ·rcases List.mem_cons.1 hb with eb|hb'
    ·exact absurd (by rw[e,eb]) (hx a ha')
    ·exact ytu h.2 a ha' b hb' e
theorem ybio:∀(l:List BlkL) (k:List Nat) (d i:Nat),yyf l k d i=d\/∃b∈l,b.i=i
 |[],_,_,_=>.inl rfl
 |_::_,[],_,_=>.inl rfl
 | b :: l,t::k,d,i=>by
   unfold yyf;rw[zH];split
   ·rename_i h;exact .inr ⟨b,List.mem_cons_self,zN h⟩
   ·rcases ybio l k d i with h|⟨c,h1,h2⟩
    ·exact .inl h
    ·exact .inr ⟨c,List.mem_cons_of_mem _ h1,h2⟩
end
theorem yij{P:Program}{f:Fact}{tgt:List Nat}{n0:Nat}(hok:yew P f)(hc:f.moves tgt n0=true):yew P (f.move tgt n0):=by
 obtain⟨m',hs,e1,e2,e3⟩:=hok;unfold Fact.moves at hc;simp only[zB]at hc;obtain⟨⟨⟨⟨⟨⟨⟨⟨c1,c2⟩,c3⟩,c4⟩,c5⟩,c6⟩,c7⟩,c8⟩,c9⟩:=hc;have c1:=zC c1;have c9:=zC c9;obtain⟨ρ,hρ⟩:∃ρ,f.rho tgt n0=ρ:=⟨_,rfl⟩;obtain⟨n1,hn1⟩:∃n1,n0+(f.next1-f.next0)=n1:=⟨_,rfl⟩
 have hmv:f.move tgt n0=⟨f.g,f.args.map (ren2 ρ),n0,f.pre.map (BlkL.ren ρ),renV ρ f.v,n1,f.post.map (BlkL.ren ρ),n0⟩:=by
  unfold Fact.move;rw[hρ,<-hn1];rfl
 rw[hmv]at c6 c7 c8 ⊢;simp only at c6 c7 c8
 have hpre:∀b∈f.pre,b.i<f.next0/\b.l.all yko=true:=fun b hb=>by
  have:=List.all_eq_true.1 c4 b hb;simp only[zB]at this;exact⟨zF (zI _) (zC this.1),this.2⟩
 have hpostc:∀b∈f.post,b.i<f.next1/\b.l.all yko=true:=fun b hb=>by
  have:=List.all_eq_true.1 c5 b hb;simp only[zB]at this;exact⟨zF (zI _) (zC this.1),this.2⟩
 have hinj:∀b∈f.pre,∀c∈f.pre,ρ b.i=ρ c.i->b=c:=by
  rw[List.map_map]at c6;intro b hb c hc he;exact ytu c6 b hb c hc (by show(b.ren ρ).i=(c.ren ρ).i;rw[b.ygz,c.ygz];exact he)
 have hp2:∀b∈f.pre,ρ b.i<n0/\blkIs (Fact.mem ⟨f.g,f.args.map (ren2 ρ),n0,f.pre.map (BlkL.ren ρ),renV ρ f.v,n1,f.post.map (BlkL.ren ρ),n0⟩) (b.ren ρ)=true:=fun b hb=>by
  have:=List.all_eq_true.1 c7 (b.ren ρ) (List.mem_map.2 ⟨b,hb,rfl⟩);simp only[zB]at this;have h1:=zF (zI _) (zC this.1);rw[b.ygz]at h1;exact⟨h1,this.2⟩
 have hfresh:∀i,f.next0<=i->i<f.next1->ρ i=i-f.next0+n0:=fun i h1 h2=>by
  rw[<-hρ];unfold Fact.rho;rw[zH,if_pos (by simp only[zB];exact⟨zO h1,zO h2⟩)]
  rfl
 have hold:∀i,¬(f.next0<=i/\i<f.next1)->ρ i=n1\/ρ i<n0:=fun i hi=>by
  have h1:ρ i=yyf f.pre tgt n1 i:=by
   rw[<-hρ,<-hn1];unfold Fact.rho;rw[zH,if_neg]
   ·rfl
   ·simp only[zB];exact fun q=>hi ⟨zC q.1,zF (zI _) (zC q.2)⟩
  rcases ybio f.pre tgt n1 i with h|⟨b,hb,rfl⟩
  ·exact .inl (h1.trans h)
  ·exact .inr (hp2 b hb).1
 have hle:n0<=n1:=by omega
 let f2:Fact:=⟨f.g,f.args.map (ren2 ρ),n0,f.pre.map (BlkL.ren ρ),renV ρ f.v,n1,f.post.map (BlkL.ren ρ),n0⟩
 have hget:∀i x,f.mem.b.get i=some x->∃b∈f.pre,b.i=i/\x=b.blk:=fun i x hx=>by
  rcases yie hx with h|h
  ·exact h
  ·cases h
 have hget2:∀i x,f2.mem.b.get i=some x->∃b∈f.pre,ρ b.i=i/\x=(b.ren ρ).blk:=fun i x hx=>by
  rcases yie hx with⟨b',hb',h1,h2⟩|h
  ·obtain⟨b,hb,rfl⟩:=List.mem_map.1 hb';rw[b.ygz]at h1;exact⟨b,hb,h1,h2⟩
  ·cases h
 have hpost:∀b∈f.post,f.next0<=b.i/\b.i<f.next1/\∃c,m'.b.get b.i=some (.cells c b.l.length b.e b.z)/\∀j v,j<b.l.length->(c.get j=some v↔b.l[j]?=some v):=fun b hb=>by
  obtain⟨c,k1,_,k2⟩:=yih (e3 b hb).2;exact⟨Nat.le_trans c1 (e3 b hb).1,(hpostc b hb).1,c,k1,k2⟩
 have hget3:∀i x,(blksT f2.mem.b f2.post).get i=some x->(∃b∈f.post,ρ b.i=i/\x=(b.ren ρ).blk)\/f2.mem.b.get i=some x:=fun i x hx=>by
  rcases yie hx with⟨b',hb',h1,h2⟩|h
  ·obtain⟨b,hb,rfl⟩:=List.mem_map.1 hb';rw[b.ygz]at h1;exact .inl ⟨b,hb,h1,h2⟩
  ·exact .inr h
 have hpr:∀b∈f.post,n0<=ρ b.i/\ρ b.i<n1:=fun b hb=>by
  obtain⟨k1,k2,_⟩:=hpost b hb;rw[hfresh b.i k1 k2];omega
 have hwf1:Wf f.mem:=fun i x hx=>by
  obtain⟨b,hb,rfl,rfl⟩:=hget i x hx;exact(hpre b hb).1
 refine⟨f2.after,?_,rfl,zJ _,fun b hb=>?_⟩
 ·intro hw;obtain⟨E,S⟩:=hs hwf1;refine⟨⟨hle,fun i x hx=>?_,fun i x hi hnf hx=>?_,fun i x hx=>?_⟩,fun φ2 M2 w args' hR hsub hv hfr=>?_⟩
  ·rcases hget3 i x hx with⟨b,hb,rfl,rfl⟩|h
   ·exact .inr (hpr b hb)
   ·exact .inl ⟨x,h⟩
  ·rcases hget3 i x hx with⟨b,hb,rfl,rfl⟩|h
   ·exact absurd (hpr b hb) hnf
   ·exact h
  ·show i<n1;rcases hget3 i x hx with⟨b,hb,rfl,rfl⟩|h
   ·exact(hpr b hb).2
   ·exact zF (hw i x h) hle
  ·have hfr:∀i,n0<=i->i<n1->φ2 i=none:=hfr
   let φ:Phi:=fun b=>φ2 (ρ b)
   let M:AM:=fun i=>f.mem.b.get i
   have hφ:∀b,φ b=φ2 (ρ b):=fun _=>rfl
   have hpm:∀b∈f.pre,∃c,M2 (ρ b.i)=some (.cells c b.l.length b.e b.z)/\∀j v,j<b.l.length->(c.get j=some v↔(b.l.map (ren2 ρ))[j]?=some v):=fun b hb=>by
    obtain⟨c,k1,_,k2⟩:=yih (hp2 b hb).2;rw[b.ygz]at k1;have el:(b.ren ρ).l.length=b.l.length:=zM ..;rw[el]at k1 k2;exact⟨c,hsub _ _ k1,k2⟩
   have hmapget:∀{l:List Value}{j:Nat}{v:Value},l[j]?=some v->(l.map (ren2 ρ))[j]?=some (ren2 ρ v):=fun h=>by rw[zL,h];rfl
   have hRel:Rel φ M w:=by
    refine⟨⟨fun i x hx=>?_,fun i j x y li lj hne hx hy hli hlj=>?_⟩,fun z hz=>⟨(hR.gl z hz).1,fun⟨i,x,l,a1,a2,a3⟩=>(hR.gl z hz).2 (by
     obtain⟨b,hb,rfl,rfl⟩:=hget i x a1;obtain⟨c,k1,_⟩:=hpm b hb;exact⟨_,_,l,k1,a2,a3⟩)⟩⟩
    ·obtain⟨b,hb,rfl,rfl⟩:=hget i x hx;obtain⟨c,k1,k2⟩:=hpm b hb;obtain⟨l,r1,r2,r3,cs,qe,qf,q0,r4,r5,r6⟩:=hR.blk _ _ k1;refine⟨l,r1,r2,r3,cs,qe,qf,q0,r4,r5,fun j v hj hg=>?_⟩;have hv0:=yjv hg;obtain⟨v',s1,s2⟩:=r6 j _ hj ((k2 j _ hj).2 (hmapget hv0));exact⟨v',s1,(vr2 hφ (List.all_eq_true.1 (hpre b hb).2 v (zG hv0))).2 s2⟩
    ·obtain⟨b,hb,rfl,rfl⟩:=hget i x hx;obtain⟨c,hc,rfl,rfl⟩:=hget j y hy;obtain⟨cb,k1,_⟩:=hpm b hb;obtain⟨cc,k2,_⟩:=hpm c hc;exact hR.inj _ _ _ _ li lj (fun q=>hne (by rw[hinj b hb c hc q])) k1 k2 hli hlj
   have hSub:Sub f.mem M:=fun i x hx=>hx
   have hFr:yfz φ f.mem.next m'.next:=fun i h1 h2=>by
    rw[e1]at h2;have h1:f.next0<=i:=h1;show φ2 (ρ i)=none;rw[hfresh i h1 h2];exact hfr _ (by omega) (by omega)
   refine(S φ M w args' hRel hSub ((vrl2 hφ c2).2 hv) hFr).mono ?_;rintro e w' ⟨v',rfl,φ',M',hgd,hvr⟩;have hout:∀i,¬(f.next0<=i/\i<f.next1)->φ' i=φ i:=fun i hi=>hgd.out i (by rw[e1];exact hi)
   have hframe:∀i,¬(f.next0<=i/\i<f.next1)->(f.mem.b.get i=none\/i<f.next0)->M' i=M i:=fun i hi hn =>
    hgd.frame i (by rw[e1];exact hi) (hn.imp id fun q=>by omega)
   let φ3:Phi:=fun j=>if n0<=j/\j<n1 then φ' (j-n0+f.next0)else φ2 j
   let M3:AM:=fun j=>if n0<=j/\j<n1 then f2.after.b.get j else M2 j
   have hφ3:∀b,φ' b=φ3 (ρ b):=fun b=>by
    by_cases hb:f.next0<=b/\b<f.next1
    ·have hr:=hfresh b hb.1 hb.2;have:n0<=ρ b/\ρ b<n1:=by rw[hr];omega
     show φ' b=if n0<=ρ b/\ρ b<n1 then φ' (ρ b-n0+f.next0)else φ2 (ρ b)
     rw[if_pos this,hr];congr 1;omega
    ·have:¬(n0<=ρ b/\ρ b<n1):=by rcases hold b hb with h|h<;>omega
     show φ' b=if n0<=ρ b/\ρ b<n1 then φ' (ρ b-n0+f.next0)else φ2 (ρ b)
     rw[if_neg this,hout b hb]
   have hle3:φ2.le φ3:=fun j l hj=>by
    have:¬(n0<=j/\j<n1):=fun q=>by rw[hfr j q.1 q.2]at hj;cases hj
    show(if n0<=j/\j<n1 then φ' (j-n0+f.next0)else φ2 j)=some l
    rw[if_neg this];exact hj
   have hout3:∀j,¬(n0<=j/\j<n1)->φ3 j=φ2 j:=fun j hj=>if_neg hj;have hM3o:∀j,¬(n0<=j/\j<n1)->M3 j=M2 j:=fun j hj=>if_neg hj;have hM3f:∀j,n0<=j/\j<n1->M3 j=f2.after.b.get j:=fun j hj=>if_pos hj
   have hnew:∀j x,n0<=j/\j<n1->M3 j=some x->∃b∈f.post,ρ b.i=j/\x=(b.ren ρ).blk:=fun j x hj hx=>by
    rw[hM3f j hj]at hx;rcases hget3 j x hx with h|h
    ·exact h
    ·obtain⟨b,hb,rfl,_⟩:=hget2 j x h;have:=(hp2 b hb).1;omega
   have hnewR:∀b∈f.post,∃l c,φ' b.i=some l/\M' b.i=some (.cells c b.l.length b.e b.z)/\BR φ3 l w' (b.ren ρ).blk/\¬l.blk<w.heap.size:=fun b hb=>by
    obtain⟨k1,k2,c,k3,k4⟩:=hpost b hb;have hM:=hgd.sub _ _ k3;obtain⟨l,r1,r2,r3,cs,qe,qf,q0,r4,r5,r6⟩:=hgd.rel.blk _ _ hM;have el:(b.ren ρ).l.length=b.l.length:=zM ..;refine⟨l,c,r1,hM,⟨r2,by rw[el];exact r3,cs,qe,qf,q0,r4,r5,fun j v hj hg=>?_⟩,fun hlt=>?_⟩
    ·rw[el]at hj;have hg:=yjv hg;have hg':(b.l.map (ren2 ρ))[j]?=some v:=hg;rw[zL]at hg';cases hq:b.l[j]? with
     |none=>rw[hq]at hg';cases hg'
     | some u =>
       rw[hq]at hg';cases hg'
       obtain⟨v',s1,s2⟩:=r6 j u hj ((k4 j u hj).2 hq);exact⟨v',s1,(vr2 hφ3 (List.all_eq_true.1 (hpostc b hb).2 u (zG hq))).1 s2⟩
    ·obtain⟨i,x,l',a1,a2,a3⟩:=hgd.wg.img l.blk hlt ⟨_,_,l,hM,r1,rfl⟩;obtain⟨p,hp,rfl,rfl⟩:=hget i x a1;have hpi:=(hpre p hp).1;have hnf:¬(f.next0<=p.i/\p.i<f.next1):=fun q=>by omega
     have hMp:=hframe p.i hnf (.inr hpi);exact hgd.rel.inj p.i b.i _ _ l' l (by omega) (hMp.trans a1) hM ((hout p.i hnf).trans a2) r1 a3
   have hoimg:∀j x l,¬(n0<=j/\j<n1)->M2 j=some x->φ2 j=some l->BR φ3 l w' x:=fun j x l hj hx hl=>by
    obtain⟨l0,q1,q2⟩:=hR.blk j x hx;rw[hl]at q1;cases q1
    by_cases him:Img φ M l.blk
    ·obtain⟨i,y,l',a1,a2,a3⟩:=him;obtain⟨p,hp,rfl,rfl⟩:=hget i y a1;obtain⟨c,k1,k2⟩:=hpm p hp
     have hji:j=ρ p.i:=by
      apply zT;intro hne;exact hR.inj _ _ _ _ l l' hne hx k1 hl a2 a3.symm
     subst hji;rw[k1]at hx;cases hx
     have a2':φ2 (ρ p.i)=some l':=a2;rw[hl]at a2';cases a2'
     have hpi:=(hpre p hp).1;have hnf:¬(f.next0<=p.i/\p.i<f.next1):=fun q=>by omega
     have hMp:=(hframe p.i hnf (.inr hpi)).trans a1;obtain⟨l2,r1,r2,r3,cs,qe,qf,q0,r4,r5,r6⟩:=hgd.rel.blk _ _ hMp;rw[hout p.i hnf,a2]at r1;cases r1
     refine⟨r2,r3,cs,qe,qf,q0,r4,r5,fun j v hj' hg=>?_⟩;have hg:=(k2 j v hj').1 hg;rw[zL]at hg;cases hq:p.l[j]? with
     |none=>rw[hq]at hg;cases hg
     | some u =>
       rw[hq]at hg;cases hg
       have hlen:p.l.length<1000000:=by
        obtain⟨_,_,hl6,_⟩:=yih (hp2 p hp).2;have el:(p.ren ρ).l.length=p.l.length:=zM ..
        rwa [el]at hl6
       obtain⟨v',s1,s2⟩:=r6 j u hj' (by rw[ycfy (by omega)];exact hq)
       exact⟨v',s1,(vr2 hφ3 (List.all_eq_true.1 (hpre p hp).2 u (zG hq))).1 s2⟩
    ·exact(q2.keep (hgd.wg.keep _ q2.lt him)).mono hle3
   have himg3:∀k,k<w.heap.size->Img φ3 M3 k->Img φ2 M2 k:=fun k hk hq=>by
    obtain⟨i,x,l,a1,a2,rfl⟩:=hq
    by_cases hi:n0<=i/\i<n1
    ·obtain⟨b,hb,rfl,rfl⟩:=hnew i x hi a1;obtain⟨l',c,r1,_,_,r4⟩:=hnewR b hb;rw[<-hφ3,r1]at a2;cases a2
     exact absurd hk r4
    ·rw[hM3o i hi]at a1;rw[hout3 i hi]at a2;exact⟨i,x,l,a1,a2,rfl⟩
   refine⟨v',rfl,φ3,M3,⟨hle3,hout3,⟨⟨fun j x hx=>?_,fun i j x y li lj hne hx hy hli hlj=>?_⟩,fun z hz=>⟨(hgd.rel.gl z hz).1,fun q=>(hR.gl z hz).2 (himg3 _ (Array.getElem?_eq_some_iff.1 (hR.gl z hz).1.choose_spec.choose_spec).1 q)⟩⟩,fun i x hx=>?_,fun i hi _=>hM3o i hi,⟨hgd.wg.os,hgd.wg.tape,hgd.wg.output,hgd.wg.size,fun k hk hn=>?_,fun k hk hq=>?_⟩⟩,vrV hφ3 c3 hvr⟩
   ·by_cases hj:n0<=j/\j<n1
    ·obtain⟨b,hb,rfl,rfl⟩:=hnew j x hj hx;obtain⟨l,c,r1,_,r3,_⟩:=hnewR b hb;exact⟨l,by rw[<-hφ3];exact r1,r3⟩
    ·rw[hM3o j hj]at hx;obtain⟨l,q1,_⟩:=hR.blk j x hx;exact⟨l,by rw[hout3 j hj];exact q1,hoimg j x l hj hx q1⟩
   ·by_cases hi:n0<=i/\i<n1
    ·obtain⟨b,hb,rfl,rfl⟩:=hnew i x hi hx;obtain⟨l,c,r1,r2,_,r4⟩:=hnewR b hb;rw[<-hφ3,r1]at hli;cases hli
     by_cases hj:n0<=j/\j<n1
     ·obtain⟨b',hb',rfl,rfl⟩:=hnew j y hj hy;obtain⟨l',c',s1,s2,_,_⟩:=hnewR b' hb';rw[<-hφ3,s1]at hlj;cases hlj
      exact hgd.rel.inj _ _ _ _ _ _ (fun q=>hne (by rw[q])) r2 s2 r1 s1
     ·rw[hM3o j hj]at hy;rw[hout3 j hj]at hlj;obtain⟨l',q1,q2⟩:=hR.blk j y hy;rw[hlj]at q1;cases q1
      exact fun q=>r4 (by rw[q];exact q2.lt)
    ·rw[hM3o i hi]at hx;rw[hout3 i hi]at hli
     by_cases hj:n0<=j/\j<n1
     ·obtain⟨b',hb',rfl,rfl⟩:=hnew j y hj hy;obtain⟨l',c',s1,s2,_,s4⟩:=hnewR b' hb';rw[<-hφ3,s1]at hlj;cases hlj
      obtain⟨l0,q1,q2⟩:=hR.blk i x hx;rw[hli]at q1;cases q1
      exact fun q=>s4 (by rw[<-q];exact q2.lt)
     ·rw[hM3o j hj]at hy;rw[hout3 j hj]at hlj;exact hR.inj i j x y li lj hne hx hy hli hlj
   ·show M3 i=some x
    by_cases hi:n0<=i/\i<n1
    ·rw[hM3f i hi];exact hx
    ·rw[hM3o i hi];rcases hget3 i x hx with⟨b,hb,rfl,rfl⟩|h
     ·exact absurd (hpr b hb) hi
     ·exact hsub i x h
   ·refine hgd.wg.keep k hk fun⟨i,x,l,a1,a2,a3⟩=>hn ?_;obtain⟨b,hb,rfl,rfl⟩:=hget i x a1;obtain⟨c,k1,_⟩:=hpm b hb;exact⟨_,_,l,k1,a2,a3⟩
   ·exact himg3 k hk hq
 ·obtain⟨b0,hb0,rfl⟩:=List.mem_map.1 hb;refine⟨?_,List.all_eq_true.1 c8 _ hb⟩;show n0<=(b0.ren ρ).i;rw[b0.ygz];exact(hpr b0 hb0).1
end Ev
end
section
namespace Ev
def Lqii(n:Int):Value:=.int .i64 n
def LqiL:List Int->List Value
 |[]=>[]
 |n::l=>.int .i64 n::LqiL l
def LqiA(l:List Int):Array Value:=⟨LqiL l⟩
def Lqnx(g:Nat)(t:ByteArray)(a:Int)(n:Nat)(l:List Int)(e:Int)(m:Nat):Fact:=⟨g,[.string t,.int .i64 a],n,[],.tuple #[.agg (LqiA l),.int .i64 e],m,[],n⟩
def yc:ByteArray:=by8 [112,114,111,103,114,97,109,32,108,101,97,100,101,114,59,10,118,97,114,32,108,101,97,100,32,58,32,48,32,46,46,32,105,100,115,59,10,118,97,114,32,100,32,58,32,48,32,46,46,32,110,32,45,32,49,59,10,118,97,114,32,112,32,58,32,112,111,114,116,59,10,114,117,108,101,32,111,119,110,58,32,105,100,32,42,32,110,32,60,61,32,109,105,110,40,113,46,100,32,43,32,49,32,60,32,110,32,63,32,113,46,108,101,97,100,32,42,32,110,32,43,32,113,46,100,32,58,32,40,105,100,115,32,43,32,49,41,32,42,32,110,41,32,38,38,32,40,108,101,97,100,32,33,61,32,105,100,32,124,124,32,100,32,33,61,32,48,32,124,124,32,112,32,33,61,32,110,111,110,101,41,32,45,62,32,108,101,97,100,32,58,61,32,105,100,44,32,100,32,58,61,32,48,44,32,112,32,58,61,32,110,111,110,101,59,10,114,117,108,101,32,106,111,105,110,58,32,105,100,32,42,32,110,32,62,32,109,105,110,40,113,46,100,32,43,32,49,32,60,32,110,32,63,32,113,46,108,101,97,100,32,42,32,110,32,43,32,113,46,100,32,58,32,40,105,100,115,32,43,32,49,41,32,42,32,110,41,32,38,38,32,40,108,101,97,100,32,33,61,32,109,105,110,40,113,46,100,32,43,32,49,32,60,32,110,32,63,32,113,46,108,101,97,100,32,42,32,110,32,43,32,113,46,100,32,58,32,40,105,100,115,32,43,32,49,41,32,42,32,110,41,32,47,32,110,32,124,124,32,100,32,33,61,32,109,105,110,40,113,46,100,32,43,32,49,32,60,32,110,32,63,32,113,46,108,101,97,100,32,42,32,110,32,43,32,113,46,100,32,58,32,40,105,100,115,32,43,32,49,41,32,42,32,110,41,32,37,32,110,32,43,32,49,32,124,124,32,112,32,33,61,32,102,105,114,115,116,40,113,46,108,101,97,100,32,42,32,110,32,43,32,113,46,100,32,61,61,32,109,105,110,40,113,46,100,32,43,32,49,32,60,32,110,32,63,32,113,46,108,101,97,100,32,42,32,110,32,43,32,113,46,100,32,58,32,40,105,100,115,32,43,32,49,41,32,42,32,110,41,41,41,10,32,32,45,62,32,108,101,97,100,32,58,61,32,109,105,110,40,113,46,100,32,43,32,49,32,60,32,110,32,63,32,113,46,108,101,97,100,32,42,32,110,32,43,32,113,46,100,32,58,32,40,105,100,115,32,43,32,49,41,32,42,32,110,41,32,47,32,110,44,32,100,32,58,61,32,109,105,110,40,113,46,100,32,43,32,49,32,60,32,110,32,63,32,113,46,108,101,97,100,32,42,32,110,32,43,32,113,46,100,32,58,32,40,105,100,115,32,43,32,49,41,32,42,32,110,41,32,37,32,110,32,43,32,49,44,32,112,32,58,61,32,102,105,114,115,116,40,113,46,108,101,97,100,32,42,32,110,32,43,32,113,46,100,32,61,61,32,109,105,110,40,113,46,100,32,43,32,49,32,60,32,110,32,63,32,113,46,108,101,97,100,32,42,32,110,32,43,32,113,46,100,32,58,32,40,105,100,115,32,43,32,49,41,32,42,32,110,41,41,59,10]
def yej:List Value:=(LqiL [1,0,7,0,1,8,14,0,3,14,15,0,1,16,19,0,1,20,24,0,3,25,26,0,2,27,28,0,3,29,31,0,1,32,35,0,3,35,36,0,1,37,40,0,1,41,42,0,3,43,44,0,2,45,46,0,3,47,49,0,1,50,51,0,3,52,53,0,2,54,55,1,3,55,56,0,1,57,60,0,1,61,62,0,3,63,64,0,1,65,69,0,3,69,70,0,1,71,75,0,1,76,79,0,3,79,80,0,1,81,83,0,3,84,85,0,1,86,87,0,3,88,90,0,1,91,94,0,3,94,95,0,1,95,96,0,3,96,97,0,1,97,98,0,3,99,100,0,2,101,102,1,3,103,104,0,1,105,106,0,3,107,108,0,1,109,110,0,3,110,111,0,1,111,115,0,3,116,117,0,1,118,119,0,3,120,121,0,1,122,123,0,3,123,124,0,1,124,125,0,3,126,127,0,3,128,129,0,1,129,132,0,3,133,134,0,2,135,136,1,3,136,137,0,3,138,139,0,1,140,141,0,3,141,142,0,3,143,145,0,3,146,147,0,1,147,151,0,3,152,154,0,1,155,157,0,3,158,160,0,1,161,162,0,3,163,165,0,2,166,167,0,3,168,170,0,1,171,172,0,3,173,175,0,1,176,180,0,3,180,181,0,3,182,184,0,1,185,189,0,3,190,192,0,1,193,195,0,3,195,196,0,1,197,198,0,3,199,201,0,2,202,203,0,3,203,204,0,1,205,206,0,3,207,209,0,1,210,214,0,3,214,215,0,1,216,220,0,1,221,225,0,3,225,226,0,1,227,229,0,3,230,231,0,1,232,233,0,3,234,235,0,1,236,239,0,3,239,240,0,1,240,241,0,3,241,242,0,1,242,243,0,3,244,245,0,2,246,247,1,3,248,249,0,1,250,251,0,3,252,253,0,1,254,255,0,3,255,256,0,1,256,260,0,3,261,262,0,1,263,264,0,3,265,266,0,1,267,268,0,3,268,269,0,1,269,270,0,3,271,272,0,3,273,274,0,1,274,277,0,3,278,279,0,2,280,281,1,3,281,282,0,3,283,284,0,1,285,286,0,3,286,287,0,3,288,290,0,3,291,292,0,1,292,296,0,3,297,299,0,1,300,303,0,3,303,304,0,1,304,305,0,3,305,306,0,1,306,307,0,3,308,309,0,2,310,311,1,3,312,313,0,1,314,315,0,3,316,317,0,1,318,319,0,3,319,320,0,1,320,324,0,3,325,326,0,1,327,328,0,3,329,330,0,1,331,332,0,3,332,333,0,1,333,334,0,3,335,336,0,3,337,338,0,1,338,341,0,3,342,343,0,2,344,345,1,3,345,346,0,3,347,348,0,1,349,350,0,3,350,351,0,3,352,353,0,1,354,355,0,3,356,358,0,1,359,360,0,3,361,363,0,1,364,367,0,3,367,368,0,1,368,369,0,3,369,370,0,1,370,371,0,3,372,373,0,2,374,375,1,3,376,377,0,1,378,379,0,3,380,381,0,1,382,383,0,3,383,384,0,1,384,388,0,3,389,390,0,1,391,392,0,3,393,394,0,1,395,396,0,3,396,397,0,1,397,398,0,3,399,400,0,3,401,402,0,1,402,405,0,3,406,407,0,2,408,409,1,3,409,410,0,3,411,412,0,1,413,414,0,3,414,415,0,3,416,417,0,1,418,419,0,3,420,421,0,2,422,423,1,3,424,426,0,1,427,428,0,3,429,431,0,1,432,437,0,3,437,438,0,1,438,439,0,3,439,440,0,1,440,444,0,3,445,446,0,1,447,448,0,3,449,450,0,1,451,452,0,3,452,453,0,1,453,454,0,3,455,457,0,1,458,461,0,3,461,462,0,1,462,463,0,3,463,464,0,1,464,465,0,3,466,467,0,2,468,469,1,3,470,471,0,1,472,473,0,3,474,475,0,1,476,477,0,3,477,478,0,1,478,482,0,3,483,484,0,1,485,486,0,3,487,488,0,1,489,490,0,3,490,491,0,1,491,492,0,3,493,494,0,3,495,496,0,1,496,499,0,3,500,501,0,2,502,503,1,3,503,504,0,3,505,506,0,1,507,508,0,3,508,509,0,3,509,510,0,3,510,511,0,3,514,516,0,1,517,521,0,3,522,524,0,1,525,528,0,3,528,529,0,1,529,530,0,3,530,531,0,1,531,532,0,3,533,534,0,2,535,536,1,3,537,538,0,1,539,540,0,3,541,542,0,1,543,544,0,3,544,545,0,1,545,549,0,3,550,551,0,1,552,553,0,3,554,555,0,1,556,557,0,3,557,558,0,1,558,559,0,3,560,561,0,3,562,563,0,1,563,566,0,3,567,568,0,2,569,570,1,3,570,571,0,3,572,573,0,1,574,575,0,3,575,576,0,3,577,578,0,1,579,580,0,3,580,581,0,1,582,583,0,3,584,586,0,1,587,590,0,3,590,591,0,1,591,592,0,3,592,593,0,1,593,594,0,3,595,596,0,2,597,598,1,3,599,600,0,1,601,602,0,3,603,604,0,1,605,606,0,3,606,607,0,1,607,611,0,3,612,613,0,1,614,615,0,3,616,617,0,1,618,619,0,3,619,620,0,1,620,621,0,3,622,623,0,3,624,625,0,1,625,628,0,3,629,630,0,2,631,632,1,3,632,633,0,3,634,635,0,1,636,637,0,3,637,638,0,3,639,640,0,1,641,642,0,3,643,644,0,2,645,646,1,3,646,647,0,1,648,649,0,3,650,652,0,1,653,658,0,3,658,659,0,1,659,660,0,3,660,661,0,1,661,665,0,3,666,667,0,1,668,669,0,3,670,671,0,1,672,673,0,3,673,674,0,1,674,675,0,3,676,678,0,1,679,682,0,3,682,683,0,1,683,684,0,3,684,685,0,1,685,686,0,3,687,688,0,2,689,690,1,3,691,692,0,1,693,694,0,3,695,696,0,1,697,698,0,3,698,699,0,1,699,703,0,3,704,705,0,1,706,707,0,3,708,709,0,1,710,711,0,3,711,712,0,1,712,713,0,3,714,715,0,3,716,717,0,1,717,720,0,3,721,722,0,2,723,724,1,3,724,725,0,3,726,727,0,1,728,729,0,3,729,730,0,3,730,731,0,3,731,732,0])
def ybu:List Value:=(LqiL [41,0,38,0,30,0,8,0,6,0,24,0,43,0,37,0,33,0,12,1,1,1,6,0,33,0,30,0,12,0,6,0,12,1,30,0,33,0,7,0,1,1,6,0,42,0,42,0,36,0,5,0,8,0,36,0,5,1,1,0,36,0,5,2,4,0])
def ydfo:List Value:=(LqiL [36,0,5,1,33,0,32,0,24,0,43,0,37,0,33,0,12,1,1,1,6,0,33,0,30,0,12,0,6,0,12,1,30,0,33,0,7,0,1,1,6,0,6,0,1,1])
def ykr:List Value:=(LqiL [41,0,39,0,30,0,8,0,6,0,24,0,43,0,37,0,33,0,12,1,1,1,6,0,33,0,30,0,12,0,6,0,12,1,30,0,33,0,7,0,1,1,6,0,42,0,42,0,36,0,5,0,31,0,24,0,43,0,37,0,33,0,12,1,1,1,6,0,33,0,30,0,12,0,6,0,12,1,30,0,33,0,7,0,1,1,6,0,6,0,36,0,5,1,33,0,32,0,24,0,43,0,37,0,33,0,12,1,1,1,6,0,33,0,30,0,12,0,6,0,12,1,30,0,33,0,7,0,1,1,6,0,6,0,1,1,36,0,5,2,23,0,35,0,33,0,30,0,12,0,6,0,12,1,24,0,43,0,37,0,33,0,12,1,1,1,6,0,33,0,30,0,12,0,6,0,12,1,30,0,33,0,7,0,1,1,6,0])
def ypy:List Value:=(LqiL [23,0,35,0,33,0,30,0,12,0,6,0,12,1,24,0,43,0,37,0,33,0,12,1,1,1,6,0,33,0,30,0,12,0,6,0,12,1,30,0,33,0,7,0,1,1,6,0])
def Lqb0:BlkL:=⟨2614,240,2,(LqiL [8,0])⟩
def Lqb1:BlkL:=⟨2631,240,2,(LqiL [1,0])⟩
def Lqb2:BlkL:=⟨2649,240,2,(LqiL [4,0])⟩
def Lqb3:BlkL:=⟨2656,200,2,[Lqii 0,.slice (some ⟨2614,0,none⟩) 1 1,Lqii 1,.slice (some ⟨2631,0,none⟩) 1 1,Lqii 2,.slice (some ⟨2649,0,none⟩) 1 1]⟩
def Lqb4:BlkL:=⟨3740,240,2,(LqiL [33,0,32,0,24,0,43,0,37,0,33,0,12,1,1,1,6,0,33,0,30,0,12,0,6,0,12,1,30,0,33,0,7,0,1,1,6,0,6,0,1,1])⟩
def Lqb5:BlkL:=⟨5152,3,1,(LqiL [1,1,3])⟩
def Lqb6:BlkL:=⟨3567,240,2,(LqiL [31,0,24,0,43,0,37,0,33,0,12,1,1,1,6,0,33,0,30,0,12,0,6,0,12,1,30,0,33,0,7,0,1,1,6,0,6,0])⟩
def Lqb7:BlkL:=⟨3955,200,2,[Lqii 0,.slice (some ⟨3567,0,none⟩) 19 CU,Lqii 1,.slice (some ⟨3740,0,none⟩) 21 CU,Lqii 2,.slice (some ⟨3948,0,none⟩) 24 CU]⟩
end Ev
end
section
namespace Ev
def ybsx:Fact:=⟨188,[.agg #[.string (by8 [111,119,110]),.slice (some ⟨2601,0,none⟩) 33 CU,.slice (some ⟨2656,0,none⟩) 3 CU],.slice (some ⟨5152,0,none⟩) 3 3],5157,[⟨2601,240,2,ybu⟩,Lqb0,Lqb1,Lqb2,Lqb3,Lqb5],.bool true,5525,[],5157⟩
def ydmn:List Fact:=[ybsx]
theorem ybcm:yu ydmn:=yu.seq yu.nil (by kernel_rfl)
def ydjn:List Fact:=[⟨235,[.agg #[.slice (some ⟨3411,0,none⟩) 94 CU,.slice (some ⟨5152,0,none⟩) 3 3],Lqii 0,.bool false],6092,[⟨3411,240,2,ykr⟩,Lqb5],.tuple (LqiA [2,94]),6468,[],6092⟩]
theorem ybyb:yu ydjn:=yu.seq yu.nil (by kernel_rfl)
def ydko:List Fact:=[⟨219,[.slice (some ⟨3740,0,none⟩) 21 CU,.slice (some ⟨5152,0,none⟩) 3 3,.bool false],6661,[Lqb4,Lqb5],.tuple (LqiA [1,0]),6872,[],6661⟩]
theorem ybrl:yu ydko:=yu.seq yu.nil (by kernel_rfl)
end Ev
end
section
namespace Ev
def ydov:List Fact:=[⟨173,[.string yc,Lqii 0],2,[],Lqii 0,2,[],2⟩,Lqnx 174 yc 0 2 [1,0,7,0] 0 5,⟨173,[.string yc,Lqii 7],8,[],Lqii 8,8,[],8⟩,Lqnx 174 yc 8 8 [1,8,14,0] 0 11,Lqnx 174 yc 14 14 [3,14,15,0] 0 18,⟨173,[.string yc,Lqii 15],21,[],Lqii 16,21,[],21⟩,Lqnx 174 yc 16 21 [1,16,19,0] 0 24,⟨173,[.string yc,Lqii 19],27,[],Lqii 20,27,[],27⟩,Lqnx 174 yc 20 27 [1,20,24,0] 0 30,⟨173,[.string yc,Lqii 24],33,[],Lqii 25,33,[],33⟩,Lqnx 174 yc 25 33 [3,25,26,0] 0 37,⟨173,[.string yc,Lqii 26],40,[],Lqii 27,40,[],40⟩,Lqnx 174 yc 27 40 [2,27,28,0] 0 43,⟨173,[.string yc,Lqii 28],46,[],Lqii 29,46,[],46⟩,Lqnx 174 yc 29 46 [3,29,31,0] 0 50,⟨173,[.string yc,Lqii 31],53,[],Lqii 32,53,[],53⟩,Lqnx 174 yc 32 53 [1,32,35,0] 0 56,Lqnx 174 yc 35 59 [3,35,36,0] 0 63,⟨173,[.string yc,Lqii 36],66,[],Lqii 37,66,[],66⟩,Lqnx 174 yc 37 66 [1,37,40,0] 0 69]
theorem ycax:yu ydov:=yu.seq yu.nil (by kernel_rfl)
def ydos:List Fact:=[⟨173,[.string yc,Lqii 40],72,[],Lqii 41,72,[],72⟩,Lqnx 174 yc 41 72 [1,41,42,0] 0 75,⟨173,[.string yc,Lqii 42],78,[],Lqii 43,78,[],78⟩,Lqnx 174 yc 43 78 [3,43,44,0] 0 82,⟨173,[.string yc,Lqii 44],85,[],Lqii 45,85,[],85⟩,Lqnx 174 yc 45 85 [2,45,46,0] 0 88,⟨173,[.string yc,Lqii 46],91,[],Lqii 47,91,[],91⟩,Lqnx 174 yc 47 91 [3,47,49,0] 0 95,⟨173,[.string yc,Lqii 49],98,[],Lqii 50,98,[],98⟩,Lqnx 174 yc 50 98 [1,50,51,0] 0 101,⟨173,[.string yc,Lqii 51],104,[],Lqii 52,104,[],104⟩,Lqnx 174 yc 52 104 [3,52,53,0] 0 108,⟨173,[.string yc,Lqii 53],111,[],Lqii 54,111,[],111⟩,Lqnx 174 yc 54 111 [2,54,55,1] 0 114,Lqnx 174 yc 55 117 [3,55,56,0] 0 121,⟨173,[.string yc,Lqii 56],124,[],Lqii 57,124,[],124⟩,Lqnx 174 yc 57 124 [1,57,60,0] 0 127,⟨173,[.string yc,Lqii 60],130,[],Lqii 61,130,[],130⟩,Lqnx 174 yc 61 130 [1,61,62,0] 0 133,⟨173,[.string yc,Lqii 62],136,[],Lqii 63,136,[],136⟩]
theorem ycfe:yu ydos:=yu.seq yu.nil (by kernel_rfl)
def ydoy:List Fact:=[Lqnx 174 yc 63 136 [3,63,64,0] 0 140,⟨173,[.string yc,Lqii 64],143,[],Lqii 65,143,[],143⟩,Lqnx 174 yc 65 143 [1,65,69,0] 0 146,Lqnx 174 yc 69 149 [3,69,70,0] 0 153,⟨173,[.string yc,Lqii 70],156,[],Lqii 71,156,[],156⟩,Lqnx 174 yc 71 156 [1,71,75,0] 0 159,⟨173,[.string yc,Lqii 75],162,[],Lqii 76,162,[],162⟩,Lqnx 174 yc 76 162 [1,76,79,0] 0 165,Lqnx 174 yc 79 168 [3,79,80,0] 0 172,⟨173,[.string yc,Lqii 80],175,[],Lqii 81,175,[],175⟩,Lqnx 174 yc 81 175 [1,81,83,0] 0 178,⟨173,[.string yc,Lqii 83],181,[],Lqii 84,181,[],181⟩,Lqnx 174 yc 84 181 [3,84,85,0] 0 185,⟨173,[.string yc,Lqii 85],188,[],Lqii 86,188,[],188⟩,Lqnx 174 yc 86 188 [1,86,87,0] 0 191,⟨173,[.string yc,Lqii 87],194,[],Lqii 88,194,[],194⟩,Lqnx 174 yc 88 194 [3,88,90,0] 0 198,⟨173,[.string yc,Lqii 90],201,[],Lqii 91,201,[],201⟩,Lqnx 174 yc 91 201 [1,91,94,0] 0 204,Lqnx 174 yc 94 207 [3,94,95,0] 0 211]
theorem ycds:yu ydoy:=yu.seq yu.nil (by kernel_rfl)
def ydpm:List Fact:=[Lqnx 174 yc 95 214 [1,95,96,0] 0 217,Lqnx 174 yc 96 220 [3,96,97,0] 0 224,Lqnx 174 yc 97 227 [1,97,98,0] 0 230,⟨173,[.string yc,Lqii 98],233,[],Lqii 99,233,[],233⟩,Lqnx 174 yc 99 233 [3,99,100,0] 0 237,⟨173,[.string yc,Lqii 100],240,[],Lqii 101,240,[],240⟩,Lqnx 174 yc 101 240 [2,101,102,1] 0 243,⟨173,[.string yc,Lqii 102],246,[],Lqii 103,246,[],246⟩,Lqnx 174 yc 103 246 [3,103,104,0] 0 250,⟨173,[.string yc,Lqii 104],253,[],Lqii 105,253,[],253⟩,Lqnx 174 yc 105 253 [1,105,106,0] 0 256,⟨173,[.string yc,Lqii 106],259,[],Lqii 107,259,[],259⟩,Lqnx 174 yc 107 259 [3,107,108,0] 0 263,⟨173,[.string yc,Lqii 108],266,[],Lqii 109,266,[],266⟩,Lqnx 174 yc 109 266 [1,109,110,0] 0 269,Lqnx 174 yc 110 272 [3,110,111,0] 0 276,Lqnx 174 yc 111 279 [1,111,115,0] 0 282,⟨173,[.string yc,Lqii 115],285,[],Lqii 116,285,[],285⟩,Lqnx 174 yc 116 285 [3,116,117,0] 0 289,⟨173,[.string yc,Lqii 117],292,[],Lqii 118,292,[],292⟩]
theorem ycem:yu ydpm:=yu.seq yu.nil (by kernel_rfl)
def ydpi:List Fact:=[Lqnx 174 yc 118 292 [1,118,119,0] 0 295,⟨173,[.string yc,Lqii 119],298,[],Lqii 120,298,[],298⟩,Lqnx 174 yc 120 298 [3,120,121,0] 0 302,⟨173,[.string yc,Lqii 121],305,[],Lqii 122,305,[],305⟩,Lqnx 174 yc 122 305 [1,122,123,0] 0 308,Lqnx 174 yc 123 311 [3,123,124,0] 0 315,Lqnx 174 yc 124 318 [1,124,125,0] 0 321,⟨173,[.string yc,Lqii 125],324,[],Lqii 126,324,[],324⟩,Lqnx 174 yc 126 324 [3,126,127,0] 0 328,⟨173,[.string yc,Lqii 127],331,[],Lqii 128,331,[],331⟩,Lqnx 174 yc 128 331 [3,128,129,0] 0 335,Lqnx 174 yc 129 338 [1,129,132,0] 0 341,⟨173,[.string yc,Lqii 132],344,[],Lqii 133,344,[],344⟩,Lqnx 174 yc 133 344 [3,133,134,0] 0 348,⟨173,[.string yc,Lqii 134],351,[],Lqii 135,351,[],351⟩,Lqnx 174 yc 135 351 [2,135,136,1] 0 354,Lqnx 174 yc 136 357 [3,136,137,0] 0 361,⟨173,[.string yc,Lqii 137],364,[],Lqii 138,364,[],364⟩,Lqnx 174 yc 138 364 [3,138,139,0] 0 368,⟨173,[.string yc,Lqii 139],371,[],Lqii 140,371,[],371⟩]
theorem ycdl:yu ydpi:=yu.seq yu.nil (by kernel_rfl)
def ydow:List Fact:=[Lqnx 174 yc 140 371 [1,140,141,0] 0 374,Lqnx 174 yc 141 377 [3,141,142,0] 0 381,⟨173,[.string yc,Lqii 142],384,[],Lqii 143,384,[],384⟩,Lqnx 174 yc 143 384 [3,143,145,0] 0 388,⟨173,[.string yc,Lqii 145],391,[],Lqii 146,391,[],391⟩,Lqnx 174 yc 146 391 [3,146,147,0] 0 395,Lqnx 174 yc 147 398 [1,147,151,0] 0 401,⟨173,[.string yc,Lqii 151],404,[],Lqii 152,404,[],404⟩,Lqnx 174 yc 152 404 [3,152,154,0] 0 408,⟨173,[.string yc,Lqii 154],411,[],Lqii 155,411,[],411⟩,Lqnx 174 yc 155 411 [1,155,157,0] 0 414,⟨173,[.string yc,Lqii 157],417,[],Lqii 158,417,[],417⟩,Lqnx 174 yc 158 417 [3,158,160,0] 0 421,⟨173,[.string yc,Lqii 160],424,[],Lqii 161,424,[],424⟩,Lqnx 174 yc 161 424 [1,161,162,0] 0 427,⟨173,[.string yc,Lqii 162],430,[],Lqii 163,430,[],430⟩,Lqnx 174 yc 163 430 [3,163,165,0] 0 434,⟨173,[.string yc,Lqii 165],437,[],Lqii 166,437,[],437⟩,Lqnx 174 yc 166 437 [2,166,167,0] 0 440,⟨173,[.string yc,Lqii 167],443,[],Lqii 168,443,[],443⟩]
theorem ycbg:yu ydow:=yu.seq yu.nil (by kernel_rfl)
def ydou:List Fact:=[Lqnx 174 yc 168 443 [3,168,170,0] 0 447,⟨173,[.string yc,Lqii 170],450,[],Lqii 171,450,[],450⟩,Lqnx 174 yc 171 450 [1,171,172,0] 0 453,⟨173,[.string yc,Lqii 172],456,[],Lqii 173,456,[],456⟩,Lqnx 174 yc 173 456 [3,173,175,0] 0 460,⟨173,[.string yc,Lqii 175],463,[],Lqii 176,463,[],463⟩,Lqnx 174 yc 176 463 [1,176,180,0] 0 466,Lqnx 174 yc 180 469 [3,180,181,0] 0 473,⟨173,[.string yc,Lqii 181],476,[],Lqii 182,476,[],476⟩,Lqnx 174 yc 182 476 [3,182,184,0] 0 480,⟨173,[.string yc,Lqii 184],483,[],Lqii 185,483,[],483⟩,Lqnx 174 yc 185 483 [1,185,189,0] 0 486,⟨173,[.string yc,Lqii 189],489,[],Lqii 190,489,[],489⟩,Lqnx 174 yc 190 489 [3,190,192,0] 0 493,⟨173,[.string yc,Lqii 192],496,[],Lqii 193,496,[],496⟩,Lqnx 174 yc 193 496 [1,193,195,0] 0 499,Lqnx 174 yc 195 502 [3,195,196,0] 0 506,⟨173,[.string yc,Lqii 196],509,[],Lqii 197,509,[],509⟩,Lqnx 174 yc 197 509 [1,197,198,0] 0 512,⟨173,[.string yc,Lqii 198],515,[],Lqii 199,515,[],515⟩]
theorem ycbo:yu ydou:=yu.seq yu.nil (by kernel_rfl)
def ydpd:List Fact:=[Lqnx 174 yc 199 515 [3,199,201,0] 0 519,⟨173,[.string yc,Lqii 201],522,[],Lqii 202,522,[],522⟩,Lqnx 174 yc 202 522 [2,202,203,0] 0 525,Lqnx 174 yc 203 528 [3,203,204,0] 0 532,⟨173,[.string yc,Lqii 204],535,[],Lqii 205,535,[],535⟩,Lqnx 174 yc 205 535 [1,205,206,0] 0 538,⟨173,[.string yc,Lqii 206],541,[],Lqii 207,541,[],541⟩,Lqnx 174 yc 207 541 [3,207,209,0] 0 545,⟨173,[.string yc,Lqii 209],548,[],Lqii 210,548,[],548⟩,Lqnx 174 yc 210 548 [1,210,214,0] 0 551,Lqnx 174 yc 214 554 [3,214,215,0] 0 558,⟨173,[.string yc,Lqii 215],561,[],Lqii 216,561,[],561⟩,Lqnx 174 yc 216 561 [1,216,220,0] 0 564,⟨173,[.string yc,Lqii 220],567,[],Lqii 221,567,[],567⟩,Lqnx 174 yc 221 567 [1,221,225,0] 0 570,Lqnx 174 yc 225 573 [3,225,226,0] 0 577,⟨173,[.string yc,Lqii 226],580,[],Lqii 227,580,[],580⟩,Lqnx 174 yc 227 580 [1,227,229,0] 0 583,⟨173,[.string yc,Lqii 229],586,[],Lqii 230,586,[],586⟩,Lqnx 174 yc 230 586 [3,230,231,0] 0 590]
theorem ycef:yu ydpd:=yu.seq yu.nil (by kernel_rfl)
def ydqa:List Fact:=[⟨173,[.string yc,Lqii 231],593,[],Lqii 232,593,[],593⟩,Lqnx 174 yc 232 593 [1,232,233,0] 0 596,⟨173,[.string yc,Lqii 233],599,[],Lqii 234,599,[],599⟩,Lqnx 174 yc 234 599 [3,234,235,0] 0 603,⟨173,[.string yc,Lqii 235],606,[],Lqii 236,606,[],606⟩,Lqnx 174 yc 236 606 [1,236,239,0] 0 609,Lqnx 174 yc 239 612 [3,239,240,0] 0 616,Lqnx 174 yc 240 619 [1,240,241,0] 0 622,Lqnx 174 yc 241 625 [3,241,242,0] 0 629,Lqnx 174 yc 242 632 [1,242,243,0] 0 635,⟨173,[.string yc,Lqii 243],638,[],Lqii 244,638,[],638⟩,Lqnx 174 yc 244 638 [3,244,245,0] 0 642,⟨173,[.string yc,Lqii 245],645,[],Lqii 246,645,[],645⟩,Lqnx 174 yc 246 645 [2,246,247,1] 0 648,⟨173,[.string yc,Lqii 247],651,[],Lqii 248,651,[],651⟩,Lqnx 174 yc 248 651 [3,248,249,0] 0 655,⟨173,[.string yc,Lqii 249],658,[],Lqii 250,658,[],658⟩,Lqnx 174 yc 250 658 [1,250,251,0] 0 661,⟨173,[.string yc,Lqii 251],664,[],Lqii 252,664,[],664⟩,Lqnx 174 yc 252 664 [3,252,253,0] 0 668]
theorem ycdj:yu ydqa:=yu.seq yu.nil (by kernel_rfl)
def ydoj:List Fact:=[⟨173,[.string yc,Lqii 253],671,[],Lqii 254,671,[],671⟩,Lqnx 174 yc 254 671 [1,254,255,0] 0 674,Lqnx 174 yc 255 677 [3,255,256,0] 0 681,Lqnx 174 yc 256 684 [1,256,260,0] 0 687,⟨173,[.string yc,Lqii 260],690,[],Lqii 261,690,[],690⟩,Lqnx 174 yc 261 690 [3,261,262,0] 0 694,⟨173,[.string yc,Lqii 262],697,[],Lqii 263,697,[],697⟩,Lqnx 174 yc 263 697 [1,263,264,0] 0 700,⟨173,[.string yc,Lqii 264],703,[],Lqii 265,703,[],703⟩,Lqnx 174 yc 265 703 [3,265,266,0] 0 707,⟨173,[.string yc,Lqii 266],710,[],Lqii 267,710,[],710⟩,Lqnx 174 yc 267 710 [1,267,268,0] 0 713,Lqnx 174 yc 268 716 [3,268,269,0] 0 720,Lqnx 174 yc 269 723 [1,269,270,0] 0 726,⟨173,[.string yc,Lqii 270],729,[],Lqii 271,729,[],729⟩,Lqnx 174 yc 271 729 [3,271,272,0] 0 733,⟨173,[.string yc,Lqii 272],736,[],Lqii 273,736,[],736⟩,Lqnx 174 yc 273 736 [3,273,274,0] 0 740,Lqnx 174 yc 274 743 [1,274,277,0] 0 746,⟨173,[.string yc,Lqii 277],749,[],Lqii 278,749,[],749⟩]
theorem yccw:yu ydoj:=yu.seq yu.nil (by kernel_rfl)
end Ev
end
section
namespace Ev
def ydlc:List Fact:=[Lqnx 174 yc 278 749 [3,278,279,0] 0 753,⟨173,[.string yc,Lqii 279],756,[],Lqii 280,756,[],756⟩,Lqnx 174 yc 280 756 [2,280,281,1] 0 759,Lqnx 174 yc 281 762 [3,281,282,0] 0 766,⟨173,[.string yc,Lqii 282],769,[],Lqii 283,769,[],769⟩,Lqnx 174 yc 283 769 [3,283,284,0] 0 773,⟨173,[.string yc,Lqii 284],776,[],Lqii 285,776,[],776⟩,Lqnx 174 yc 285 776 [1,285,286,0] 0 779,Lqnx 174 yc 286 782 [3,286,287,0] 0 786,⟨173,[.string yc,Lqii 287],789,[],Lqii 288,789,[],789⟩,Lqnx 174 yc 288 789 [3,288,290,0] 0 793,⟨173,[.string yc,Lqii 290],796,[],Lqii 291,796,[],796⟩,Lqnx 174 yc 291 796 [3,291,292,0] 0 800,Lqnx 174 yc 292 803 [1,292,296,0] 0 806,⟨173,[.string yc,Lqii 296],809,[],Lqii 297,809,[],809⟩,Lqnx 174 yc 297 809 [3,297,299,0] 0 813,⟨173,[.string yc,Lqii 299],816,[],Lqii 300,816,[],816⟩,Lqnx 174 yc 300 816 [1,300,303,0] 0 819,Lqnx 174 yc 303 822 [3,303,304,0] 0 826,Lqnx 174 yc 304 829 [1,304,305,0] 0 832]
theorem ybpw:yu ydlc:=yu.seq yu.nil (by kernel_rfl)
def ydoh:List Fact:=[Lqnx 174 yc 305 835 [3,305,306,0] 0 839,Lqnx 174 yc 306 842 [1,306,307,0] 0 845,⟨173,[.string yc,Lqii 307],848,[],Lqii 308,848,[],848⟩,Lqnx 174 yc 308 848 [3,308,309,0] 0 852,⟨173,[.string yc,Lqii 309],855,[],Lqii 310,855,[],855⟩,Lqnx 174 yc 310 855 [2,310,311,1] 0 858,⟨173,[.string yc,Lqii 311],861,[],Lqii 312,861,[],861⟩,Lqnx 174 yc 312 861 [3,312,313,0] 0 865,⟨173,[.string yc,Lqii 313],868,[],Lqii 314,868,[],868⟩,Lqnx 174 yc 314 868 [1,314,315,0] 0 871,⟨173,[.string yc,Lqii 315],874,[],Lqii 316,874,[],874⟩,Lqnx 174 yc 316 874 [3,316,317,0] 0 878,⟨173,[.string yc,Lqii 317],881,[],Lqii 318,881,[],881⟩,Lqnx 174 yc 318 881 [1,318,319,0] 0 884,Lqnx 174 yc 319 887 [3,319,320,0] 0 891,Lqnx 174 yc 320 894 [1,320,324,0] 0 897,⟨173,[.string yc,Lqii 324],900,[],Lqii 325,900,[],900⟩,Lqnx 174 yc 325 900 [3,325,326,0] 0 904,⟨173,[.string yc,Lqii 326],907,[],Lqii 327,907,[],907⟩,Lqnx 174 yc 327 907 [1,327,328,0] 0 910]
theorem ybpg:yu ydoh:=yu.seq yu.nil (by kernel_rfl)
def ydhg:List Fact:=[⟨173,[.string yc,Lqii 328],913,[],Lqii 329,913,[],913⟩,Lqnx 174 yc 329 913 [3,329,330,0] 0 917,⟨173,[.string yc,Lqii 330],920,[],Lqii 331,920,[],920⟩,Lqnx 174 yc 331 920 [1,331,332,0] 0 923,Lqnx 174 yc 332 926 [3,332,333,0] 0 930,Lqnx 174 yc 333 933 [1,333,334,0] 0 936,⟨173,[.string yc,Lqii 334],939,[],Lqii 335,939,[],939⟩,Lqnx 174 yc 335 939 [3,335,336,0] 0 943,⟨173,[.string yc,Lqii 336],946,[],Lqii 337,946,[],946⟩,Lqnx 174 yc 337 946 [3,337,338,0] 0 950,Lqnx 174 yc 338 953 [1,338,341,0] 0 956,⟨173,[.string yc,Lqii 341],959,[],Lqii 342,959,[],959⟩,Lqnx 174 yc 342 959 [3,342,343,0] 0 963,⟨173,[.string yc,Lqii 343],966,[],Lqii 344,966,[],966⟩,Lqnx 174 yc 344 966 [2,344,345,1] 0 969,Lqnx 174 yc 345 972 [3,345,346,0] 0 976,⟨173,[.string yc,Lqii 346],979,[],Lqii 347,979,[],979⟩,Lqnx 174 yc 347 979 [3,347,348,0] 0 983,⟨173,[.string yc,Lqii 348],986,[],Lqii 349,986,[],986⟩,Lqnx 174 yc 349 986 [1,349,350,0] 0 989]
theorem ybux:yu ydhg:=yu.seq yu.nil (by kernel_rfl)
def ydhc:List Fact:=[Lqnx 174 yc 350 992 [3,350,351,0] 0 996,⟨173,[.string yc,Lqii 351],999,[],Lqii 352,999,[],999⟩,Lqnx 174 yc 352 999 [3,352,353,0] 0 1003,⟨173,[.string yc,Lqii 353],1006,[],Lqii 354,1006,[],1006⟩,Lqnx 174 yc 354 1006 [1,354,355,0] 0 1009,⟨173,[.string yc,Lqii 355],1012,[],Lqii 356,1012,[],1012⟩,Lqnx 174 yc 356 1012 [3,356,358,0] 0 1016,⟨173,[.string yc,Lqii 358],1019,[],Lqii 359,1019,[],1019⟩,Lqnx 174 yc 359 1019 [1,359,360,0] 0 1022,⟨173,[.string yc,Lqii 360],1025,[],Lqii 361,1025,[],1025⟩,Lqnx 174 yc 361 1025 [3,361,363,0] 0 1029,⟨173,[.string yc,Lqii 363],1032,[],Lqii 364,1032,[],1032⟩,Lqnx 174 yc 364 1032 [1,364,367,0] 0 1035,Lqnx 174 yc 367 1038 [3,367,368,0] 0 1042,Lqnx 174 yc 368 1045 [1,368,369,0] 0 1048,Lqnx 174 yc 369 1051 [3,369,370,0] 0 1055,Lqnx 174 yc 370 1058 [1,370,371,0] 0 1061,⟨173,[.string yc,Lqii 371],1064,[],Lqii 372,1064,[],1064⟩,Lqnx 174 yc 372 1064 [3,372,373,0] 0 1068,⟨173,[.string yc,Lqii 373],1071,[],Lqii 374,1071,[],1071⟩]
theorem ybss:yu ydhc:=yu.seq yu.nil (by kernel_rfl)
def ydgq:List Fact:=[Lqnx 174 yc 374 1071 [2,374,375,1] 0 1074,⟨173,[.string yc,Lqii 375],1077,[],Lqii 376,1077,[],1077⟩,Lqnx 174 yc 376 1077 [3,376,377,0] 0 1081,⟨173,[.string yc,Lqii 377],1084,[],Lqii 378,1084,[],1084⟩,Lqnx 174 yc 378 1084 [1,378,379,0] 0 1087,⟨173,[.string yc,Lqii 379],1090,[],Lqii 380,1090,[],1090⟩,Lqnx 174 yc 380 1090 [3,380,381,0] 0 1094,⟨173,[.string yc,Lqii 381],1097,[],Lqii 382,1097,[],1097⟩,Lqnx 174 yc 382 1097 [1,382,383,0] 0 1100,Lqnx 174 yc 383 1103 [3,383,384,0] 0 1107,Lqnx 174 yc 384 1110 [1,384,388,0] 0 1113,⟨173,[.string yc,Lqii 388],1116,[],Lqii 389,1116,[],1116⟩,Lqnx 174 yc 389 1116 [3,389,390,0] 0 1120,⟨173,[.string yc,Lqii 390],1123,[],Lqii 391,1123,[],1123⟩,Lqnx 174 yc 391 1123 [1,391,392,0] 0 1126,⟨173,[.string yc,Lqii 392],1129,[],Lqii 393,1129,[],1129⟩,Lqnx 174 yc 393 1129 [3,393,394,0] 0 1133,⟨173,[.string yc,Lqii 394],1136,[],Lqii 395,1136,[],1136⟩,Lqnx 174 yc 395 1136 [1,395,396,0] 0 1139,Lqnx 174 yc 396 1142 [3,396,397,0] 0 1146]
theorem ybwk:yu ydgq:=yu.seq yu.nil (by kernel_rfl)
def ydof:List Fact:=[Lqnx 174 yc 397 1149 [1,397,398,0] 0 1152,⟨173,[.string yc,Lqii 398],1155,[],Lqii 399,1155,[],1155⟩,Lqnx 174 yc 399 1155 [3,399,400,0] 0 1159,⟨173,[.string yc,Lqii 400],1162,[],Lqii 401,1162,[],1162⟩,Lqnx 174 yc 401 1162 [3,401,402,0] 0 1166,Lqnx 174 yc 402 1169 [1,402,405,0] 0 1172,⟨173,[.string yc,Lqii 405],1175,[],Lqii 406,1175,[],1175⟩,Lqnx 174 yc 406 1175 [3,406,407,0] 0 1179,⟨173,[.string yc,Lqii 407],1182,[],Lqii 408,1182,[],1182⟩,Lqnx 174 yc 408 1182 [2,408,409,1] 0 1185,Lqnx 174 yc 409 1188 [3,409,410,0] 0 1192,⟨173,[.string yc,Lqii 410],1195,[],Lqii 411,1195,[],1195⟩,Lqnx 174 yc 411 1195 [3,411,412,0] 0 1199,⟨173,[.string yc,Lqii 412],1202,[],Lqii 413,1202,[],1202⟩,Lqnx 174 yc 413 1202 [1,413,414,0] 0 1205,Lqnx 174 yc 414 1208 [3,414,415,0] 0 1212,⟨173,[.string yc,Lqii 415],1215,[],Lqii 416,1215,[],1215⟩,Lqnx 174 yc 416 1215 [3,416,417,0] 0 1219,⟨173,[.string yc,Lqii 417],1222,[],Lqii 418,1222,[],1222⟩,Lqnx 174 yc 418 1222 [1,418,419,0] 0 1225]
theorem ybvz:yu ydof:=yu.seq yu.nil (by kernel_rfl)
def ydju:List Fact:=[⟨173,[.string yc,Lqii 419],1228,[],Lqii 420,1228,[],1228⟩,Lqnx 174 yc 420 1228 [3,420,421,0] 0 1232,⟨173,[.string yc,Lqii 421],1235,[],Lqii 422,1235,[],1235⟩,Lqnx 174 yc 422 1235 [2,422,423,1] 0 1238,⟨173,[.string yc,Lqii 423],1241,[],Lqii 424,1241,[],1241⟩,Lqnx 174 yc 424 1241 [3,424,426,0] 0 1245,⟨173,[.string yc,Lqii 426],1248,[],Lqii 427,1248,[],1248⟩,Lqnx 174 yc 427 1248 [1,427,428,0] 0 1251,⟨173,[.string yc,Lqii 428],1254,[],Lqii 429,1254,[],1254⟩,Lqnx 174 yc 429 1254 [3,429,431,0] 0 1258,⟨173,[.string yc,Lqii 431],1261,[],Lqii 432,1261,[],1261⟩,Lqnx 174 yc 432 1261 [1,432,437,0] 0 1264,Lqnx 174 yc 437 1267 [3,437,438,0] 0 1271,Lqnx 174 yc 438 1274 [1,438,439,0] 0 1277,Lqnx 174 yc 439 1280 [3,439,440,0] 0 1284,Lqnx 174 yc 440 1287 [1,440,444,0] 0 1290,⟨173,[.string yc,Lqii 444],1293,[],Lqii 445,1293,[],1293⟩,Lqnx 174 yc 445 1293 [3,445,446,0] 0 1297,⟨173,[.string yc,Lqii 446],1300,[],Lqii 447,1300,[],1300⟩,Lqnx 174 yc 447 1300 [1,447,448,0] 0 1303]
theorem ybty:yu ydju:=yu.seq yu.nil (by kernel_rfl)
def ydmk:List Fact:=[⟨173,[.string yc,Lqii 448],1306,[],Lqii 449,1306,[],1306⟩,Lqnx 174 yc 449 1306 [3,449,450,0] 0 1310,⟨173,[.string yc,Lqii 450],1313,[],Lqii 451,1313,[],1313⟩,Lqnx 174 yc 451 1313 [1,451,452,0] 0 1316,Lqnx 174 yc 452 1319 [3,452,453,0] 0 1323,Lqnx 174 yc 453 1326 [1,453,454,0] 0 1329,⟨173,[.string yc,Lqii 454],1332,[],Lqii 455,1332,[],1332⟩,Lqnx 174 yc 455 1332 [3,455,457,0] 0 1336,⟨173,[.string yc,Lqii 457],1339,[],Lqii 458,1339,[],1339⟩,Lqnx 174 yc 458 1339 [1,458,461,0] 0 1342,Lqnx 174 yc 461 1345 [3,461,462,0] 0 1349,Lqnx 174 yc 462 1352 [1,462,463,0] 0 1355,Lqnx 174 yc 463 1358 [3,463,464,0] 0 1362,Lqnx 174 yc 464 1365 [1,464,465,0] 0 1368,⟨173,[.string yc,Lqii 465],1371,[],Lqii 466,1371,[],1371⟩,Lqnx 174 yc 466 1371 [3,466,467,0] 0 1375,⟨173,[.string yc,Lqii 467],1378,[],Lqii 468,1378,[],1378⟩,Lqnx 174 yc 468 1378 [2,468,469,1] 0 1381,⟨173,[.string yc,Lqii 469],1384,[],Lqii 470,1384,[],1384⟩,Lqnx 174 yc 470 1384 [3,470,471,0] 0 1388]
theorem ybxg:yu ydmk:=yu.seq yu.nil (by kernel_rfl)
def ydhm:List Fact:=[⟨173,[.string yc,Lqii 471],1391,[],Lqii 472,1391,[],1391⟩,Lqnx 174 yc 472 1391 [1,472,473,0] 0 1394,⟨173,[.string yc,Lqii 473],1397,[],Lqii 474,1397,[],1397⟩,Lqnx 174 yc 474 1397 [3,474,475,0] 0 1401,⟨173,[.string yc,Lqii 475],1404,[],Lqii 476,1404,[],1404⟩,Lqnx 174 yc 476 1404 [1,476,477,0] 0 1407,Lqnx 174 yc 477 1410 [3,477,478,0] 0 1414,Lqnx 174 yc 478 1417 [1,478,482,0] 0 1420,⟨173,[.string yc,Lqii 482],1423,[],Lqii 483,1423,[],1423⟩,Lqnx 174 yc 483 1423 [3,483,484,0] 0 1427,⟨173,[.string yc,Lqii 484],1430,[],Lqii 485,1430,[],1430⟩,Lqnx 174 yc 485 1430 [1,485,486,0] 0 1433,⟨173,[.string yc,Lqii 486],1436,[],Lqii 487,1436,[],1436⟩,Lqnx 174 yc 487 1436 [3,487,488,0] 0 1440,⟨173,[.string yc,Lqii 488],1443,[],Lqii 489,1443,[],1443⟩,Lqnx 174 yc 489 1443 [1,489,490,0] 0 1446,Lqnx 174 yc 490 1449 [3,490,491,0] 0 1453,Lqnx 174 yc 491 1456 [1,491,492,0] 0 1459,⟨173,[.string yc,Lqii 492],1462,[],Lqii 493,1462,[],1462⟩,Lqnx 174 yc 493 1462 [3,493,494,0] 0 1466]
theorem ybor:yu ydhm:=yu.seq yu.nil (by kernel_rfl)
def ydhx:List Fact:=[⟨173,[.string yc,Lqii 494],1469,[],Lqii 495,1469,[],1469⟩,Lqnx 174 yc 495 1469 [3,495,496,0] 0 1473,Lqnx 174 yc 496 1476 [1,496,499,0] 0 1479,⟨173,[.string yc,Lqii 499],1482,[],Lqii 500,1482,[],1482⟩,Lqnx 174 yc 500 1482 [3,500,501,0] 0 1486,⟨173,[.string yc,Lqii 501],1489,[],Lqii 502,1489,[],1489⟩,Lqnx 174 yc 502 1489 [2,502,503,1] 0 1492,Lqnx 174 yc 503 1495 [3,503,504,0] 0 1499,⟨173,[.string yc,Lqii 504],1502,[],Lqii 505,1502,[],1502⟩,Lqnx 174 yc 505 1502 [3,505,506,0] 0 1506,⟨173,[.string yc,Lqii 506],1509,[],Lqii 507,1509,[],1509⟩,Lqnx 174 yc 507 1509 [1,507,508,0] 0 1512,Lqnx 174 yc 508 1515 [3,508,509,0] 0 1519,Lqnx 174 yc 509 1522 [3,509,510,0] 0 1526,Lqnx 174 yc 510 1529 [3,510,511,0] 0 1533,⟨173,[.string yc,Lqii 511],1536,[],Lqii 514,1536,[],1536⟩,Lqnx 174 yc 514 1536 [3,514,516,0] 0 1540,⟨173,[.string yc,Lqii 516],1543,[],Lqii 517,1543,[],1543⟩,Lqnx 174 yc 517 1543 [1,517,521,0] 0 1546,⟨173,[.string yc,Lqii 521],1549,[],Lqii 522,1549,[],1549⟩]
theorem ybwq:yu ydhx:=yu.seq yu.nil (by kernel_rfl)
end Ev
end
section
namespace Ev
def ydkb:List Fact:=[Lqnx 174 yc 522 1549 [3,522,524,0] 0 1553,⟨173,[.string yc,Lqii 524],1556,[],Lqii 525,1556,[],1556⟩,Lqnx 174 yc 525 1556 [1,525,528,0] 0 1559,Lqnx 174 yc 528 1562 [3,528,529,0] 0 1566,Lqnx 174 yc 529 1569 [1,529,530,0] 0 1572,Lqnx 174 yc 530 1575 [3,530,531,0] 0 1579,Lqnx 174 yc 531 1582 [1,531,532,0] 0 1585,⟨173,[.string yc,Lqii 532],1588,[],Lqii 533,1588,[],1588⟩,Lqnx 174 yc 533 1588 [3,533,534,0] 0 1592,⟨173,[.string yc,Lqii 534],1595,[],Lqii 535,1595,[],1595⟩,Lqnx 174 yc 535 1595 [2,535,536,1] 0 1598,⟨173,[.string yc,Lqii 536],1601,[],Lqii 537,1601,[],1601⟩,Lqnx 174 yc 537 1601 [3,537,538,0] 0 1605,⟨173,[.string yc,Lqii 538],1608,[],Lqii 539,1608,[],1608⟩,Lqnx 174 yc 539 1608 [1,539,540,0] 0 1611,⟨173,[.string yc,Lqii 540],1614,[],Lqii 541,1614,[],1614⟩,Lqnx 174 yc 541 1614 [3,541,542,0] 0 1618,⟨173,[.string yc,Lqii 542],1621,[],Lqii 543,1621,[],1621⟩,Lqnx 174 yc 543 1621 [1,543,544,0] 0 1624,Lqnx 174 yc 544 1627 [3,544,545,0] 0 1631]
theorem ycab:yu ydkb:=yu.seq yu.nil (by kernel_rfl)
def ydiv:List Fact:=[Lqnx 174 yc 545 1634 [1,545,549,0] 0 1637,⟨173,[.string yc,Lqii 549],1640,[],Lqii 550,1640,[],1640⟩,Lqnx 174 yc 550 1640 [3,550,551,0] 0 1644,⟨173,[.string yc,Lqii 551],1647,[],Lqii 552,1647,[],1647⟩,Lqnx 174 yc 552 1647 [1,552,553,0] 0 1650,⟨173,[.string yc,Lqii 553],1653,[],Lqii 554,1653,[],1653⟩,Lqnx 174 yc 554 1653 [3,554,555,0] 0 1657,⟨173,[.string yc,Lqii 555],1660,[],Lqii 556,1660,[],1660⟩,Lqnx 174 yc 556 1660 [1,556,557,0] 0 1663,Lqnx 174 yc 557 1666 [3,557,558,0] 0 1670,Lqnx 174 yc 558 1673 [1,558,559,0] 0 1676,⟨173,[.string yc,Lqii 559],1679,[],Lqii 560,1679,[],1679⟩,Lqnx 174 yc 560 1679 [3,560,561,0] 0 1683,⟨173,[.string yc,Lqii 561],1686,[],Lqii 562,1686,[],1686⟩,Lqnx 174 yc 562 1686 [3,562,563,0] 0 1690,Lqnx 174 yc 563 1693 [1,563,566,0] 0 1696,⟨173,[.string yc,Lqii 566],1699,[],Lqii 567,1699,[],1699⟩,Lqnx 174 yc 567 1699 [3,567,568,0] 0 1703,⟨173,[.string yc,Lqii 568],1706,[],Lqii 569,1706,[],1706⟩,Lqnx 174 yc 569 1706 [2,569,570,1] 0 1709]
theorem ybxk:yu ydiv:=yu.seq yu.nil (by kernel_rfl)
def ydll:List Fact:=[Lqnx 174 yc 570 1712 [3,570,571,0] 0 1716,⟨173,[.string yc,Lqii 571],1719,[],Lqii 572,1719,[],1719⟩,Lqnx 174 yc 572 1719 [3,572,573,0] 0 1723,⟨173,[.string yc,Lqii 573],1726,[],Lqii 574,1726,[],1726⟩,Lqnx 174 yc 574 1726 [1,574,575,0] 0 1729,Lqnx 174 yc 575 1732 [3,575,576,0] 0 1736,⟨173,[.string yc,Lqii 576],1739,[],Lqii 577,1739,[],1739⟩,Lqnx 174 yc 577 1739 [3,577,578,0] 0 1743,⟨173,[.string yc,Lqii 578],1746,[],Lqii 579,1746,[],1746⟩,Lqnx 174 yc 579 1746 [1,579,580,0] 0 1749,Lqnx 174 yc 580 1752 [3,580,581,0] 0 1756,⟨173,[.string yc,Lqii 581],1759,[],Lqii 582,1759,[],1759⟩,Lqnx 174 yc 582 1759 [1,582,583,0] 0 1762,⟨173,[.string yc,Lqii 583],1765,[],Lqii 584,1765,[],1765⟩,Lqnx 174 yc 584 1765 [3,584,586,0] 0 1769,⟨173,[.string yc,Lqii 586],1772,[],Lqii 587,1772,[],1772⟩,Lqnx 174 yc 587 1772 [1,587,590,0] 0 1775,Lqnx 174 yc 590 1778 [3,590,591,0] 0 1782,Lqnx 174 yc 591 1785 [1,591,592,0] 0 1788,Lqnx 174 yc 592 1791 [3,592,593,0] 0 1795]
theorem ybtd:yu ydll:=yu.seq yu.nil (by kernel_rfl)
def ydnm:List Fact:=[Lqnx 174 yc 593 1798 [1,593,594,0] 0 1801,⟨173,[.string yc,Lqii 594],1804,[],Lqii 595,1804,[],1804⟩,Lqnx 174 yc 595 1804 [3,595,596,0] 0 1808,⟨173,[.string yc,Lqii 596],1811,[],Lqii 597,1811,[],1811⟩,Lqnx 174 yc 597 1811 [2,597,598,1] 0 1814,⟨173,[.string yc,Lqii 598],1817,[],Lqii 599,1817,[],1817⟩,Lqnx 174 yc 599 1817 [3,599,600,0] 0 1821,⟨173,[.string yc,Lqii 600],1824,[],Lqii 601,1824,[],1824⟩,Lqnx 174 yc 601 1824 [1,601,602,0] 0 1827,⟨173,[.string yc,Lqii 602],1830,[],Lqii 603,1830,[],1830⟩,Lqnx 174 yc 603 1830 [3,603,604,0] 0 1834,⟨173,[.string yc,Lqii 604],1837,[],Lqii 605,1837,[],1837⟩,Lqnx 174 yc 605 1837 [1,605,606,0] 0 1840,Lqnx 174 yc 606 1843 [3,606,607,0] 0 1847,Lqnx 174 yc 607 1850 [1,607,611,0] 0 1853,⟨173,[.string yc,Lqii 611],1856,[],Lqii 612,1856,[],1856⟩,Lqnx 174 yc 612 1856 [3,612,613,0] 0 1860,⟨173,[.string yc,Lqii 613],1863,[],Lqii 614,1863,[],1863⟩,Lqnx 174 yc 614 1863 [1,614,615,0] 0 1866,⟨173,[.string yc,Lqii 615],1869,[],Lqii 616,1869,[],1869⟩]
theorem yboc:yu ydnm:=yu.seq yu.nil (by kernel_rfl)
def ydlv:List Fact:=[Lqnx 174 yc 616 1869 [3,616,617,0] 0 1873,⟨173,[.string yc,Lqii 617],1876,[],Lqii 618,1876,[],1876⟩,Lqnx 174 yc 618 1876 [1,618,619,0] 0 1879,Lqnx 174 yc 619 1882 [3,619,620,0] 0 1886,Lqnx 174 yc 620 1889 [1,620,621,0] 0 1892,⟨173,[.string yc,Lqii 621],1895,[],Lqii 622,1895,[],1895⟩,Lqnx 174 yc 622 1895 [3,622,623,0] 0 1899,⟨173,[.string yc,Lqii 623],1902,[],Lqii 624,1902,[],1902⟩,Lqnx 174 yc 624 1902 [3,624,625,0] 0 1906,Lqnx 174 yc 625 1909 [1,625,628,0] 0 1912,⟨173,[.string yc,Lqii 628],1915,[],Lqii 629,1915,[],1915⟩,Lqnx 174 yc 629 1915 [3,629,630,0] 0 1919,⟨173,[.string yc,Lqii 630],1922,[],Lqii 631,1922,[],1922⟩,Lqnx 174 yc 631 1922 [2,631,632,1] 0 1925,Lqnx 174 yc 632 1928 [3,632,633,0] 0 1932,⟨173,[.string yc,Lqii 633],1935,[],Lqii 634,1935,[],1935⟩,Lqnx 174 yc 634 1935 [3,634,635,0] 0 1939,Lqnx 174 yc 636 1942 [1,636,637,0] 0 1945,Lqnx 174 yc 637 1948 [3,637,638,0] 0 1952,Lqnx 174 yc 639 1955 [3,639,640,0] 0 1959]
theorem ybqm:yu ydlv:=yu.seq yu.nil (by kernel_rfl)
def ydlu:List Fact:=[Lqnx 174 yc 641 1962 [1,641,642,0] 0 1965,Lqnx 174 yc 643 1968 [3,643,644,0] 0 1972,Lqnx 174 yc 645 1975 [2,645,646,1] 0 1978,Lqnx 174 yc 646 1981 [3,646,647,0] 0 1985,Lqnx 174 yc 648 1988 [1,648,649,0] 0 1991,Lqnx 174 yc 650 1994 [3,650,652,0] 0 1998,Lqnx 174 yc 653 2001 [1,653,658,0] 0 2004,Lqnx 174 yc 658 2007 [3,658,659,0] 0 2011,Lqnx 174 yc 659 2014 [1,659,660,0] 0 2017,Lqnx 174 yc 660 2020 [3,660,661,0] 0 2024,Lqnx 174 yc 661 2027 [1,661,665,0] 0 2030,Lqnx 174 yc 666 2033 [3,666,667,0] 0 2037,Lqnx 174 yc 668 2040 [1,668,669,0] 0 2043,Lqnx 174 yc 670 2046 [3,670,671,0] 0 2050,Lqnx 174 yc 672 2053 [1,672,673,0] 0 2056,Lqnx 174 yc 673 2059 [3,673,674,0] 0 2063,Lqnx 174 yc 674 2066 [1,674,675,0] 0 2069,Lqnx 174 yc 676 2072 [3,676,678,0] 0 2076,Lqnx 174 yc 679 2079 [1,679,682,0] 0 2082,Lqnx 174 yc 682 2085 [3,682,683,0] 0 2089]
theorem ybtu:yu ydlu:=yu.seq yu.nil (by kernel_rfl)
def ydig:List Fact:=[Lqnx 174 yc 683 2092 [1,683,684,0] 0 2095,Lqnx 174 yc 684 2098 [3,684,685,0] 0 2102,Lqnx 174 yc 685 2105 [1,685,686,0] 0 2108,Lqnx 174 yc 687 2111 [3,687,688,0] 0 2115,Lqnx 174 yc 689 2118 [2,689,690,1] 0 2121,Lqnx 174 yc 691 2124 [3,691,692,0] 0 2128,Lqnx 174 yc 693 2131 [1,693,694,0] 0 2134,Lqnx 174 yc 695 2137 [3,695,696,0] 0 2141,Lqnx 174 yc 697 2144 [1,697,698,0] 0 2147,Lqnx 174 yc 698 2150 [3,698,699,0] 0 2154,Lqnx 174 yc 699 2157 [1,699,703,0] 0 2160,Lqnx 174 yc 704 2163 [3,704,705,0] 0 2167,Lqnx 174 yc 706 2170 [1,706,707,0] 0 2173,Lqnx 174 yc 708 2176 [3,708,709,0] 0 2180,Lqnx 174 yc 710 2183 [1,710,711,0] 0 2186,Lqnx 174 yc 711 2189 [3,711,712,0] 0 2193,Lqnx 174 yc 712 2196 [1,712,713,0] 0 2199,Lqnx 174 yc 714 2202 [3,714,715,0] 0 2206,Lqnx 174 yc 716 2209 [3,716,717,0] 0 2213,Lqnx 174 yc 717 2216 [1,717,720,0] 0 2219]
theorem ybtj:yu ydig:=yu.seq yu.nil (by kernel_rfl)
def ydkl:List Fact:=[Lqnx 174 yc 721 2222 [3,721,722,0] 0 2226,Lqnx 174 yc 723 2229 [2,723,724,1] 0 2232,Lqnx 174 yc 724 2235 [3,724,725,0] 0 2239,Lqnx 174 yc 726 2242 [3,726,727,0] 0 2246,Lqnx 174 yc 728 2249 [1,728,729,0] 0 2252,Lqnx 174 yc 729 2255 [3,729,730,0] 0 2259,Lqnx 174 yc 730 2262 [3,730,731,0] 0 2266,Lqnx 174 yc 731 2269 [3,731,732,0] 0 2273]
theorem ybot:yu ydkl:=yu.seq yu.nil (by kernel_rfl)
def ydoc:List Fact:=[⟨214,[.pointer (some ⟨2276,0,none⟩)],2455,[⟨2275,175,4,yej⟩,⟨2276,151,0,[.string yc,.slice (some ⟨2275,204,none⟩) 297 CU,.slice (some ⟨2337,0,none⟩) 3 CU,.string (by8 [108,101,97,100,101,114]),.slice (some ⟨2339,0,none⟩) 3 CU,.slice none 0 0,.slice (some ⟨2346,0,none⟩) 1 CU]⟩,⟨2337,9,1,[.string (by8 [108,101,97,100]),.string (by8 [100]),.string (by8 [112])]⟩,⟨2339,87,6,[.string (by8 [108,101,97,100]),Lqii 1,Lqii 0,Lqii 0,Lqii 0,Lqii 1,.string (by8 [100]),Lqii 1,Lqii 0,Lqii (-1),Lqii 1,Lqii 0,.string (by8 [112]),Lqii 3,Lqii 0,Lqii 0,Lqii 0,Lqii 0]⟩,⟨2346,9,1,[.string (by8 [111,119,110])]⟩],.slice (some ⟨2489,0,none⟩) 5 CU,2495,[⟨2276,151,0,[.string yc,.slice (some ⟨2275,232,none⟩) 290 CU,.slice (some ⟨2337,0,none⟩) 3 CU,.string (by8 [108,101,97,100,101,114]),.slice (some ⟨2339,0,none⟩) 3 CU,.slice none 0 0,.slice (some ⟨2346,0,none⟩) 1 CU]⟩,⟨2337,9,1,[.string (by8 [108,101,97,100]),.string (by8 [100]),.string (by8 [112])]⟩,⟨2339,87,6,[.string (by8 [108,101,97,100]),Lqii 1,Lqii 0,Lqii 0,Lqii 0,Lqii 1,.string (by8 [100]),Lqii 1,Lqii 0,Lqii (-1),Lqii 1,Lqii 0,.string (by8 [112]),Lqii 3,Lqii 0,Lqii 0,Lqii 0,Lqii 0]⟩,⟨2346,9,1,[.string (by8 [111,119,110])]⟩,⟨2489,240,2,(LqiL [30,0,33,0,7,0,1,1,6,0])⟩],2276⟩]
theorem ybtz:yu ydoc:=yu.seq yu.nil (by kernel_rfl)
def ydgf:List Fact:=[⟨214,[.pointer (some ⟨2276,0,none⟩)],2776,[⟨2275,175,4,yej⟩,⟨2276,151,0,[.string yc,.slice (some ⟨2275,452,none⟩) 235 CU,.slice (some ⟨2337,0,none⟩) 3 CU,.string (by8 [108,101,97,100,101,114]),.slice (some ⟨2339,0,none⟩) 3 CU,.slice (some ⟨2660,0,none⟩) 1 CU,.slice (some ⟨2667,0,none⟩) 2 CU]⟩,⟨2337,9,1,[.string (by8 [108,101,97,100]),.string (by8 [100]),.string (by8 [112])]⟩,⟨2339,87,6,[.string (by8 [108,101,97,100]),Lqii 1,Lqii 0,Lqii 0,Lqii 0,Lqii 1,.string (by8 [100]),Lqii 1,Lqii 0,Lqii (-1),Lqii 1,Lqii 0,.string (by8 [112]),Lqii 3,Lqii 0,Lqii 0,Lqii 0,Lqii 0]⟩,⟨2601,240,2,ybu⟩,Lqb0,Lqb1,Lqb2,Lqb3,⟨2660,191,3,[.string (by8 [111,119,110]),.slice (some ⟨2601,0,none⟩) 33 CU,.slice (some ⟨2656,0,none⟩) 3 CU]⟩,⟨2667,9,1,[.string (by8 [111,119,110]),.string (by8 [106,111,105,110])]⟩],.slice (some ⟨2810,0,none⟩) 5 CU,2816,[⟨2276,151,0,[.string yc,.slice (some ⟨2275,480,none⟩) 228 CU,.slice (some ⟨2337,0,none⟩) 3 CU,.string (by8 [108,101,97,100,101,114]),.slice (some ⟨2339,0,none⟩) 3 CU,.slice (some ⟨2660,0,none⟩) 1 CU,.slice (some ⟨2667,0,none⟩) 2 CU]⟩,⟨2337,9,1,[.string (by8 [108,101,97,100]),.string (by8 [100]),.string (by8 [112])]⟩,⟨2339,87,6,[.string (by8 [108,101,97,100]),Lqii 1,Lqii 0,Lqii 0,Lqii 0,Lqii 1,.string (by8 [100]),Lqii 1,Lqii 0,Lqii (-1),Lqii 1,Lqii 0,.string (by8 [112]),Lqii 3,Lqii 0,Lqii 0,Lqii 0,Lqii 0]⟩,⟨2601,240,2,ybu⟩,Lqb0,Lqb1,Lqb2,Lqb3,⟨2660,191,3,[.string (by8 [111,119,110]),.slice (some ⟨2601,0,none⟩) 33 CU,.slice (some ⟨2656,0,none⟩) 3 CU]⟩,⟨2667,9,1,[.string (by8 [111,119,110]),.string (by8 [106,111,105,110])]⟩,⟨2810,240,2,(LqiL [30,0,33,0,7,0,1,1,6,0])⟩],2276⟩]
theorem ycae:yu ydgf:=yu.seq yu.nil (by kernel_rfl)
end Ev
end
section
namespace Ev
def ydev:List Fact:=[⟨148,[.string yc],2,[],.tuple #[.slice (some ⟨2275,0,none⟩) 348 CU,Lqii 0,Lqii 0],2276,[⟨2275,175,4,yej⟩],2⟩]
theorem ybvu:yu ydev:=yu.one (ybk.cons (n:=66) ycax (ybk.cons (n:=136) ycfe (ybk.cons (n:=207) ycds (ybk.cons (n:=292) ycem (ybk.cons (n:=371) ycdl (ybk.cons (n:=443) ycbg (ybk.cons (n:=515) ycbo (ybk.cons (n:=586) ycef (ybk.cons (n:=664) ycdj (ybk.cons (n:=749) yccw (ybk.cons (n:=829) ybpw (ybk.cons (n:=907) ybpg (ybk.cons (n:=986) ybux (ybk.cons (n:=1071) ybss (ybk.cons (n:=1142) ybwk (ybk.cons (n:=1222) ybvz (ybk.cons (n:=1300) ybty (ybk.cons (n:=1384) ybxg (ybk.cons (n:=1462) ybor (ybk.cons (n:=1549) ybwq (ybk.cons (n:=1627) ycab (ybk.cons (n:=1706) ybxk (ybk.cons (n:=1791) ybtd (ybk.cons (n:=1869) yboc (ybk.cons (n:=1955) ybqm (ybk.cons (n:=2085) ybtu (ybk.cons (n:=2216) ybtj (ybk.cons (n:=2269) ybot ybk.nil)))))))))))))))))))))))))))) (by kernel_rfl)
def ydje:List Fact:=[⟨228,[.pointer (some ⟨2276,0,none⟩),Lqii 3],2349,[⟨2275,175,4,yej⟩,⟨2276,151,0,[.string yc,.slice (some ⟨2275,108,none⟩) 321 CU,.slice (some ⟨2337,0,none⟩) 3 CU,.string (by8 [108,101,97,100,101,114]),.slice (some ⟨2339,0,none⟩) 3 CU,.slice none 0 0,.slice (some ⟨2346,0,none⟩) 1 CU]⟩,⟨2337,9,1,[.string (by8 [108,101,97,100]),.string (by8 [100]),.string (by8 [112])]⟩,⟨2339,87,6,[.string (by8 [108,101,97,100]),Lqii 1,Lqii 0,Lqii 0,Lqii 0,Lqii 1,.string (by8 [100]),Lqii 1,Lqii 0,Lqii (-1),Lqii 1,Lqii 0,.string (by8 [112]),Lqii 3,Lqii 0,Lqii 0,Lqii 0,Lqii 0]⟩,⟨2346,9,1,[.string (by8 [111,119,110])]⟩],.slice (some ⟨2510,0,none⟩) 21 CU,2511,[⟨2276,151,0,[.string yc,.slice (some ⟨2275,236,none⟩) 289 CU,.slice (some ⟨2337,0,none⟩) 3 CU,.string (by8 [108,101,97,100,101,114]),.slice (some ⟨2339,0,none⟩) 3 CU,.slice none 0 0,.slice (some ⟨2346,0,none⟩) 1 CU]⟩,⟨2337,9,1,[.string (by8 [108,101,97,100]),.string (by8 [100]),.string (by8 [112])]⟩,⟨2339,87,6,[.string (by8 [108,101,97,100]),Lqii 1,Lqii 0,Lqii 0,Lqii 0,Lqii 1,.string (by8 [100]),Lqii 1,Lqii 0,Lqii (-1),Lqii 1,Lqii 0,.string (by8 [112]),Lqii 3,Lqii 0,Lqii 0,Lqii 0,Lqii 0]⟩,⟨2346,9,1,[.string (by8 [111,119,110])]⟩,⟨2510,240,2,(LqiL [38,0,30,0,8,0,6,0,24,0,43,0,37,0,33,0,12,1,1,1,6,0,33,0,30,0,12,0,6,0,12,1,30,0,33,0,7,0,1,1,6,0])⟩],2276⟩]
theorem ybue:yu ydje:=yu.seq ybtz (by kernel_rfl)
def ydfb:List Fact:=[⟨228,[.pointer (some ⟨2276,0,none⟩),Lqii 3],2670,[⟨2275,175,4,yej⟩,⟨2276,151,0,[.string yc,.slice (some ⟨2275,356,none⟩) 259 CU,.slice (some ⟨2337,0,none⟩) 3 CU,.string (by8 [108,101,97,100,101,114]),.slice (some ⟨2339,0,none⟩) 3 CU,.slice (some ⟨2660,0,none⟩) 1 CU,.slice (some ⟨2667,0,none⟩) 2 CU]⟩,⟨2337,9,1,[.string (by8 [108,101,97,100]),.string (by8 [100]),.string (by8 [112])]⟩,⟨2339,87,6,[.string (by8 [108,101,97,100]),Lqii 1,Lqii 0,Lqii 0,Lqii 0,Lqii 1,.string (by8 [100]),Lqii 1,Lqii 0,Lqii (-1),Lqii 1,Lqii 0,.string (by8 [112]),Lqii 3,Lqii 0,Lqii 0,Lqii 0,Lqii 0]⟩,⟨2601,240,2,ybu⟩,Lqb0,Lqb1,Lqb2,Lqb3,⟨2660,191,3,[.string (by8 [111,119,110]),.slice (some ⟨2601,0,none⟩) 33 CU,.slice (some ⟨2656,0,none⟩) 3 CU]⟩,⟨2667,9,1,[.string (by8 [111,119,110]),.string (by8 [106,111,105,110])]⟩],.slice (some ⟨2831,0,none⟩) 21 CU,2832,[⟨2276,151,0,[.string yc,.slice (some ⟨2275,484,none⟩) 227 CU,.slice (some ⟨2337,0,none⟩) 3 CU,.string (by8 [108,101,97,100,101,114]),.slice (some ⟨2339,0,none⟩) 3 CU,.slice (some ⟨2660,0,none⟩) 1 CU,.slice (some ⟨2667,0,none⟩) 2 CU]⟩,⟨2337,9,1,[.string (by8 [108,101,97,100]),.string (by8 [100]),.string (by8 [112])]⟩,⟨2339,87,6,[.string (by8 [108,101,97,100]),Lqii 1,Lqii 0,Lqii 0,Lqii 0,Lqii 1,.string (by8 [100]),Lqii 1,Lqii 0,Lqii (-1),Lqii 1,Lqii 0,.string (by8 [112]),Lqii 3,Lqii 0,Lqii 0,Lqii 0,Lqii 0]⟩,⟨2601,240,2,ybu⟩,Lqb0,Lqb1,Lqb2,Lqb3,⟨2660,191,3,[.string (by8 [111,119,110]),.slice (some ⟨2601,0,none⟩) 33 CU,.slice (some ⟨2656,0,none⟩) 3 CU]⟩,⟨2667,9,1,[.string (by8 [111,119,110]),.string (by8 [106,111,105,110])]⟩,⟨2831,240,2,(LqiL [39,0,30,0,8,0,6,0,24,0,43,0,37,0,33,0,12,1,1,1,6,0,33,0,30,0,12,0,6,0,12,1,30,0,33,0,7,0,1,1,6,0])⟩],2276⟩]
theorem ybpq:yu ydfb:=yu.seq ycae (by kernel_rfl)
end Ev
end
section
namespace Ev
def ydkp:List Fact:=[⟨214,[.pointer (some ⟨2276,0,none⟩)],2933,[⟨2275,175,4,yej⟩,⟨2276,151,0,[.string yc,.slice (some ⟨2275,580,none⟩) 203 CU,.slice (some ⟨2337,0,none⟩) 3 CU,.string (by8 [108,101,97,100,101,114]),.slice (some ⟨2339,0,none⟩) 3 CU,.slice (some ⟨2660,0,none⟩) 1 CU,.slice (some ⟨2667,0,none⟩) 2 CU]⟩,⟨2337,9,1,[.string (by8 [108,101,97,100]),.string (by8 [100]),.string (by8 [112])]⟩,⟨2339,87,6,[.string (by8 [108,101,97,100]),Lqii 1,Lqii 0,Lqii 0,Lqii 0,Lqii 1,.string (by8 [100]),Lqii 1,Lqii 0,Lqii (-1),Lqii 1,Lqii 0,.string (by8 [112]),Lqii 3,Lqii 0,Lqii 0,Lqii 0,Lqii 0]⟩,⟨2601,240,2,ybu⟩,Lqb0,Lqb1,Lqb2,Lqb3,⟨2660,191,3,[.string (by8 [111,119,110]),.slice (some ⟨2601,0,none⟩) 33 CU,.slice (some ⟨2656,0,none⟩) 3 CU]⟩,⟨2667,9,1,[.string (by8 [111,119,110]),.string (by8 [106,111,105,110])]⟩],.slice (some ⟨2967,0,none⟩) 5 CU,2973,[⟨2276,151,0,[.string yc,.slice (some ⟨2275,608,none⟩) 196 CU,.slice (some ⟨2337,0,none⟩) 3 CU,.string (by8 [108,101,97,100,101,114]),.slice (some ⟨2339,0,none⟩) 3 CU,.slice (some ⟨2660,0,none⟩) 1 CU,.slice (some ⟨2667,0,none⟩) 2 CU]⟩,⟨2337,9,1,[.string (by8 [108,101,97,100]),.string (by8 [100]),.string (by8 [112])]⟩,⟨2339,87,6,[.string (by8 [108,101,97,100]),Lqii 1,Lqii 0,Lqii 0,Lqii 0,Lqii 1,.string (by8 [100]),Lqii 1,Lqii 0,Lqii (-1),Lqii 1,Lqii 0,.string (by8 [112]),Lqii 3,Lqii 0,Lqii 0,Lqii 0,Lqii 0]⟩,⟨2601,240,2,ybu⟩,Lqb0,Lqb1,Lqb2,Lqb3,⟨2660,191,3,[.string (by8 [111,119,110]),.slice (some ⟨2601,0,none⟩) 33 CU,.slice (some ⟨2656,0,none⟩) 3 CU]⟩,⟨2667,9,1,[.string (by8 [111,119,110]),.string (by8 [106,111,105,110])]⟩,⟨2967,240,2,(LqiL [30,0,33,0,7,0,1,1,6,0])⟩],2276⟩]
theorem ybqa:yu ydkp:=yu.seq yu.nil (by kernel_rfl)
def ydnw:List Fact:=[⟨214,[.pointer (some ⟨2276,0,none⟩)],3100,[⟨2275,175,4,yej⟩,⟨2276,151,0,[.string yc,.slice (some ⟨2275,712,none⟩) 170 CU,.slice (some ⟨2337,0,none⟩) 3 CU,.string (by8 [108,101,97,100,101,114]),.slice (some ⟨2339,0,none⟩) 3 CU,.slice (some ⟨2660,0,none⟩) 1 CU,.slice (some ⟨2667,0,none⟩) 2 CU]⟩,⟨2337,9,1,[.string (by8 [108,101,97,100]),.string (by8 [100]),.string (by8 [112])]⟩,⟨2339,87,6,[.string (by8 [108,101,97,100]),Lqii 1,Lqii 0,Lqii 0,Lqii 0,Lqii 1,.string (by8 [100]),Lqii 1,Lqii 0,Lqii (-1),Lqii 1,Lqii 0,.string (by8 [112]),Lqii 3,Lqii 0,Lqii 0,Lqii 0,Lqii 0]⟩,⟨2601,240,2,ybu⟩,Lqb0,Lqb1,Lqb2,Lqb3,⟨2660,191,3,[.string (by8 [111,119,110]),.slice (some ⟨2601,0,none⟩) 33 CU,.slice (some ⟨2656,0,none⟩) 3 CU]⟩,⟨2667,9,1,[.string (by8 [111,119,110]),.string (by8 [106,111,105,110])]⟩],.slice (some ⟨3134,0,none⟩) 5 CU,3140,[⟨2276,151,0,[.string yc,.slice (some ⟨2275,740,none⟩) 163 CU,.slice (some ⟨2337,0,none⟩) 3 CU,.string (by8 [108,101,97,100,101,114]),.slice (some ⟨2339,0,none⟩) 3 CU,.slice (some ⟨2660,0,none⟩) 1 CU,.slice (some ⟨2667,0,none⟩) 2 CU]⟩,⟨2337,9,1,[.string (by8 [108,101,97,100]),.string (by8 [100]),.string (by8 [112])]⟩,⟨2339,87,6,[.string (by8 [108,101,97,100]),Lqii 1,Lqii 0,Lqii 0,Lqii 0,Lqii 1,.string (by8 [100]),Lqii 1,Lqii 0,Lqii (-1),Lqii 1,Lqii 0,.string (by8 [112]),Lqii 3,Lqii 0,Lqii 0,Lqii 0,Lqii 0]⟩,⟨2601,240,2,ybu⟩,Lqb0,Lqb1,Lqb2,Lqb3,⟨2660,191,3,[.string (by8 [111,119,110]),.slice (some ⟨2601,0,none⟩) 33 CU,.slice (some ⟨2656,0,none⟩) 3 CU]⟩,⟨2667,9,1,[.string (by8 [111,119,110]),.string (by8 [106,111,105,110])]⟩,⟨3134,240,2,(LqiL [30,0,33,0,7,0,1,1,6,0])⟩],2276⟩]
theorem ybyl:yu ydnw:=yu.seq yu.nil (by kernel_rfl)
def ydit:List Fact:=[⟨214,[.pointer (some ⟨2276,0,none⟩)],3328,[⟨2275,175,4,yej⟩,⟨2276,151,0,[.string yc,.slice (some ⟨2275,900,none⟩) 123 CU,.slice (some ⟨2337,0,none⟩) 3 CU,.string (by8 [108,101,97,100,101,114]),.slice (some ⟨2339,0,none⟩) 3 CU,.slice (some ⟨2660,0,none⟩) 1 CU,.slice (some ⟨2667,0,none⟩) 2 CU]⟩,⟨2337,9,1,[.string (by8 [108,101,97,100]),.string (by8 [100]),.string (by8 [112])]⟩,⟨2339,87,6,[.string (by8 [108,101,97,100]),Lqii 1,Lqii 0,Lqii 0,Lqii 0,Lqii 1,.string (by8 [100]),Lqii 1,Lqii 0,Lqii (-1),Lqii 1,Lqii 0,.string (by8 [112]),Lqii 3,Lqii 0,Lqii 0,Lqii 0,Lqii 0]⟩,⟨2601,240,2,ybu⟩,Lqb0,Lqb1,Lqb2,Lqb3,⟨2660,191,3,[.string (by8 [111,119,110]),.slice (some ⟨2601,0,none⟩) 33 CU,.slice (some ⟨2656,0,none⟩) 3 CU]⟩,⟨2667,9,1,[.string (by8 [111,119,110]),.string (by8 [106,111,105,110])]⟩],.slice (some ⟨3362,0,none⟩) 5 CU,3368,[⟨2276,151,0,[.string yc,.slice (some ⟨2275,928,none⟩) 116 CU,.slice (some ⟨2337,0,none⟩) 3 CU,.string (by8 [108,101,97,100,101,114]),.slice (some ⟨2339,0,none⟩) 3 CU,.slice (some ⟨2660,0,none⟩) 1 CU,.slice (some ⟨2667,0,none⟩) 2 CU]⟩,⟨2337,9,1,[.string (by8 [108,101,97,100]),.string (by8 [100]),.string (by8 [112])]⟩,⟨2339,87,6,[.string (by8 [108,101,97,100]),Lqii 1,Lqii 0,Lqii 0,Lqii 0,Lqii 1,.string (by8 [100]),Lqii 1,Lqii 0,Lqii (-1),Lqii 1,Lqii 0,.string (by8 [112]),Lqii 3,Lqii 0,Lqii 0,Lqii 0,Lqii 0]⟩,⟨2601,240,2,ybu⟩,Lqb0,Lqb1,Lqb2,Lqb3,⟨2660,191,3,[.string (by8 [111,119,110]),.slice (some ⟨2601,0,none⟩) 33 CU,.slice (some ⟨2656,0,none⟩) 3 CU]⟩,⟨2667,9,1,[.string (by8 [111,119,110]),.string (by8 [106,111,105,110])]⟩,⟨3362,240,2,(LqiL [30,0,33,0,7,0,1,1,6,0])⟩],2276⟩]
theorem ybsl:yu ydit:=yu.seq yu.nil (by kernel_rfl)
def ydlr:List Fact:=[⟨214,[.pointer (some ⟨2276,0,none⟩)],3507,[⟨2275,175,4,yej⟩,⟨2276,151,0,[.string yc,.slice (some ⟨2275,1032,none⟩) 90 CU,.slice (some ⟨2337,0,none⟩) 3 CU,.string (by8 [108,101,97,100,101,114]),.slice (some ⟨2339,0,none⟩) 3 CU,.slice (some ⟨2660,0,none⟩) 1 CU,.slice (some ⟨2667,0,none⟩) 2 CU]⟩,⟨2337,9,1,[.string (by8 [108,101,97,100]),.string (by8 [100]),.string (by8 [112])]⟩,⟨2339,87,6,[.string (by8 [108,101,97,100]),Lqii 1,Lqii 0,Lqii 0,Lqii 0,Lqii 1,.string (by8 [100]),Lqii 1,Lqii 0,Lqii (-1),Lqii 1,Lqii 0,.string (by8 [112]),Lqii 3,Lqii 0,Lqii 0,Lqii 0,Lqii 0]⟩,⟨2601,240,2,ybu⟩,Lqb0,Lqb1,Lqb2,Lqb3,⟨2660,191,3,[.string (by8 [111,119,110]),.slice (some ⟨2601,0,none⟩) 33 CU,.slice (some ⟨2656,0,none⟩) 3 CU]⟩,⟨2667,9,1,[.string (by8 [111,119,110]),.string (by8 [106,111,105,110])]⟩],.slice (some ⟨3541,0,none⟩) 5 CU,3547,[⟨2276,151,0,[.string yc,.slice (some ⟨2275,1060,none⟩) 83 CU,.slice (some ⟨2337,0,none⟩) 3 CU,.string (by8 [108,101,97,100,101,114]),.slice (some ⟨2339,0,none⟩) 3 CU,.slice (some ⟨2660,0,none⟩) 1 CU,.slice (some ⟨2667,0,none⟩) 2 CU]⟩,⟨2337,9,1,[.string (by8 [108,101,97,100]),.string (by8 [100]),.string (by8 [112])]⟩,⟨2339,87,6,[.string (by8 [108,101,97,100]),Lqii 1,Lqii 0,Lqii 0,Lqii 0,Lqii 1,.string (by8 [100]),Lqii 1,Lqii 0,Lqii (-1),Lqii 1,Lqii 0,.string (by8 [112]),Lqii 3,Lqii 0,Lqii 0,Lqii 0,Lqii 0]⟩,⟨2601,240,2,ybu⟩,Lqb0,Lqb1,Lqb2,Lqb3,⟨2660,191,3,[.string (by8 [111,119,110]),.slice (some ⟨2601,0,none⟩) 33 CU,.slice (some ⟨2656,0,none⟩) 3 CU]⟩,⟨2667,9,1,[.string (by8 [111,119,110]),.string (by8 [106,111,105,110])]⟩,⟨3541,240,2,(LqiL [30,0,33,0,7,0,1,1,6,0])⟩],2276⟩]
theorem ybpb:yu ydlr:=yu.seq yu.nil (by kernel_rfl)
def ydiu:List Fact:=[⟨214,[.pointer (some ⟨2276,0,none⟩)],3668,[⟨2275,175,4,yej⟩,⟨2276,151,0,[.string yc,.slice (some ⟨2275,1164,none⟩) 57 CU,.slice (some ⟨2337,0,none⟩) 3 CU,.string (by8 [108,101,97,100,101,114]),.slice (some ⟨2339,0,none⟩) 3 CU,.slice (some ⟨2660,0,none⟩) 1 CU,.slice (some ⟨2667,0,none⟩) 2 CU]⟩,⟨2337,9,1,[.string (by8 [108,101,97,100]),.string (by8 [100]),.string (by8 [112])]⟩,⟨2339,87,6,[.string (by8 [108,101,97,100]),Lqii 1,Lqii 0,Lqii 0,Lqii 0,Lqii 1,.string (by8 [100]),Lqii 1,Lqii 0,Lqii (-1),Lqii 1,Lqii 0,.string (by8 [112]),Lqii 3,Lqii 0,Lqii 0,Lqii 0,Lqii 0]⟩,⟨2601,240,2,ybu⟩,Lqb0,Lqb1,Lqb2,Lqb3,⟨2660,191,3,[.string (by8 [111,119,110]),.slice (some ⟨2601,0,none⟩) 33 CU,.slice (some ⟨2656,0,none⟩) 3 CU]⟩,⟨2667,9,1,[.string (by8 [111,119,110]),.string (by8 [106,111,105,110])]⟩],.slice (some ⟨3702,0,none⟩) 5 CU,3708,[⟨2276,151,0,[.string yc,.slice (some ⟨2275,1192,none⟩) 50 CU,.slice (some ⟨2337,0,none⟩) 3 CU,.string (by8 [108,101,97,100,101,114]),.slice (some ⟨2339,0,none⟩) 3 CU,.slice (some ⟨2660,0,none⟩) 1 CU,.slice (some ⟨2667,0,none⟩) 2 CU]⟩,⟨2337,9,1,[.string (by8 [108,101,97,100]),.string (by8 [100]),.string (by8 [112])]⟩,⟨2339,87,6,[.string (by8 [108,101,97,100]),Lqii 1,Lqii 0,Lqii 0,Lqii 0,Lqii 1,.string (by8 [100]),Lqii 1,Lqii 0,Lqii (-1),Lqii 1,Lqii 0,.string (by8 [112]),Lqii 3,Lqii 0,Lqii 0,Lqii 0,Lqii 0]⟩,⟨2601,240,2,ybu⟩,Lqb0,Lqb1,Lqb2,Lqb3,⟨2660,191,3,[.string (by8 [111,119,110]),.slice (some ⟨2601,0,none⟩) 33 CU,.slice (some ⟨2656,0,none⟩) 3 CU]⟩,⟨2667,9,1,[.string (by8 [111,119,110]),.string (by8 [106,111,105,110])]⟩,⟨3702,240,2,(LqiL [30,0,33,0,7,0,1,1,6,0])⟩],2276⟩]
theorem ybpr:yu ydiu:=yu.seq yu.nil (by kernel_rfl)
def ydhw:List Fact:=[⟨214,[.pointer (some ⟨2276,0,none⟩)],3886,[⟨2275,175,4,yej⟩,⟨2276,151,0,[.string yc,.slice (some ⟨2275,1352,none⟩) 10 CU,.slice (some ⟨2337,0,none⟩) 3 CU,.string (by8 [108,101,97,100,101,114]),.slice (some ⟨2339,0,none⟩) 3 CU,.slice (some ⟨2660,0,none⟩) 1 CU,.slice (some ⟨2667,0,none⟩) 2 CU]⟩,⟨2337,9,1,[.string (by8 [108,101,97,100]),.string (by8 [100]),.string (by8 [112])]⟩,⟨2339,87,6,[.string (by8 [108,101,97,100]),Lqii 1,Lqii 0,Lqii 0,Lqii 0,Lqii 1,.string (by8 [100]),Lqii 1,Lqii 0,Lqii (-1),Lqii 1,Lqii 0,.string (by8 [112]),Lqii 3,Lqii 0,Lqii 0,Lqii 0,Lqii 0]⟩,⟨2601,240,2,ybu⟩,Lqb0,Lqb1,Lqb2,Lqb3,⟨2660,191,3,[.string (by8 [111,119,110]),.slice (some ⟨2601,0,none⟩) 33 CU,.slice (some ⟨2656,0,none⟩) 3 CU]⟩,⟨2667,9,1,[.string (by8 [111,119,110]),.string (by8 [106,111,105,110])]⟩],.slice (some ⟨3920,0,none⟩) 5 CU,3926,[⟨2276,151,0,[.string yc,.slice (some ⟨2275,1380,none⟩) 3 CU,.slice (some ⟨2337,0,none⟩) 3 CU,.string (by8 [108,101,97,100,101,114]),.slice (some ⟨2339,0,none⟩) 3 CU,.slice (some ⟨2660,0,none⟩) 1 CU,.slice (some ⟨2667,0,none⟩) 2 CU]⟩,⟨2337,9,1,[.string (by8 [108,101,97,100]),.string (by8 [100]),.string (by8 [112])]⟩,⟨2339,87,6,[.string (by8 [108,101,97,100]),Lqii 1,Lqii 0,Lqii 0,Lqii 0,Lqii 1,.string (by8 [100]),Lqii 1,Lqii 0,Lqii (-1),Lqii 1,Lqii 0,.string (by8 [112]),Lqii 3,Lqii 0,Lqii 0,Lqii 0,Lqii 0]⟩,⟨2601,240,2,ybu⟩,Lqb0,Lqb1,Lqb2,Lqb3,⟨2660,191,3,[.string (by8 [111,119,110]),.slice (some ⟨2601,0,none⟩) 33 CU,.slice (some ⟨2656,0,none⟩) 3 CU]⟩,⟨2667,9,1,[.string (by8 [111,119,110]),.string (by8 [106,111,105,110])]⟩,⟨3920,240,2,(LqiL [30,0,33,0,7,0,1,1,6,0])⟩],2276⟩]
theorem ybtk:yu ydhw:=yu.seq yu.nil (by kernel_rfl)
end Ev
end
end Go.Proofs.YtiejahgklcjhkaaGreatDoor
