/- Joined. -/
import Derived.Test.YtiejahgklcjhkaaGreatDoorPkW4
import Derived.Lib.Bytealg
set_option linter.unusedSimpArgs false
set_option linter.unusedVariables false
set_option maxRecDepth 1000000
open Go.Proofs.Tryz renaming prog->zA,func149->zU
open Bool renaming and_eq_true->zB,cond_eq_ite->zH,false_eq_true->zK
open Nat renaming le_of_ble_eq_true->zC,lt_of_lt_of_le->zF,lt_succ_self->zI,le_refl->zJ,eq_of_beq_eq_true->zN,ble_eq_true_of_le->zO,blt->zQ,ble->zW,add->zX,sub->zY,beq->zZ
open Go.Lib renaming indexByte->zD,hid->zV
open List renaming mem_of_getElem?->zG,getElem?_map->zL,length_map->zM,all_cons->zS
open Classical renaming byContradiction->zT
open Go
namespace Go.Proofs.YtiejahgklcjhkaaGreatDoor
section
namespace Ev
open Go Go.RowKit
theorem ynq(c:UInt8):∀(l:List UInt8) (k:Nat),(match findByte c l k with|some i=>Int.ofNat i|none=>-1)=(if zD l c == -1 then -1 else zD l c+(k:Int))
 |[],k=>by simp[findByte,zD]
 | x :: l,k=>by
   unfold findByte zD
   by_cases hx:x=c
   .subst hx;simp
   .have h1:zZ x.toNat c.toNat=false:=by
     rw[Bool.eq_false_iff];intro h;exact hx (UInt8.toNat_inj.1 (zN h))
    have h2:(x==c)=false:=by simpa using hx
    rw[h1,h2];have ih:=ynq c l (k+1);simp only[zH,zK,if_false];rw[ih];have:=Lib.indexByte_ge l c
    by_cases hm:zD l c = -1
    .simp[hm]
    .have hm':(zD l c == -1)=false:=by simpa using hm
     rw[hm'];simp only[zK,if_false];rw[if_neg (by simp;omega)]
     push_cast;omega
theorem yqu(args:List Value)(m:Mem)(out:Out)(h:evIndexByte m args=some out):ybw zA (.call 261 args m) out:=by
 unfold evIndexByte at h;split at h
 .rename_i s c
  have hf:=ynq c.toUInt8 s.data.toList 0
  have key:∀n:Int,n=zD s.data.toList c.toUInt8->ybw zA (.call 261 [.string s,.int .u8 (.ofNat c)] m) (.call (.int .i64 n) (enterM m)):=by
   intro n hn hw;refine⟨⟨zJ _,fun i b hb=>.inl ⟨b,hb⟩,fun i b _ _ hb=>hb,hw⟩,fun φ M w args' hR hs hv _=>.inr ⟨.int .i64 n,w,?_,?_⟩⟩
   .have e:args'=[.string s,.int .u8 (.ofNat c)]:=by
     cases hv with
     | cons h1 h2 =>
       cases h2 with
       | cons h3 h4 =>
         cases h4
         rw[h1.eq_simple rfl,h3.eq_simple rfl]
    subst e;rw[run_callFunc_extern Tryz.func261 (by kernel_rfl) (by kernel_rfl) (by kernel_rfl) (by kernel_rfl),Lib.run_indexByteString,hn]
    rfl
   .exact⟨_,rfl,φ,M,⟨φ.le_refl,fun _ _=>rfl,hR,hs,fun _ _ _=>rfl,WG.refl _ _ _⟩,.simple rfl⟩
  have h0:(if zD s.data.toList c.toUInt8 == -1 then -1 else zD s.data.toList c.toUInt8+((0:Nat):Int))=zD s.data.toList c.toUInt8:=by
   by_cases hm:zD s.data.toList c.toUInt8 = -1
   .simp[hm]
   .simp[hm]
  rw[h0]at hf;split at h
  .rename_i i hi
   rw[hi]at hf;simp only[ybl]at h;cases h
   exact key _ hf
  .rename_i hi
   rw[hi]at hf;cases h
   exact key _ hf
 .cases h
end Ev
end
section
open Go.RowKit
theorem ybaw(w:World):Calls zA 176 #[.nilIface] w fun e w'=>e = .returned (.tuple #[.agg #[.int .i64 0,.int .i64 0],.bool false])/\Below w.heap.size w w':=by
 go_enter Tryz.func176,Tryz.ntmps176
 go_wp2
 refine⟨rfl,.tuple #[.agg #[.int .i64 0,.int .i64 0],.bool false],?_,rfl,?_⟩
 .simp[results,Tryz.results176,go_sem]
 .exact(Below.refl _ _).alloc (zJ _) _
theorem catch_idle(p q:Addr)(w:World) :
 CallsD zA 175 #[.pointer (some p),.pointer (some q)] .returning w fun e u' w'=>e = .returned (.tuple #[])/\u' = .returning/\Below w.heap.size w w':=by
 refine callsD_of_wpS Tryz.func175 rfl fun c₀ cs hu=>?_;apply wpS_seq;apply wpS_region;simp[wpOpsS,go_sem,recoverD,hu,Tryz.ntmps175,Exit.thenS];refine(ybaw w).mono ?_;rintro e w1 ⟨rfl,hb⟩;simp[go_sem];apply wpS_seq;apply wpS_region;simp[wpOpsS,go_sem,Exit.thenS];refine wpS_cond (t:=false) (by simp[Act.eval,Array.replicate]) ?_
 simp only[zK,if_false];refine wpS_of_wp (wp_skip ?_);refine⟨rfl,.returning,by cases c₀;simp_all,.tuple #[],by simp[results,Tryz.results175],rfl,rfl,hb.alloc hb.size _⟩
def yfk(w:World):World:=(w.alloc (.cells #[.int .i64 0] 3)).alloc (.cells #[.int .i64 0] 62)
theorem ychx(w:World):(yfk w).heap[w.heap.size]?=some (.cells #[.int .i64 0] 3):=by
 unfold yfk;rw[Below.heap_alloc _ _ _ (by simp[go_sem])]
 exact heap_alloc_new w _
theorem ycih(w:World):(yfk w).heap[w.heap.size+1]?=some (.cells #[.int .i64 0] 62):=by
 have:=heap_alloc_new (w.alloc (.cells #[.int .i64 0] 3)) (.cells #[.int .i64 0] 62);rw[show(w.alloc (.cells #[.int .i64 0] 3)).heap.size=w.heap.size+1 by simp[go_sem]]at this
 exact this
theorem ybhh (h:FuncId) (first cap:Array Value) (w:World) (Q:World->Prop)
 (hq:∀w',Q w'->w'.heap[w.heap.size]?=(yfk w).heap[w.heap.size]?/\w'.heap[w.heap.size+1]?=(yfk w).heap[w.heap.size+1]?)
 (hc:((callFunc h (first++cap)).run zA (yfk w) = .ok (.enter h (first++cap)) (yfk w)/\Calls zA h (first++cap) (yfk w) fun e w'=>(∃v,e = .returned v)/\Q w') \/
   (∃v w',(callFunc h (first++cap)).run zA (yfk w) = .ok (.value v) w'/\Q w')) :
 Calls zA 149 #[.func (.func h) first cap] w fun e w''=>e = .returned (.tuple #[.int .i64 0,.int .i64 0]) /\
  ∃w',Q w'/\Below w'.heap.size ((w'.setCell ⟨w.heap.size,0,none⟩ (.int .i64 0)).setCell ⟨w.heap.size+1,0,none⟩ (.int .i64 0)) w'':=by
 have hmf:∀(fn:Fn) (first cap:Array Value) (w:World),(Instr.makeFunc fn first cap).run zA w = .ok (.func fn first cap) w:=fun _ _ _ _=>rfl
 have Hq:=zV hq;clear hq
 have Hc:=zV hc;clear hc
 go_enter_defers zU,Tryz.ntmps149
 generalize hC:(Code.seq (Code.region 2 _ false) _)=C
 generalize hB:(bodyPostD _ _ _)=B
 go_wp2
 subst hC hB;refine wp_seq (wp_region_list ?_);refine wpList_plain rfl fun K hK=>?_;simp[Oper.wp,go_sem];apply hK;refine wpList_plain rfl fun K2 hK2=>?_;simp[Oper.wp,go_sem]
 have key:∀v w',Q w'->K2 { tmps:=#[.func (.func h) first cap,undef,.pointer (some ⟨w.heap.size,0,none⟩),.pointer (some ⟨w.heap.size+1,0,none⟩),.func (.func 175) #[] #[.pointer (some ⟨w.heap.size,0,none⟩),.pointer (some ⟨w.heap.size+1,0,none⟩)],.func (.func h) first cap,v],defers:=[{ target:=.fn (.func 175) #[.pointer (some ⟨w.heap.size,0,none⟩),.pointer (some ⟨w.heap.size+1,0,none⟩)],args:=#[] }] } w':=by
  intro v w' hQ;apply hK2;refine wpList_nil ?_;obtain⟨h1,h2⟩:=Hq.out w' hQ;have h1:w'.heap[w.heap.size]?=some (.cells #[.int .i64 0] 3):=h1.trans (ychx w);have h2:w'.heap[w.heap.size+1]?=some (.cells #[.int .i64 0] 62):=h2.trans (ycih w);have c1:w'.cell? ⟨w.heap.size,0,none⟩=some (.int .i64 0):=by simp[World.cell?,h1]
  have c2:w'.cell? ⟨w.heap.size+1,0,none⟩=some (.int .i64 0):=by simp[World.cell?,h2]
  have z1:w'.frozen? ⟨w.heap.size,0,none⟩=false:=by simp[World.frozen?,h1]
  have z2:w'.frozen? ⟨w.heap.size+1,0,none⟩=false:=by simp[World.frozen?,h2]
  have l1:=(Array.getElem?_eq_some_iff.1 h1).1;have l2:=(Array.getElem?_eq_some_iff.1 h2).1;have HQ:=zV hQ;clear hQ
  clear h1 h2
  simp only[Exit.then]
  go_wp2
  refine leaves_cons (f:=175) (args:=#[.pointer (some ⟨w.heap.size,0,none⟩),.pointer (some ⟨w.heap.size+1,0,none⟩)]) (by simp) (by simp[go_sem]) ?_
  refine(catch_idle ⟨w.heap.size,0,none⟩ ⟨w.heap.size+1,0,none⟩ _).mono ?_;rintro e u' w'' ⟨rfl,rfl,hb⟩;have hsz:((w'.setCell ⟨w.heap.size,0,none⟩ (.int .i64 0)).setCell ⟨w.heap.size+1,0,none⟩ (.int .i64 0)).heap.size=w'.heap.size:=by simp[go_sem]
  rw[hsz]at hb
  have d1:w''.cell? ⟨w.heap.size,0,none⟩=some (.int .i64 0):=by
   rw[hb.cell l1];simp[go_sem,c1]
  have d2:w''.cell? ⟨w.heap.size+1,0,none⟩=some (.int .i64 0):=by
   rw[hb.cell l2];simp[go_sem,c2]
  simp[Leaves,settle,results,Tryz.results149,go_sem,d1,d2];exact⟨w',HQ.out,hb⟩
 have hcc:=RowKit.Hid.out Hc
 clear Hc hmf Hq hK
 revert key
 generalize K2=K
 intro key;rw[show((w.alloc (Obj.cells #[Value.int IntKind.i64 0] 3)).alloc (Obj.cells #[Value.int IntKind.i64 0] 62))=yfk w from rfl]
 generalize Sem.run zA (callFunc h (first++cap)) (yfk w)=r at hcc ⊢
 rcases hcc with⟨rfl,hc⟩|⟨v,w',rfl,hc⟩
 .rw[Oper.upon_enter];refine hc.mono ?_;rintro e w' ⟨⟨v,rfl⟩,hQ⟩;exact key v w' hQ
 .exact key v w' hc
end
section
namespace Ev
open Go Go.RowKit
theorem ytc(w:World)(k:Nat)(hk:k<w.heap.size):(yfk w).heap[k]?=w.heap[k]?:=by
 unfold yfk;rw[Below.heap_alloc _ _ _ (by simp[go_sem];omega),Below.heap_alloc _ _ _ hk]
theorem yeu(w:World):(yfk w).heap.size=w.heap.size+2:=by simp[yfk,go_sem]
theorem yblg(self:Task->Option Out)(hself:yem zA self)(args:List Value)(m:Mem)(out:Out)(h:evCatch self m args=some out):ybw zA (.call 149 args m) out:=by
 unfold evCatch at h;split at h
 .rename_i g first captured
  obtain⟨o,ho,h2⟩:=yg h;cases o with
  |code=>cases h2
  | call v m1 =>
    cases h2
    have hs:=hself _ _ ho;intro hw;obtain⟨hext,hall⟩:=hs hw;refine⟨hext,fun φ M w args' hR hsub hv hfresh=>.inl ⟨yby ysb zU rfl _ _,?_⟩⟩;obtain⟨u,rfl,hu⟩:=yfa hv;obtain⟨x',y',rfl,hf1,hf2⟩:=hu.func_inv;have hR2:Rel φ M (yfk w):=hR.keep fun k hk=>ytc w k hk
    have himg:∀k,w.heap.size<=k->¬Img φ M k:=by
     rintro k hk ⟨i,b,l,h1,h2,h3⟩;obtain⟨l',h4,h5⟩:=hR.blk i b h1;rw[h2]at h4;cases h4
     have:=h5.lt;omega
    have hcall:=hall φ M (yfk w) (x'++y') hR2 hsub (hf1.append hf2) hfresh;rw[show(x'++y').toArray=x'.toArray++y'.toArray by simp]at hcall
    refine(ybhh g x'.toArray y'.toArray w (fun w'=>∃e,ydno φ M (yfk w) m v m1 e w') ?_ ?_).mono ?_
    .rintro w' ⟨e,v',rfl,φ',M',hgood,hvr⟩;exact⟨hgood.wg.keep _ (by rw[yeu];omega) (himg _ (zJ _)),hgood.wg.keep _ (by rw[yeu];omega) (himg _ (by omega))⟩
    .rcases hcall with⟨h1,h2⟩|⟨v',w',h1,h2⟩
     .refine .inl ⟨h1,h2.mono ?_⟩;intro e w' hk;have hk':=hk;obtain⟨v',rfl,_⟩:=hk;exact⟨⟨_,rfl⟩,_,hk'⟩
     .exact .inr ⟨v',w',h1,_,h2⟩
    .rintro e w'' ⟨rfl,w',⟨e,v',rfl,φ',M',hgood,hvr⟩,hb⟩;have hsz:w.heap.size+2<=w'.heap.size:=by rw[<-yeu];exact hgood.wg.size
     have hheap:∀k,k<w'.heap.size->k≠w.heap.size->k≠w.heap.size+1->w''.heap[k]?=w'.heap[k]?:=fun k hk h1 h2=>by
      rw[hb.block k hk,Below.heap_setCell _ _ _ _ h2,Below.heap_setCell _ _ _ _ h1]
     have hne:∀k,Img φ' M' k->k≠w.heap.size/\k≠w.heap.size+1:=fun k hi=>by
      refine⟨?_,?_⟩
      .rintro rfl;exact himg _ (zJ _) (hgood.wg.img _ (by rw[yeu];omega) hi)
      .rintro rfl;exact himg _ (by omega) (hgood.wg.img _ (by rw[yeu];omega) hi)
     have hb2:w'.heap.size<=w''.heap.size:=by
      have:=hb.size
      simpa[go_sem]using this
     refine⟨_,rfl,φ',M',⟨hgood.le,hgood.out,⟨⟨fun i b h1=>?_,hgood.rel.inj⟩,fun x hx=>⟨?_,(hgood.rel.gl x hx).2⟩⟩,hgood.sub,hgood.frame,⟨hb.os.trans hgood.wg.os,hb.tape.trans hgood.wg.tape,hb.output.trans hgood.wg.output,by omega,fun k hk hi=>?_,fun k hk hi=>hgood.wg.img k (by rw[yeu];omega) hi⟩⟩,?_⟩
     .obtain⟨l,h2,h3⟩:=hgood.rel.blk i b h1;have hn:=hne l.blk ⟨i,b,l,h1,h2,rfl⟩;exact⟨l,h2,h3.keep (hheap _ h3.lt hn.1 hn.2)⟩
     .obtain⟨e,fz,q⟩:=(hgood.rel.gl x hx).1;obtain⟨e0,fz0,q0⟩:=(hR.gl x hx).1;have hlt:=(Array.getElem?_eq_some_iff.1 q0).1;exact⟨e,fz,(hheap _ (by omega) (by omega) (by omega)).trans q⟩
     .rw[hheap k (by omega) (by omega) (by omega),hgood.wg.keep k (by rw[yeu];omega) hi,ytc w k hk]
     .exact .tuple (.cons (.simple rfl) (.cons (.simple rfl) .nil))
 .cases h
end Ev
end
section
namespace Ev
open Go Go.RowKit
def hkC(cs:List Chunk):Hooks:=⟨some 149,some 261,some 153,symB,cs,none⟩
def hk(fs:List Fact):Hooks:=hkC [⟨1000000000000,fs⟩]
def ybd(fs:List Fact):Prop:=∀f∈fs,ycy zA f
def yck(cs:List Chunk):Prop:=∀c∈cs,ybd c.l
theorem ycze{cs:List Chunk}(h:yck cs):HooksOk zA (hkC cs) :=
 ⟨fun g h=>(by cases h;exact yblg),fun g h=>(by cases h;exact yqu),fun g h=>(by cases h;exact ybxh),h,fun g h=>(by cases h)⟩
theorem yck.nil:yck []:=fun c hc=>by cases hc
theorem yck.cons{n:Nat}{l:List Fact}{cs:List Chunk}(h:ybd l)(t:yck cs):yck (⟨n,l⟩::cs):=fun c hc=>by
 rcases List.mem_cons.1 hc with rfl|hc
 .exact h
 .exact t c hc
theorem ydmr{fs:List Fact}(h:ybd fs):HooksOk zA (hk fs):=ycze (yck.cons h yck.nil)
theorem ybd.nil:ybd []:=fun f hf=>by cases hf
theorem ybd.cons{f:Fact}{l:List Fact}(h:ycy zA f)(t:ybd l):ybd (f::l):=fun x hx=>by
 rcases List.mem_cons.1 hx with rfl|hx
 .exact h
 .exact t x hx
theorem ybd.at_{f:Fact}{l:List Fact}(h:ybd l)(i:Nat)(e:l[i]?=some f):ycy zA f:=h f (zG e)
theorem ybd.append{a b:List Fact}(ha:ybd a)(hb:ybd b):ybd (a++b):=fun f hf=>by
 rcases List.mem_append.1 hf with h|h
 .exact ha f h
 .exact hb f h
theorem ybd.check{fs new:List Fact}(h:ybd fs)(hc:new.all (fun f=>f.check zA (hk fs))=true):ybd new:=fun f hf =>
 ykj (yon mix ysb (ydmr h) 3000) (List.all_eq_true.1 hc f hf)
noncomputable def checkSeq(new:List Fact):List Fact->Bool:=List.rec (fun _=>true) (fun f _ ih fs=>f.check zA (hk fs)&&ih (f::fs)) new
theorem ybd.seq:∀{new fs:List Fact},ybd fs->checkSeq new fs=true->ybd new
 |[],_,_,_=>ybd.nil
 | f :: l,fs,h,hc=>by
   have hc:(f.check zA (hk fs)&&checkSeq l (f::fs))=true:=hc;rw[zB]at hc;have hf:ycy zA f:=ykj (yon mix ysb (ydmr h) 3000) hc.1
   have hfs:ybd (f::fs):=fun x hx=>by
    rcases List.mem_cons.1 hx with rfl|hx
    .exact hf
    .exact h x hx
   have hl:=ybd.seq hfs hc.2;intro x hx;rcases List.mem_cons.1 hx with rfl|hx
   .exact hf
   .exact hl x hx
theorem ybd.one{f:Fact}{cs:List Chunk}(h:yck cs)(hc:f.check zA (hkC cs)=true):ybd [f] :=
 ybd.cons (ykj (yon mix ysb (ycze h) 3000) hc) ybd.nil
def by8(l:List Nat):ByteArray:=⟨(l.map Nat.toUInt8).toArray⟩
end Ev
end
section
namespace Ev
noncomputable section defs
def renA(ρ:Nat->Nat)(a:Addr):Addr:=forceN (ρ a.block) fun b=>⟨b,a.off,a.spot⟩
def ren1(ρ:Nat->Nat):Value->Value
 |.pointer (some a)=>.pointer (some (renA ρ a))
 |.slice (some a) n c=>.slice (some (renA ρ a)) n c
 |v=>v
def ren2(ρ:Nat->Nat):Value->Value
 |.agg a=>.agg (a.toList.map (ren1 ρ)).toArray
 |.func g a c=>.func g (a.toList.map (ren1 ρ)).toArray (c.toList.map (ren1 ρ)).toArray
 |v=>ren1 ρ v
def renV(ρ:Nat->Nat):Value->Value
 |.tuple a=>.tuple (a.toList.map (ren2 ρ)).toArray
 |v=>ren2 ρ v
def ysd:Value->Bool
 |.pointer (some a)=>a.spot.isNone
 |.slice (some a) _ _=>a.spot.isNone
 |v=>simple v
def ylo:Value->Bool
 |.agg a=>a.toList.all ysd
 |.func (.func _) a c=>a.toList.all ysd&&c.toList.all ysd
 |v=>ysd v
def ybzj:Value->Bool
 |.tuple a=>a.toList.all ylo
 |v=>ylo v
def ybav:List BlkL->List Nat->Nat->Nat->Nat
 |b::l,t::k,d,i=>bif zZ b.i i then t else ybav l k d i
 |_,_,d,_=>d
def Fact.rho(f:Fact)(tgt:List Nat)(n0:Nat)(i:Nat):Nat :=
 bif zW f.next0 i&&zQ i f.next1 then zX (zY i f.next0) n0 else ybav f.pre tgt (zX n0 (zY f.next1 f.next0)) i
def BlkL.ren(ρ:Nat->Nat)(b:BlkL):BlkL:=⟨forceN (ρ b.i) fun i=>i,b.e,b.z,b.l.map (ren2 ρ)⟩
def Fact.move(f:Fact)(tgt:List Nat)(n0:Nat):Fact :=
 ⟨f.g,f.args.map (ren2 (f.rho tgt n0)),n0,f.pre.map (BlkL.ren (f.rho tgt n0)),renV (f.rho tgt n0) f.v,zX n0 (zY f.next1 f.next0),f.post.map (BlkL.ren (f.rho tgt n0)),n0⟩
def Fact.after(f:Fact):Mem:=⟨f.next1,blksT f.mem.b f.post,f.next0⟩
def yhe:List Nat->Bool
 |[]=>true
 |x::l=>!(l.elem x)&&yhe l
def Fact.moves(f:Fact)(tgt:List Nat)(n0:Nat):Bool :=
 zW f.next0 f.low&&f.args.all ylo&&ybzj f.v&&f.pre.all (fun b=>zQ b.i f.next0&&b.l.all ylo)&&f.post.all (fun b=>zQ b.i f.next1&&b.l.all ylo) &&
  yhe ((f.move tgt n0).pre.map (·.i))&&(f.move tgt n0).pre.all (fun b=>zQ b.i n0&&blkIs (f.move tgt n0).mem b)&&(f.move tgt n0).post.all (blkIs (f.move tgt n0).after)&&zW f.next0 f.next1
end defs
section
variable {φ φ2:Phi}{ρ:Nat->Nat}
theorem ykh(a:Addr):renA ρ a=⟨ρ a.block,a.off,a.spot⟩:=by unfold renA;rw[ybl]
theorem BlkL.yhm(b:BlkL):(b.ren ρ).i=ρ b.i:=by show forceN (ρ b.i) (fun i=>i)=_;rw[ybl]
theorem vr1(hφ:∀b,φ b=φ2 (ρ b)){v v':Value}(hf:ysd v=true):VR φ v v'↔VR φ2 (ren1 ρ v) v':=by
 unfold ysd at hf;split at hf
 .rename_i a
  obtain⟨b,o,s⟩:=a;have hs:s=none:=by simpa using hf
  subst hs;show VR φ _ _↔VR φ2 (.pointer (some (renA ρ ⟨b,o,none⟩))) v';rw[ykh];constructor
  .intro h;cases h with
   |simple q=>cases q
   |ptr h=>rw[hφ]at h;exact VR.ptr h
  .intro h;cases h with
   |simple q=>cases q
   |ptr h=>rw[<-hφ]at h;exact VR.ptr h
 .rename_i a n c
  obtain⟨b,o,s⟩:=a;have hs:s=none:=by simpa using hf
  subst hs;show VR φ _ _↔VR φ2 (.slice (some (renA ρ ⟨b,o,none⟩)) n c) v';rw[ykh];constructor
  .intro h;cases h with
   |simple q=>cases q
   |slice h h1 h2 h3 h4=>rw[hφ]at h;exact VR.slice h h1 h2 h3 h4
  .intro h;cases h with
   |simple q=>cases q
   |slice h h1 h2 h3 h4=>rw[<-hφ]at h;exact VR.slice h h1 h2 h3 h4
 .rename_i h1 h2
  have hr:ren1 ρ v=v:=by
   unfold ren1;split
   .rename_i a;exact absurd rfl (h1 a)
   .rename_i a n c;exact absurd rfl (h2 a n c)
   .rfl
  rw[hr];constructor
  .intro h;rw[h.eq_simple hf];exact VR.simple hf
  .intro h;rw[h.eq_simple hf];exact VR.simple hf
theorem vrl1(hφ:∀b,φ b=φ2 (ρ b)):∀{l l':List Value},l.all ysd=true->(VRL φ l l'↔VRL φ2 (l.map (ren1 ρ)) l')
 | [],l',_=>by
   constructor
   .intro h;cases h;exact VRL.nil
   .intro h;cases h;exact VRL.nil
 | v :: l,l',hf=>by
   simp only[zS,zB]at hf;constructor
   .intro h;cases h with
    |cons h1 h2=>exact VRL.cons ((vr1 hφ hf.1).1 h1) ((vrl1 hφ hf.2).1 h2)
   .intro h;cases h with
    |cons h1 h2=>exact VRL.cons ((vr1 hφ hf.1).2 h1) ((vrl1 hφ hf.2).2 h2)
theorem vr2(hφ:∀b,φ b=φ2 (ρ b)){v v':Value}(hf:ylo v=true):VR φ v v'↔VR φ2 (ren2 ρ v) v':=by
 unfold ylo at hf;split at hf
 .rename_i a
  obtain⟨a⟩:=a;show VR φ (.agg a.toArray) _↔VR φ2 (.agg (a.map (ren1 ρ)).toArray) v';constructor
  .intro h;cases h with
   |simple q=>cases q
   |agg h=>exact VR.agg ((vrl1 hφ hf).1 h)
  .intro h;cases h with
   |simple q=>cases q
   |agg h=>exact VR.agg ((vrl1 hφ hf).2 h)
 .rename_i g a c
  obtain⟨a⟩:=a;obtain⟨c⟩:=c;simp only[zB]at hf;show VR φ (.func (.func g) a.toArray c.toArray) _↔VR φ2 (.func (.func g) (a.map (ren1 ρ)).toArray (c.map (ren1 ρ)).toArray) v';constructor
  .intro h;cases h with
   |simple q=>cases q
   |func h k=>exact VR.func ((vrl1 hφ hf.1).1 h) ((vrl1 hφ hf.2).1 k)
  .intro h;cases h with
   |simple q=>cases q
   |func h k=>exact VR.func ((vrl1 hφ hf.1).2 h) ((vrl1 hφ hf.2).2 k)
 .rename_i h1 h2
  have hr:ren2 ρ v=ren1 ρ v:=by
   unfold ren2;split
   .rename_i a;exact absurd rfl (h1 a)
   .rename_i g a c
    cases hf
   .rfl
  rw[hr];exact vr1 hφ hf
theorem vrl2(hφ:∀b,φ b=φ2 (ρ b)):∀{l l':List Value},l.all ylo=true->(VRL φ l l'↔VRL φ2 (l.map (ren2 ρ)) l')
 | [],l',_=>by
   constructor
   .intro h;cases h;exact VRL.nil
   .intro h;cases h;exact VRL.nil
 | v :: l,l',hf=>by
   simp only[zS,zB]at hf;constructor
   .intro h;cases h with
    |cons h1 h2=>exact VRL.cons ((vr2 hφ hf.1).1 h1) ((vrl2 hφ hf.2).1 h2)
   .intro h;cases h with
    |cons h1 h2=>exact VRL.cons ((vr2 hφ hf.1).2 h1) ((vrl2 hφ hf.2).2 h2)
theorem vrV(hφ:∀b,φ b=φ2 (ρ b)){v v':Value}(hf:ybzj v=true)(h:VR φ v v'):VR φ2 (renV ρ v) v':=by
 unfold ybzj at hf;split at hf
 .rename_i a
  obtain⟨a⟩:=a;show VR φ2 (.tuple (a.map (ren2 ρ)).toArray) v';cases h with
  |simple q=>cases q
  |tuple h=>exact VR.tuple ((vrl2 hφ hf).1 h)
 .rename_i h1
  have hr:renV ρ v=ren2 ρ v:=by
   unfold renV;split
   .rename_i a;exact absurd rfl (h1 a)
   .rfl
  rw[hr];exact(vr2 hφ hf).1 h
theorem yws{α:Type}{g:α->Nat}:∀{l:List α},yhe (l.map g)=true->∀a∈l,∀b∈l,g a=g b->a=b
 |[],_,a,ha,_,_,_=>by cases ha
 | x :: l,h,a,ha,b,hb,e=>by
   have h:(!(l.map g).elem (g x)&&yhe (l.map g))=true:=h;simp only[zB,Bool.not_eq_true']at h
   have hx:∀y∈l,g y≠g x:=fun y hy q=>by
    have:(l.map g).elem (g x)=true:=List.elem_eq_true_of_mem (List.mem_map.2 ⟨y,hy,q⟩);rw[this]at h;cases h.1
   rcases List.mem_cons.1 ha with ea|ha'
   .rcases List.mem_cons.1 hb with eb|hb'
    .rw[ea,eb]
    .exact absurd (by rw[<-e,ea]) (hx b hb')
   .rcases List.mem_cons.1 hb with eb|hb'
    .exact absurd (by rw[e,eb]) (hx a ha')
    .exact yws h.2 a ha' b hb' e
theorem ybkn:∀(l:List BlkL) (k:List Nat) (d i:Nat),ybav l k d i=d\/∃b∈l,b.i=i
 |[],_,_,_=>.inl rfl
 |_::_,[],_,_=>.inl rfl
 | b :: l,t::k,d,i=>by
   unfold ybav;rw[zH];split
   .rename_i h;exact .inr ⟨b,List.mem_cons_self,zN h⟩
   .rcases ybkn l k d i with h|⟨c,h1,h2⟩
    .exact .inl h
    .exact .inr ⟨c,List.mem_cons_of_mem _ h1,h2⟩
end
theorem ycs{P:Program}{f:Fact}{tgt:List Nat}{n0:Nat}(hok:ycy P f)(hc:f.moves tgt n0=true):ycy P (f.move tgt n0):=by
 obtain⟨m',hs,e1,e2,e3⟩:=hok;unfold Fact.moves at hc;simp only[zB]at hc;obtain⟨⟨⟨⟨⟨⟨⟨⟨c1,c2⟩,c3⟩,c4⟩,c5⟩,c6⟩,c7⟩,c8⟩,c9⟩:=hc;have c1:=zC c1;have c9:=zC c9;obtain⟨ρ,hρ⟩:∃ρ,f.rho tgt n0=ρ:=⟨_,rfl⟩;obtain⟨n1,hn1⟩:∃n1,n0+(f.next1-f.next0)=n1:=⟨_,rfl⟩
 have hmv:f.move tgt n0=⟨f.g,f.args.map (ren2 ρ),n0,f.pre.map (BlkL.ren ρ),renV ρ f.v,n1,f.post.map (BlkL.ren ρ),n0⟩:=by
  unfold Fact.move;rw[hρ,<-hn1];rfl
 rw[hmv]at c6 c7 c8 ⊢;simp only at c6 c7 c8
 have hpre:∀b∈f.pre,b.i<f.next0/\b.l.all ylo=true:=fun b hb=>by
  have:=List.all_eq_true.1 c4 b hb;simp only[zB]at this;exact⟨zF (zI _) (zC this.1),this.2⟩
 have hpostc:∀b∈f.post,b.i<f.next1/\b.l.all ylo=true:=fun b hb=>by
  have:=List.all_eq_true.1 c5 b hb;simp only[zB]at this;exact⟨zF (zI _) (zC this.1),this.2⟩
 have hinj:∀b∈f.pre,∀c∈f.pre,ρ b.i=ρ c.i->b=c:=by
  rw[List.map_map]at c6;intro b hb c hc he;exact yws c6 b hb c hc (by show(b.ren ρ).i=(c.ren ρ).i;rw[b.yhm,c.yhm];exact he)
 have hp2:∀b∈f.pre,ρ b.i<n0/\blkIs (Fact.mem ⟨f.g,f.args.map (ren2 ρ),n0,f.pre.map (BlkL.ren ρ),renV ρ f.v,n1,f.post.map (BlkL.ren ρ),n0⟩) (b.ren ρ)=true:=fun b hb=>by
  have:=List.all_eq_true.1 c7 (b.ren ρ) (List.mem_map.2 ⟨b,hb,rfl⟩);simp only[zB]at this;have h1:=zF (zI _) (zC this.1);rw[b.yhm]at h1;exact⟨h1,this.2⟩
 have hfresh:∀i,f.next0<=i->i<f.next1->ρ i=i-f.next0+n0:=fun i h1 h2=>by
  rw[<-hρ];unfold Fact.rho;rw[zH,if_pos (by simp only[zB];exact⟨zO h1,zO h2⟩)]
  rfl
 have hold:∀i,¬(f.next0<=i/\i<f.next1)->ρ i=n1\/ρ i<n0:=fun i hi=>by
  have h1:ρ i=ybav f.pre tgt n1 i:=by
   rw[<-hρ,<-hn1];unfold Fact.rho;rw[zH,if_neg]
   .rfl
   .simp only[zB];exact fun q=>hi ⟨zC q.1,zF (zI _) (zC q.2)⟩
  rcases ybkn f.pre tgt n1 i with h|⟨b,hb,rfl⟩
  .exact .inl (h1.trans h)
  .exact .inr (hp2 b hb).1
 have hle:n0<=n1:=by omega
 let f2:Fact:=⟨f.g,f.args.map (ren2 ρ),n0,f.pre.map (BlkL.ren ρ),renV ρ f.v,n1,f.post.map (BlkL.ren ρ),n0⟩
 have hget:∀i x,f.mem.b.get i=some x->∃b∈f.pre,b.i=i/\x=b.blk:=fun i x hx=>by
  rcases yih hx with h|h
  .exact h
  .cases h
 have hget2:∀i x,f2.mem.b.get i=some x->∃b∈f.pre,ρ b.i=i/\x=(b.ren ρ).blk:=fun i x hx=>by
  rcases yih hx with⟨b',hb',h1,h2⟩|h
  .obtain⟨b,hb,rfl⟩:=List.mem_map.1 hb';rw[b.yhm]at h1;exact⟨b,hb,h1,h2⟩
  .cases h
 have hpost:∀b∈f.post,f.next0<=b.i/\b.i<f.next1/\∃c,m'.b.get b.i=some (.cells c b.l.length b.e b.z)/\∀j v,j<b.l.length->(c.get j=some v↔b.l[j]?=some v):=fun b hb=>by
  obtain⟨c,k1,_,k2⟩:=yit (e3 b hb).2;exact⟨Nat.le_trans c1 (e3 b hb).1,(hpostc b hb).1,c,k1,k2⟩
 have hget3:∀i x,(blksT f2.mem.b f2.post).get i=some x->(∃b∈f.post,ρ b.i=i/\x=(b.ren ρ).blk)\/f2.mem.b.get i=some x:=fun i x hx=>by
  rcases yih hx with⟨b',hb',h1,h2⟩|h
  .obtain⟨b,hb,rfl⟩:=List.mem_map.1 hb';rw[b.yhm]at h1;exact .inl ⟨b,hb,h1,h2⟩
  .exact .inr h
 have hpr:∀b∈f.post,n0<=ρ b.i/\ρ b.i<n1:=fun b hb=>by
  obtain⟨k1,k2,_⟩:=hpost b hb;rw[hfresh b.i k1 k2];omega
 have hwf1:Wf f.mem:=fun i x hx=>by
  obtain⟨b,hb,rfl,rfl⟩:=hget i x hx;exact(hpre b hb).1
 refine⟨f2.after,?_,rfl,zJ _,fun b hb=>?_⟩
 .intro hw;obtain⟨E,S⟩:=hs hwf1;refine⟨⟨hle,fun i x hx=>?_,fun i x hi hnf hx=>?_,fun i x hx=>?_⟩,fun φ2 M2 w args' hR hsub hv hfr=>?_⟩
  .rcases hget3 i x hx with⟨b,hb,rfl,rfl⟩|h
   .exact .inr (hpr b hb)
   .exact .inl ⟨x,h⟩
  .rcases hget3 i x hx with⟨b,hb,rfl,rfl⟩|h
   .exact absurd (hpr b hb) hnf
   .exact h
  .show i<n1;rcases hget3 i x hx with⟨b,hb,rfl,rfl⟩|h
   .exact(hpr b hb).2
   .exact zF (hw i x h) hle
  .have hfr:∀i,n0<=i->i<n1->φ2 i=none:=hfr
   let φ:Phi:=fun b=>φ2 (ρ b)
   let M:AM:=fun i=>f.mem.b.get i
   have hφ:∀b,φ b=φ2 (ρ b):=fun _=>rfl
   have hpm:∀b∈f.pre,∃c,M2 (ρ b.i)=some (.cells c b.l.length b.e b.z)/\∀j v,j<b.l.length->(c.get j=some v↔(b.l.map (ren2 ρ))[j]?=some v):=fun b hb=>by
    obtain⟨c,k1,_,k2⟩:=yit (hp2 b hb).2;rw[b.yhm]at k1;have el:(b.ren ρ).l.length=b.l.length:=zM ..;rw[el]at k1 k2;exact⟨c,hsub _ _ k1,k2⟩
   have hmapget:∀{l:List Value}{j:Nat}{v:Value},l[j]?=some v->(l.map (ren2 ρ))[j]?=some (ren2 ρ v):=fun h=>by rw[zL,h];rfl
   have hRel:Rel φ M w:=by
    refine⟨⟨fun i x hx=>?_,fun i j x y li lj hne hx hy hli hlj=>?_⟩,fun z hz=>⟨(hR.gl z hz).1,fun⟨i,x,l,a1,a2,a3⟩=>(hR.gl z hz).2 (by
     obtain⟨b,hb,rfl,rfl⟩:=hget i x a1;obtain⟨c,k1,_⟩:=hpm b hb;exact⟨_,_,l,k1,a2,a3⟩)⟩⟩
    .obtain⟨b,hb,rfl,rfl⟩:=hget i x hx;obtain⟨c,k1,k2⟩:=hpm b hb;obtain⟨l,r1,r2,r3,cs,qe,qf,q0,r4,r5,r6⟩:=hR.blk _ _ k1;refine⟨l,r1,r2,r3,cs,qe,qf,q0,r4,r5,fun j v hj hg=>?_⟩;have hv0:=ykg hg;obtain⟨v',s1,s2⟩:=r6 j _ hj ((k2 j _ hj).2 (hmapget hv0));exact⟨v',s1,(vr2 hφ (List.all_eq_true.1 (hpre b hb).2 v (zG hv0))).2 s2⟩
    .obtain⟨b,hb,rfl,rfl⟩:=hget i x hx;obtain⟨c,hc,rfl,rfl⟩:=hget j y hy;obtain⟨cb,k1,_⟩:=hpm b hb;obtain⟨cc,k2,_⟩:=hpm c hc;exact hR.inj _ _ _ _ li lj (fun q=>hne (by rw[hinj b hb c hc q])) k1 k2 hli hlj
   have hSub:Sub f.mem M:=fun i x hx=>hx
   have hFr:ygh φ f.mem.next m'.next:=fun i h1 h2=>by
    rw[e1]at h2;have h1:f.next0<=i:=h1;show φ2 (ρ i)=none;rw[hfresh i h1 h2];exact hfr _ (by omega) (by omega)
   refine(S φ M w args' hRel hSub ((vrl2 hφ c2).2 hv) hFr).mono ?_;rintro e w' ⟨v',rfl,φ',M',hgd,hvr⟩;have hout:∀i,¬(f.next0<=i/\i<f.next1)->φ' i=φ i:=fun i hi=>hgd.out i (by rw[e1];exact hi)
   have hframe:∀i,¬(f.next0<=i/\i<f.next1)->(f.mem.b.get i=none\/i<f.next0)->M' i=M i:=fun i hi hn =>
    hgd.frame i (by rw[e1];exact hi) (hn.imp id fun q=>by omega)
   let φ3:Phi:=fun j=>if n0<=j/\j<n1 then φ' (j-n0+f.next0)else φ2 j
   let M3:AM:=fun j=>if n0<=j/\j<n1 then f2.after.b.get j else M2 j
   have hφ3:∀b,φ' b=φ3 (ρ b):=fun b=>by
    by_cases hb:f.next0<=b/\b<f.next1
    .have hr:=hfresh b hb.1 hb.2;have:n0<=ρ b/\ρ b<n1:=by rw[hr];omega
     show φ' b=if n0<=ρ b/\ρ b<n1 then φ' (ρ b-n0+f.next0)else φ2 (ρ b)
     rw[if_pos this,hr];congr 1;omega
    .have:¬(n0<=ρ b/\ρ b<n1):=by rcases hold b hb with h|h<;>omega
     show φ' b=if n0<=ρ b/\ρ b<n1 then φ' (ρ b-n0+f.next0)else φ2 (ρ b)
     rw[if_neg this,hout b hb]
   have hle3:φ2.le φ3:=fun j l hj=>by
    have:¬(n0<=j/\j<n1):=fun q=>by rw[hfr j q.1 q.2]at hj;cases hj
    show(if n0<=j/\j<n1 then φ' (j-n0+f.next0)else φ2 j)=some l
    rw[if_neg this];exact hj
   have hout3:∀j,¬(n0<=j/\j<n1)->φ3 j=φ2 j:=fun j hj=>if_neg hj;have hM3o:∀j,¬(n0<=j/\j<n1)->M3 j=M2 j:=fun j hj=>if_neg hj;have hM3f:∀j,n0<=j/\j<n1->M3 j=f2.after.b.get j:=fun j hj=>if_pos hj
   have hnew:∀j x,n0<=j/\j<n1->M3 j=some x->∃b∈f.post,ρ b.i=j/\x=(b.ren ρ).blk:=fun j x hj hx=>by
    rw[hM3f j hj]at hx;rcases hget3 j x hx with h|h
    .exact h
    .obtain⟨b,hb,rfl,_⟩:=hget2 j x h;have:=(hp2 b hb).1;omega
   have hnewR:∀b∈f.post,∃l c,φ' b.i=some l/\M' b.i=some (.cells c b.l.length b.e b.z)/\BR φ3 l w' (b.ren ρ).blk/\¬l.blk<w.heap.size:=fun b hb=>by
    obtain⟨k1,k2,c,k3,k4⟩:=hpost b hb;have hM:=hgd.sub _ _ k3;obtain⟨l,r1,r2,r3,cs,qe,qf,q0,r4,r5,r6⟩:=hgd.rel.blk _ _ hM;have el:(b.ren ρ).l.length=b.l.length:=zM ..;refine⟨l,c,r1,hM,⟨r2,by rw[el];exact r3,cs,qe,qf,q0,r4,r5,fun j v hj hg=>?_⟩,fun hlt=>?_⟩
    .rw[el]at hj;have hg:=ykg hg;have hg':(b.l.map (ren2 ρ))[j]?=some v:=hg;rw[zL]at hg';cases hq:b.l[j]? with
     |none=>rw[hq]at hg';cases hg'
     | some u =>
       rw[hq]at hg';cases hg'
       obtain⟨v',s1,s2⟩:=r6 j u hj ((k4 j u hj).2 hq);exact⟨v',s1,(vr2 hφ3 (List.all_eq_true.1 (hpostc b hb).2 u (zG hq))).1 s2⟩
    .obtain⟨i,x,l',a1,a2,a3⟩:=hgd.wg.img l.blk hlt ⟨_,_,l,hM,r1,rfl⟩;obtain⟨p,hp,rfl,rfl⟩:=hget i x a1;have hpi:=(hpre p hp).1;have hnf:¬(f.next0<=p.i/\p.i<f.next1):=fun q=>by omega
     have hMp:=hframe p.i hnf (.inr hpi);exact hgd.rel.inj p.i b.i _ _ l' l (by omega) (hMp.trans a1) hM ((hout p.i hnf).trans a2) r1 a3
   have hoimg:∀j x l,¬(n0<=j/\j<n1)->M2 j=some x->φ2 j=some l->BR φ3 l w' x:=fun j x l hj hx hl=>by
    obtain⟨l0,q1,q2⟩:=hR.blk j x hx;rw[hl]at q1;cases q1
    by_cases him:Img φ M l.blk
    .obtain⟨i,y,l',a1,a2,a3⟩:=him;obtain⟨p,hp,rfl,rfl⟩:=hget i y a1;obtain⟨c,k1,k2⟩:=hpm p hp
     have hji:j=ρ p.i:=by
      apply zT;intro hne;exact hR.inj _ _ _ _ l l' hne hx k1 hl a2 a3.symm
     subst hji;rw[k1]at hx;cases hx
     have a2':φ2 (ρ p.i)=some l':=a2;rw[hl]at a2';cases a2'
     have hpi:=(hpre p hp).1;have hnf:¬(f.next0<=p.i/\p.i<f.next1):=fun q=>by omega
     have hMp:=(hframe p.i hnf (.inr hpi)).trans a1;obtain⟨l2,r1,r2,r3,cs,qe,qf,q0,r4,r5,r6⟩:=hgd.rel.blk _ _ hMp;rw[hout p.i hnf,a2]at r1;cases r1
     refine⟨r2,r3,cs,qe,qf,q0,r4,r5,fun j v hj' hg=>?_⟩;have hg:=(k2 j v hj').1 hg;rw[zL]at hg;cases hq:p.l[j]? with
     |none=>rw[hq]at hg;cases hg
     | some u =>
       rw[hq]at hg;cases hg
       have hlen:p.l.length<1000000:=by
        obtain⟨_,_,hl6,_⟩:=yit (hp2 p hp).2;have el:(p.ren ρ).l.length=p.l.length:=zM ..
        rwa [el]at hl6
       obtain⟨v',s1,s2⟩:=r6 j u hj' (by rw[ybwd (by omega)];exact hq)
       exact⟨v',s1,(vr2 hφ3 (List.all_eq_true.1 (hpre p hp).2 u (zG hq))).1 s2⟩
    .exact(q2.keep (hgd.wg.keep _ q2.lt him)).mono hle3
   have himg3:∀k,k<w.heap.size->Img φ3 M3 k->Img φ2 M2 k:=fun k hk hq=>by
    obtain⟨i,x,l,a1,a2,rfl⟩:=hq
    by_cases hi:n0<=i/\i<n1
    .obtain⟨b,hb,rfl,rfl⟩:=hnew i x hi a1;obtain⟨l',c,r1,_,_,r4⟩:=hnewR b hb;rw[<-hφ3,r1]at a2;cases a2
     exact absurd hk r4
    .rw[hM3o i hi]at a1;rw[hout3 i hi]at a2;exact⟨i,x,l,a1,a2,rfl⟩
   refine⟨v',rfl,φ3,M3,⟨hle3,hout3,⟨⟨fun j x hx=>?_,fun i j x y li lj hne hx hy hli hlj=>?_⟩,fun z hz=>⟨(hgd.rel.gl z hz).1,fun q=>(hR.gl z hz).2 (himg3 _ (Array.getElem?_eq_some_iff.1 (hR.gl z hz).1.choose_spec.choose_spec).1 q)⟩⟩,fun i x hx=>?_,fun i hi _=>hM3o i hi,⟨hgd.wg.os,hgd.wg.tape,hgd.wg.output,hgd.wg.size,fun k hk hn=>?_,fun k hk hq=>?_⟩⟩,vrV hφ3 c3 hvr⟩
   .by_cases hj:n0<=j/\j<n1
    .obtain⟨b,hb,rfl,rfl⟩:=hnew j x hj hx;obtain⟨l,c,r1,_,r3,_⟩:=hnewR b hb;exact⟨l,by rw[<-hφ3];exact r1,r3⟩
    .rw[hM3o j hj]at hx;obtain⟨l,q1,_⟩:=hR.blk j x hx;exact⟨l,by rw[hout3 j hj];exact q1,hoimg j x l hj hx q1⟩
   .by_cases hi:n0<=i/\i<n1
    .obtain⟨b,hb,rfl,rfl⟩:=hnew i x hi hx;obtain⟨l,c,r1,r2,_,r4⟩:=hnewR b hb;rw[<-hφ3,r1]at hli;cases hli
     by_cases hj:n0<=j/\j<n1
     .obtain⟨b',hb',rfl,rfl⟩:=hnew j y hj hy;obtain⟨l',c',s1,s2,_,_⟩:=hnewR b' hb';rw[<-hφ3,s1]at hlj;cases hlj
      exact hgd.rel.inj _ _ _ _ _ _ (fun q=>hne (by rw[q])) r2 s2 r1 s1
     .rw[hM3o j hj]at hy;rw[hout3 j hj]at hlj;obtain⟨l',q1,q2⟩:=hR.blk j y hy;rw[hlj]at q1;cases q1
      exact fun q=>r4 (by rw[q];exact q2.lt)
    .rw[hM3o i hi]at hx;rw[hout3 i hi]at hli
     by_cases hj:n0<=j/\j<n1
     .obtain⟨b',hb',rfl,rfl⟩:=hnew j y hj hy;obtain⟨l',c',s1,s2,_,s4⟩:=hnewR b' hb';rw[<-hφ3,s1]at hlj;cases hlj
      obtain⟨l0,q1,q2⟩:=hR.blk i x hx;rw[hli]at q1;cases q1
      exact fun q=>s4 (by rw[<-q];exact q2.lt)
     .rw[hM3o j hj]at hy;rw[hout3 j hj]at hlj;exact hR.inj i j x y li lj hne hx hy hli hlj
   .show M3 i=some x
    by_cases hi:n0<=i/\i<n1
    .rw[hM3f i hi];exact hx
    .rw[hM3o i hi];rcases hget3 i x hx with⟨b,hb,rfl,rfl⟩|h
     .exact absurd (hpr b hb) hi
     .exact hsub i x h
   .refine hgd.wg.keep k hk fun⟨i,x,l,a1,a2,a3⟩=>hn ?_;obtain⟨b,hb,rfl,rfl⟩:=hget i x a1;obtain⟨c,k1,_⟩:=hpm b hb;exact⟨_,_,l,k1,a2,a3⟩
   .exact himg3 k hk hq
 .obtain⟨b0,hb0,rfl⟩:=List.mem_map.1 hb;refine⟨?_,List.all_eq_true.1 c8 _ hb⟩;show n0<=(b0.ren ρ).i;rw[b0.yhm];exact(hpr b0 hb0).1
end Ev
end
section
namespace Ev
def Nqii(n:Int):Value:=.int .i64 n
def NqiL:List Int->List Value
 |[]=>[]
 |n::l=>.int .i64 n::NqiL l
def NqiA(l:List Int):Array Value:=⟨NqiL l⟩
def Nqnx(g:Nat)(t:ByteArray)(a:Int)(n:Nat)(l:List Int)(e:Int)(m:Nat):Fact:=⟨g,[.string t,.int .i64 a],n,[],.tuple #[.agg (NqiA l),.int .i64 e],m,[],n⟩
def yw:ByteArray:=by8 [112,114,111,103,114,97,109,32,101,108,101,99,116,105,111,110,59,10,118,97,114,32,104,32,58,32,48,32,46,46,32,110,59,10,118,97,114,32,108,32,58,32,98,111,111,108,59,10,114,117,108,101,32,102,105,120,58,32,104,32,33,61,32,40,100,101,103,32,60,32,50,32,63,32,48,32,58,32,40,115,101,99,111,110,100,40,113,46,104,41,32,60,32,110,32,63,32,115,101,99,111,110,100,40,113,46,104,41,32,43,32,49,32,58,32,110,41,41,32,45,62,32,104,32,58,61,32,40,100,101,103,32,60,32,50,32,63,32,48,32,58,32,40,115,101,99,111,110,100,40,113,46,104,41,32,60,32,110,32,63,32,115,101,99,111,110,100,40,113,46,104,41,32,43,32,49,32,58,32,110,41,41,59,10,114,117,108,101,32,100,114,111,112,58,32,108,32,38,38,32,33,97,108,108,40,113,46,104,32,60,61,32,104,41,32,45,62,32,108,32,58,61,32,102,97,108,115,101,59,10,114,117,108,101,32,116,97,107,101,58,32,33,108,32,38,38,32,97,108,108,40,113,46,104,32,60,32,104,41,32,45,62,32,108,32,58,61,32,116,114,117,101,59,10,114,117,108,101,32,116,105,101,58,32,104,32,60,32,110,32,38,38,32,97,108,108,40,113,46,104,32,60,61,32,104,41,32,38,38,32,115,111,109,101,40,113,46,104,32,61,61,32,104,32,38,38,32,113,46,108,32,61,61,32,108,41,32,45,62,32,108,32,58,61,32,33,108,59,10]
def yrb:List Value:=(NqiL [1,0,7,0,1,8,16,0,3,16,17,0,1,18,21,0,1,22,23,0,3,24,25,0,2,26,27,0,3,28,30,0,1,31,32,0,3,32,33,0,1,34,37,0,1,38,39,0,3,40,41,0,1,42,46,0,3,46,47,0,1,48,52,0,1,53,56,0,3,56,57,0,1,58,59,0,3,60,62,0,3,63,64,0,1,64,67,0,3,68,69,0,2,70,71,2,3,72,73,0,2,74,75,0,3,76,77,0,3,78,79,0,1,79,85,0,3,85,86,0,1,86,87,0,3,87,88,0,1,88,89,0,3,89,90,0,3,91,92,0,1,93,94,0,3,95,96,0,1,97,103,0,3,103,104,0,1,104,105,0,3,105,106,0,1,106,107,0,3,107,108,0,3,109,110,0,2,111,112,1,3,113,114,0,1,115,116,0,3,116,117,0,3,117,118,0,3,119,121,0,1,122,123,0,3,124,126,0,3,127,128,0,1,128,131,0,3,132,133,0,2,134,135,2,3,136,137,0,2,138,139,0,3,140,141,0,3,142,143,0,1,143,149,0,3,149,150,0,1,150,151,0,3,151,152,0,1,152,153,0,3,153,154,0,3,155,156,0,1,157,158,0,3,159,160,0,1,161,167,0,3,167,168,0,1,168,169,0,3,169,170,0,1,170,171,0,3,171,172,0,3,173,174,0,2,175,176,1,3,177,178,0,1,179,180,0,3,180,181,0,3,181,182,0,3,182,183,0,1,184,188,0,1,189,193,0,3,193,194,0,1,195,196,0,3,197,199,0,3,200,201,0,1,201,204,0,3,204,205,0,1,205,206,0,3,206,207,0,1,207,208,0,3,209,211,0,1,212,213,0,3,213,214,0,3,215,217,0,1,218,219,0,3,220,222,0,1,223,228,0,3,228,229,0,1,230,234,0,1,235,239,0,3,239,240,0,3,241,242,0,1,242,243,0,3,244,246,0,1,247,250,0,3,250,251,0,1,251,252,0,3,252,253,0,1,253,254,0,3,255,256,0,1,257,258,0,3,258,259,0,3,260,262,0,1,263,264,0,3,265,267,0,1,268,272,0,3,272,273,0,1,274,278,0,1,279,282,0,3,282,283,0,1,284,285,0,3,286,287,0,1,288,289,0,3,290,292,0,1,293,296,0,3,296,297,0,1,297,298,0,3,298,299,0,1,299,300,0,3,301,303,0,1,304,305,0,3,305,306,0,3,307,309,0,1,310,314,0,3,314,315,0,1,315,316,0,3,316,317,0,1,317,318,0,3,319,321,0,1,322,323,0,3,324,326,0,1,327,328,0,3,328,329,0,1,329,330,0,3,331,333,0,1,334,335,0,3,335,336,0,3,337,339,0,1,340,341,0,3,342,344,0,3,345,346,0,1,346,347,0,3,347,348,0])
def Nqb0:BlkL:=⟨1236,240,2,(NqiL [36,0,5,0,43,0,37,0,9,0,1,2,1,0,43,0,37,0,28,0,12,0,6,0,33,0,28,0,12,0,1,1,6,0])⟩
def Nqb1:BlkL:=⟨1392,240,2,(NqiL [43,0,37,0,9,0,1,2,1,0,43,0,37,0,28,0,12,0,6,0,33,0,28,0,12,0,1,1,6,0])⟩
def Nqb2:BlkL:=⟨1401,200,2,[Nqii 0,.slice (some ⟨1392,0,none⟩) 15 CU]⟩
def Nqb3:BlkL:=⟨1474,240,2,(NqiL [41,0,5,1,19,0,20,0,38,0,12,0,5,0])⟩
def Nqb4:BlkL:=⟨1487,240,2,(NqiL [3,0])⟩
def Nqb5:BlkL:=⟨1494,200,2,[Nqii 1,.slice (some ⟨1487,0,none⟩) 1 1]⟩
def Nqb6:BlkL:=⟨1567,240,2,(NqiL [41,0,19,0,5,1,20,0,37,0,12,0,5,0])⟩
def Nqb7:BlkL:=⟨1580,240,2,(NqiL [2,0])⟩
def Nqb8:BlkL:=⟨1587,200,2,[Nqii 1,.slice (some ⟨1580,0,none⟩) 1 1]⟩
def Nqb9:BlkL:=⟨1745,240,2,(NqiL [41,0,41,0,37,0,5,0,6,0,20,0,38,0,12,0,5,0,21,0,41,0,35,0,12,0,5,0,35,0,12,1,5,1])⟩
def ybno:BlkL:=⟨1764,240,2,(NqiL [19,0,5,1])⟩
def ybqn:BlkL:=⟨1771,200,2,[Nqii 1,.slice (some ⟨1764,0,none⟩) 2 CU]⟩
end Ev
end
section
namespace Ev
def ydnr:List Fact:=[⟨181,[.pointer (some ⟨1022,0,none⟩)],1501,[⟨1021,175,4,yrb⟩,⟨1022,151,0,[.string yw,.slice (some ⟨1021,408,none⟩) 54 CU,.slice (some ⟨1060,0,none⟩) 2 CU,.string (by8 [101,108,101,99,116,105,111,110]),.slice (some ⟨1062,0,none⟩) 2 CU,.slice (some ⟨1498,0,none⟩) 2 CU,.slice (some ⟨1412,0,none⟩) 2 CU]⟩,⟨1060,9,1,[.string (by8 [104]),.string (by8 [108])]⟩,⟨1062,87,6,[.string (by8 [104]),Nqii 1,Nqii 0,Nqii 0,Nqii 1,Nqii 0,.string (by8 [108]),Nqii 2,Nqii 0,Nqii 0,Nqii 0,Nqii 0]⟩,Nqb0,Nqb1,Nqb2,⟨1412,9,1,[.string (by8 [102,105,120]),.string (by8 [100,114,111,112])]⟩,Nqb3,Nqb4,Nqb5,⟨1498,191,3,[.string (by8 [102,105,120]),.slice (some ⟨1236,0,none⟩) 17 CU,.slice (some ⟨1401,0,none⟩) 1 CU,.string (by8 [100,114,111,112]),.slice (some ⟨1474,0,none⟩) 7 CU,.slice (some ⟨1494,0,none⟩) 1 CU]⟩],.tuple #[],1592,[⟨1022,151,0,[.string yw,.slice (some ⟨1021,480,none⟩) 36 CU,.slice (some ⟨1060,0,none⟩) 2 CU,.string (by8 [101,108,101,99,116,105,111,110]),.slice (some ⟨1062,0,none⟩) 2 CU,.slice (some ⟨1591,0,none⟩) 3 CU,.slice (some ⟨1505,0,none⟩) 3 CU]⟩,⟨1060,9,1,[.string (by8 [104]),.string (by8 [108])]⟩,⟨1062,87,6,[.string (by8 [104]),Nqii 1,Nqii 0,Nqii 0,Nqii 1,Nqii 0,.string (by8 [108]),Nqii 2,Nqii 0,Nqii 0,Nqii 0,Nqii 0]⟩,Nqb0,Nqb1,Nqb2,Nqb3,Nqb4,Nqb5,⟨1505,9,1,[.string (by8 [102,105,120]),.string (by8 [100,114,111,112]),.string (by8 [116,97,107,101])]⟩,Nqb6,Nqb7,Nqb8,⟨1591,191,3,[.string (by8 [102,105,120]),.slice (some ⟨1236,0,none⟩) 17 CU,.slice (some ⟨1401,0,none⟩) 1 CU,.string (by8 [100,114,111,112]),.slice (some ⟨1474,0,none⟩) 7 CU,.slice (some ⟨1494,0,none⟩) 1 CU,.string (by8 [116,97,107,101]),.slice (some ⟨1567,0,none⟩) 7 CU,.slice (some ⟨1587,0,none⟩) 1 CU]⟩],1022⟩]
theorem ycac:ybd ydnr:=ybd.seq ybd.nil (by kernel_rfl)
def ydrp:List Fact:=[⟨228,[.pointer (some ⟨1022,0,none⟩),Nqii 3],1671,[⟨1021,175,4,yrb⟩,⟨1022,151,0,[.string yw,.slice (some ⟨1021,544,none⟩) 20 CU,.slice (some ⟨1060,0,none⟩) 2 CU,.string (by8 [101,108,101,99,116,105,111,110]),.slice (some ⟨1062,0,none⟩) 2 CU,.slice (some ⟨1591,0,none⟩) 3 CU,.slice (some ⟨1598,0,none⟩) 4 CU]⟩,⟨1060,9,1,[.string (by8 [104]),.string (by8 [108])]⟩,⟨1062,87,6,[.string (by8 [104]),Nqii 1,Nqii 0,Nqii 0,Nqii 1,Nqii 0,.string (by8 [108]),Nqii 2,Nqii 0,Nqii 0,Nqii 0,Nqii 0]⟩,Nqb0,Nqb1,Nqb2,Nqb3,Nqb4,Nqb5,Nqb6,Nqb7,Nqb8,⟨1591,191,3,[.string (by8 [102,105,120]),.slice (some ⟨1236,0,none⟩) 17 CU,.slice (some ⟨1401,0,none⟩) 1 CU,.string (by8 [100,114,111,112]),.slice (some ⟨1474,0,none⟩) 7 CU,.slice (some ⟨1494,0,none⟩) 1 CU,.string (by8 [116,97,107,101]),.slice (some ⟨1567,0,none⟩) 7 CU,.slice (some ⟨1587,0,none⟩) 1 CU]⟩,⟨1598,9,1,[.string (by8 [102,105,120]),.string (by8 [100,114,111,112]),.string (by8 [116,97,107,101]),.string (by8 [116,105,101])]⟩],.slice (some ⟨1738,0,none⟩) 8 CU,1742,[⟨1022,151,0,[.string yw,.slice (some ⟨1021,600,none⟩) 6 CU,.slice (some ⟨1060,0,none⟩) 2 CU,.string (by8 [101,108,101,99,116,105,111,110]),.slice (some ⟨1062,0,none⟩) 2 CU,.slice (some ⟨1591,0,none⟩) 3 CU,.slice (some ⟨1598,0,none⟩) 4 CU]⟩,⟨1060,9,1,[.string (by8 [104]),.string (by8 [108])]⟩,⟨1062,87,6,[.string (by8 [104]),Nqii 1,Nqii 0,Nqii 0,Nqii 1,Nqii 0,.string (by8 [108]),Nqii 2,Nqii 0,Nqii 0,Nqii 0,Nqii 0]⟩,Nqb0,Nqb1,Nqb2,Nqb3,Nqb4,Nqb5,Nqb6,Nqb7,Nqb8,⟨1591,191,3,[.string (by8 [102,105,120]),.slice (some ⟨1236,0,none⟩) 17 CU,.slice (some ⟨1401,0,none⟩) 1 CU,.string (by8 [100,114,111,112]),.slice (some ⟨1474,0,none⟩) 7 CU,.slice (some ⟨1494,0,none⟩) 1 CU,.string (by8 [116,97,107,101]),.slice (some ⟨1567,0,none⟩) 7 CU,.slice (some ⟨1587,0,none⟩) 1 CU]⟩,⟨1598,9,1,[.string (by8 [102,105,120]),.string (by8 [100,114,111,112]),.string (by8 [116,97,107,101]),.string (by8 [116,105,101])]⟩,⟨1738,240,2,(NqiL [21,0,41,0,35,0,12,0,5,0,35,0,12,1,5,1])⟩],1022⟩]
theorem ybsy:ybd ydrp:=ybd.seq ybd.nil (by kernel_rfl)
def ybap:Fact:=⟨186,[.agg #[.string (by8 [102,105,120]),.slice (some ⟨1236,0,none⟩) 17 CU,.slice (some ⟨1401,0,none⟩) 1 CU],Nqii 2],1791,[Nqb0,Nqb1,Nqb2],.bool true,1986,[],1791⟩
def yzl:Fact:=⟨186,[.agg #[.string (by8 [116,105,101]),.slice (some ⟨1745,0,none⟩) 17 CU,.slice (some ⟨1771,0,none⟩) 1 CU],Nqii 2],2091,[Nqb9,ybno,ybqn],.bool true,2208,[],2091⟩
def ydsg:List Fact:=[ybap,yzl]
theorem yhl:ybd ydsg:=ybd.seq ybd.nil (by kernel_rfl)
end Ev
end
section
namespace Ev
def ybaf:Fact:=⟨188,[.agg #[.string (by8 [102,105,120]),.slice (some ⟨1236,0,none⟩) 17 CU,.slice (some ⟨1401,0,none⟩) 1 CU],.slice (some ⟨2209,0,none⟩) 2 2],2213,[Nqb0,Nqb1,Nqb2,⟨2209,3,1,(NqiL [1,2])⟩],.bool true,2537,[],2213⟩
def ydjs:List Fact:=[ybaf]
theorem yng:ybd ydjs:=ybd.seq ybd.nil (by kernel_rfl)
def ybaj:Fact:=⟨188,[.agg #[.string (by8 [116,105,101]),.slice (some ⟨1745,0,none⟩) 17 CU,.slice (some ⟨1771,0,none⟩) 1 CU],.slice (some ⟨2209,0,none⟩) 2 2],2708,[Nqb9,ybno,ybqn,⟨2209,3,1,(NqiL [1,2])⟩],.bool true,2902,[],2708⟩
def ydma:List Fact:=[ybaj]
theorem ynf:ybd ydma:=ybd.seq ybd.nil (by kernel_rfl)
end Ev
end
section
namespace Ev
def ydqt:List Fact:=[⟨151,[.agg #[.string (by8 [101,108,101,99,116,105,111,110]),.slice (some ⟨1062,0,none⟩) 2 CU,.slice (some ⟨1775,0,none⟩) 4 CU]],1776,[⟨1062,87,6,[.string (by8 [104]),Nqii 1,Nqii 0,Nqii 0,Nqii 1,Nqii 0,.string (by8 [108]),Nqii 2,Nqii 0,Nqii 0,Nqii 0,Nqii 0]⟩,Nqb0,Nqb1,Nqb2,Nqb3,Nqb4,Nqb5,Nqb6,Nqb7,Nqb8,Nqb9,ybno,ybqn,⟨1775,191,3,[.string (by8 [102,105,120]),.slice (some ⟨1236,0,none⟩) 17 CU,.slice (some ⟨1401,0,none⟩) 1 CU,.string (by8 [100,114,111,112]),.slice (some ⟨1474,0,none⟩) 7 CU,.slice (some ⟨1494,0,none⟩) 1 CU,.string (by8 [116,97,107,101]),.slice (some ⟨1567,0,none⟩) 7 CU,.slice (some ⟨1587,0,none⟩) 1 CU,.string (by8 [116,105,101]),.slice (some ⟨1745,0,none⟩) 17 CU,.slice (some ⟨1771,0,none⟩) 1 CU]⟩],Nqii 0,2902,[],1776⟩]
theorem ybrr:ybd ydqt:=ybd.seq (ybd.append yhl (ybd.append yng ynf)) (by kernel_rfl)
def Nqm0:Fact:=ybap.move [1236,1392,1401] 2919
theorem ydhr:ycy zA Nqm0:=ycs (ybd.at_ yhl 0 rfl) (by kernel_rfl)
def Nqm1:Fact:=yzl.move [1745,1764,1771] 3219
theorem ydfv:ycy zA Nqm1:=ycs (ybd.at_ yhl 1 rfl) (by kernel_rfl)
def Nqm2:Fact:=ybaf.move [1236,1392,1401,3337] 3341
theorem ydfe:ycy zA Nqm2:=ycs (ybd.at_ yng 0 rfl) (by kernel_rfl)
def Nqm3:Fact:=ybaj.move [1745,1764,1771,3337] 3836
theorem ydck:ycy zA Nqm3:=ycs (ybd.at_ ynf 0 rfl) (by kernel_rfl)
def ybft:Fact:=⟨191,[.agg #[.string (by8 [101,108,101,99,116,105,111,110]),.slice (some ⟨1062,0,none⟩) 2 CU,.slice (some ⟨1775,0,none⟩) 4 CU]],2903,[⟨1062,87,6,[.string (by8 [104]),Nqii 1,Nqii 0,Nqii 0,Nqii 1,Nqii 0,.string (by8 [108]),Nqii 2,Nqii 0,Nqii 0,Nqii 0,Nqii 0]⟩,Nqb0,Nqb1,Nqb2,Nqb3,Nqb4,Nqb5,Nqb6,Nqb7,Nqb8,Nqb9,ybno,ybqn,⟨1775,191,3,[.string (by8 [102,105,120]),.slice (some ⟨1236,0,none⟩) 17 CU,.slice (some ⟨1401,0,none⟩) 1 CU,.string (by8 [100,114,111,112]),.slice (some ⟨1474,0,none⟩) 7 CU,.slice (some ⟨1494,0,none⟩) 1 CU,.string (by8 [116,97,107,101]),.slice (some ⟨1567,0,none⟩) 7 CU,.slice (some ⟨1587,0,none⟩) 1 CU,.string (by8 [116,105,101]),.slice (some ⟨1745,0,none⟩) 17 CU,.slice (some ⟨1771,0,none⟩) 1 CU]⟩],.bool true,4030,[],2903⟩
def ydly:List Fact:=[ybft]
theorem ycax:ybd ydly:=ybd.seq (ybd.append (ybd.cons (f:=Nqm0) ydhr ybd.nil) (ybd.append (ybd.cons (f:=Nqm1) ydfv ybd.nil) (ybd.append (ybd.cons (f:=Nqm2) ydfe ybd.nil) (ybd.cons (f:=Nqm3) ydck ybd.nil)))) (by kernel_rfl)
end Ev
end
section
namespace Ev
def ydvc:List Fact:=[⟨214,[.pointer (some ⟨1022,0,none⟩)],1116,[⟨1021,175,4,yrb⟩,⟨1022,151,0,[.string yw,.slice (some ⟨1021,108,none⟩) 129 CU,.slice (some ⟨1060,0,none⟩) 2 CU,.string (by8 [101,108,101,99,116,105,111,110]),.slice (some ⟨1062,0,none⟩) 2 CU,.slice none 0 0,.slice (some ⟨1069,0,none⟩) 1 CU]⟩,⟨1060,9,1,[.string (by8 [104]),.string (by8 [108])]⟩,⟨1062,87,6,[.string (by8 [104]),Nqii 1,Nqii 0,Nqii 0,Nqii 1,Nqii 0,.string (by8 [108]),Nqii 2,Nqii 0,Nqii 0,Nqii 0,Nqii 0]⟩,⟨1069,9,1,[.string (by8 [102,105,120])]⟩],.slice (some ⟨1216,0,none⟩) 10 CU,1224,[⟨1022,151,0,[.string yw,.slice (some ⟨1021,192,none⟩) 108 CU,.slice (some ⟨1060,0,none⟩) 2 CU,.string (by8 [101,108,101,99,116,105,111,110]),.slice (some ⟨1062,0,none⟩) 2 CU,.slice none 0 0,.slice (some ⟨1069,0,none⟩) 1 CU]⟩,⟨1060,9,1,[.string (by8 [104]),.string (by8 [108])]⟩,⟨1062,87,6,[.string (by8 [104]),Nqii 1,Nqii 0,Nqii 0,Nqii 1,Nqii 0,.string (by8 [108]),Nqii 2,Nqii 0,Nqii 0,Nqii 0,Nqii 0]⟩,⟨1069,9,1,[.string (by8 [102,105,120])]⟩,⟨1216,240,2,(NqiL [43,0,37,0,28,0,12,0,6,0,33,0,28,0,12,0,1,1,6,0])⟩],1022⟩]
theorem ycdr:ybd ydvc:=ybd.seq ybd.nil (by kernel_rfl)
def ydtv:List Fact:=[⟨214,[.pointer (some ⟨1022,0,none⟩)],1280,[⟨1021,175,4,yrb⟩,⟨1022,151,0,[.string yw,.slice (some ⟨1021,236,none⟩) 97 CU,.slice (some ⟨1060,0,none⟩) 2 CU,.string (by8 [101,108,101,99,116,105,111,110]),.slice (some ⟨1062,0,none⟩) 2 CU,.slice none 0 0,.slice (some ⟨1069,0,none⟩) 1 CU]⟩,⟨1060,9,1,[.string (by8 [104]),.string (by8 [108])]⟩,⟨1062,87,6,[.string (by8 [104]),Nqii 1,Nqii 0,Nqii 0,Nqii 1,Nqii 0,.string (by8 [108]),Nqii 2,Nqii 0,Nqii 0,Nqii 0,Nqii 0]⟩,⟨1069,9,1,[.string (by8 [102,105,120])]⟩],.slice (some ⟨1380,0,none⟩) 10 CU,1388,[⟨1022,151,0,[.string yw,.slice (some ⟨1021,320,none⟩) 76 CU,.slice (some ⟨1060,0,none⟩) 2 CU,.string (by8 [101,108,101,99,116,105,111,110]),.slice (some ⟨1062,0,none⟩) 2 CU,.slice none 0 0,.slice (some ⟨1069,0,none⟩) 1 CU]⟩,⟨1060,9,1,[.string (by8 [104]),.string (by8 [108])]⟩,⟨1062,87,6,[.string (by8 [104]),Nqii 1,Nqii 0,Nqii 0,Nqii 1,Nqii 0,.string (by8 [108]),Nqii 2,Nqii 0,Nqii 0,Nqii 0,Nqii 0]⟩,⟨1069,9,1,[.string (by8 [102,105,120])]⟩,⟨1380,240,2,(NqiL [43,0,37,0,28,0,12,0,6,0,33,0,28,0,12,0,1,1,6,0])⟩],1022⟩]
theorem ycib:ybd ydtv:=ybd.seq ybd.nil (by kernel_rfl)
def ydmc:List Fact:=[⟨181,[.pointer (some ⟨1022,0,none⟩)],1408,[⟨1021,175,4,yrb⟩,⟨1022,151,0,[.string yw,.slice (some ⟨1021,332,none⟩) 73 CU,.slice (some ⟨1060,0,none⟩) 2 CU,.string (by8 [101,108,101,99,116,105,111,110]),.slice (some ⟨1062,0,none⟩) 2 CU,.slice (some ⟨1405,0,none⟩) 1 CU,.slice (some ⟨1069,0,none⟩) 1 CU]⟩,⟨1060,9,1,[.string (by8 [104]),.string (by8 [108])]⟩,⟨1062,87,6,[.string (by8 [104]),Nqii 1,Nqii 0,Nqii 0,Nqii 1,Nqii 0,.string (by8 [108]),Nqii 2,Nqii 0,Nqii 0,Nqii 0,Nqii 0]⟩,⟨1069,9,1,[.string (by8 [102,105,120])]⟩,Nqb0,Nqb1,Nqb2,⟨1405,191,3,[.string (by8 [102,105,120]),.slice (some ⟨1236,0,none⟩) 17 CU,.slice (some ⟨1401,0,none⟩) 1 CU]⟩],.tuple #[],1499,[⟨1022,151,0,[.string yw,.slice (some ⟨1021,404,none⟩) 55 CU,.slice (some ⟨1060,0,none⟩) 2 CU,.string (by8 [101,108,101,99,116,105,111,110]),.slice (some ⟨1062,0,none⟩) 2 CU,.slice (some ⟨1498,0,none⟩) 2 CU,.slice (some ⟨1412,0,none⟩) 2 CU]⟩,⟨1060,9,1,[.string (by8 [104]),.string (by8 [108])]⟩,⟨1062,87,6,[.string (by8 [104]),Nqii 1,Nqii 0,Nqii 0,Nqii 1,Nqii 0,.string (by8 [108]),Nqii 2,Nqii 0,Nqii 0,Nqii 0,Nqii 0]⟩,Nqb0,Nqb1,Nqb2,⟨1412,9,1,[.string (by8 [102,105,120]),.string (by8 [100,114,111,112])]⟩,Nqb3,Nqb4,Nqb5,⟨1498,191,3,[.string (by8 [102,105,120]),.slice (some ⟨1236,0,none⟩) 17 CU,.slice (some ⟨1401,0,none⟩) 1 CU,.string (by8 [100,114,111,112]),.slice (some ⟨1474,0,none⟩) 7 CU,.slice (some ⟨1494,0,none⟩) 1 CU]⟩],1022⟩]
theorem yccn:ybd ydmc:=ybd.seq ybd.nil (by kernel_rfl)
end Ev
end
section
namespace Ev
def yduu:List Fact:=[Nqnx 174 yw 0 2 [1,0,7,0] 0 5,Nqnx 174 yw 8 8 [1,8,16,0] 0 11,Nqnx 174 yw 16 14 [3,16,17,0] 0 18,Nqnx 174 yw 18 21 [1,18,21,0] 0 24,Nqnx 174 yw 24 33 [3,24,25,0] 0 37,Nqnx 174 yw 26 40 [2,26,27,0] 0 43,Nqnx 174 yw 32 59 [3,32,33,0] 0 63,Nqnx 174 yw 34 66 [1,34,37,0] 0 69,Nqnx 174 yw 40 78 [3,40,41,0] 0 82,Nqnx 174 yw 42 85 [1,42,46,0] 0 88,Nqnx 174 yw 46 91 [3,46,47,0] 0 95,Nqnx 174 yw 48 98 [1,48,52,0] 0 101,Nqnx 174 yw 53 104 [1,53,56,0] 0 107,Nqnx 174 yw 56 110 [3,56,57,0] 0 114,Nqnx 174 yw 60 123 [3,60,62,0] 0 127,Nqnx 174 yw 63 130 [3,63,64,0] 0 134,Nqnx 174 yw 64 137 [1,64,67,0] 0 140,Nqnx 174 yw 68 143 [3,68,69,0] 0 147,Nqnx 174 yw 72 156 [3,72,73,0] 0 160,Nqnx 174 yw 76 169 [3,76,77,0] 0 173]
theorem ycfa:ybd yduu:=ybd.seq ybd.nil (by kernel_rfl)
def ydvd:List Fact:=[Nqnx 174 yw 78 176 [3,78,79,0] 0 180,Nqnx 174 yw 79 183 [1,79,85,0] 0 186,Nqnx 174 yw 85 189 [3,85,86,0] 0 193,Nqnx 174 yw 87 202 [3,87,88,0] 0 206,Nqnx 174 yw 89 215 [3,89,90,0] 0 219,Nqnx 174 yw 91 222 [3,91,92,0] 0 226,Nqnx 174 yw 95 235 [3,95,96,0] 0 239,Nqnx 174 yw 97 242 [1,97,103,0] 0 245,Nqnx 174 yw 103 248 [3,103,104,0] 0 252,Nqnx 174 yw 105 261 [3,105,106,0] 0 265,Nqnx 174 yw 107 274 [3,107,108,0] 0 278,Nqnx 174 yw 109 281 [3,109,110,0] 0 285,Nqnx 174 yw 113 294 [3,113,114,0] 0 298,Nqnx 174 yw 116 307 [3,116,117,0] 0 311,Nqnx 174 yw 117 314 [3,117,118,0] 0 318,Nqnx 174 yw 119 321 [3,119,121,0] 0 325,Nqnx 174 yw 124 334 [3,124,126,0] 0 338,Nqnx 174 yw 127 341 [3,127,128,0] 0 345,Nqnx 174 yw 128 348 [1,128,131,0] 0 351,Nqnx 174 yw 132 354 [3,132,133,0] 0 358]
theorem ycfx:ybd ydvd:=ybd.seq ybd.nil (by kernel_rfl)
def ydum:List Fact:=[Nqnx 174 yw 136 367 [3,136,137,0] 0 371,Nqnx 174 yw 138 374 [2,138,139,0] 0 377,Nqnx 174 yw 140 380 [3,140,141,0] 0 384,Nqnx 174 yw 142 387 [3,142,143,0] 0 391,Nqnx 174 yw 143 394 [1,143,149,0] 0 397,Nqnx 174 yw 149 400 [3,149,150,0] 0 404,Nqnx 174 yw 151 413 [3,151,152,0] 0 417,Nqnx 174 yw 153 426 [3,153,154,0] 0 430,Nqnx 174 yw 155 433 [3,155,156,0] 0 437,Nqnx 174 yw 159 446 [3,159,160,0] 0 450,Nqnx 174 yw 161 453 [1,161,167,0] 0 456,Nqnx 174 yw 167 459 [3,167,168,0] 0 463,Nqnx 174 yw 169 472 [3,169,170,0] 0 476,Nqnx 174 yw 171 485 [3,171,172,0] 0 489,Nqnx 174 yw 173 492 [3,173,174,0] 0 496,Nqnx 174 yw 177 505 [3,177,178,0] 0 509,Nqnx 174 yw 180 518 [3,180,181,0] 0 522,Nqnx 174 yw 181 525 [3,181,182,0] 0 529,Nqnx 174 yw 182 532 [3,182,183,0] 0 536,Nqnx 174 yw 184 539 [1,184,188,0] 0 542]
theorem yccu:ybd ydum:=ybd.seq ybd.nil (by kernel_rfl)
def ydud:List Fact:=[Nqnx 174 yw 189 545 [1,189,193,0] 0 548,Nqnx 174 yw 193 551 [3,193,194,0] 0 555,Nqnx 174 yw 197 564 [3,197,199,0] 0 568,Nqnx 174 yw 200 571 [3,200,201,0] 0 575,Nqnx 174 yw 201 578 [1,201,204,0] 0 581,Nqnx 174 yw 204 584 [3,204,205,0] 0 588,Nqnx 174 yw 206 597 [3,206,207,0] 0 601,Nqnx 174 yw 209 610 [3,209,211,0] 0 614,Nqnx 174 yw 213 623 [3,213,214,0] 0 627,Nqnx 174 yw 220 643 [3,220,222,0] 0 647,Nqnx 174 yw 223 650 [1,223,228,0] 0 653,Nqnx 174 yw 228 656 [3,228,229,0] 0 660,Nqnx 174 yw 230 663 [1,230,234,0] 0 666,Nqnx 174 yw 235 669 [1,235,239,0] 0 672,Nqnx 174 yw 239 675 [3,239,240,0] 0 679,Nqnx 174 yw 241 682 [3,241,242,0] 0 686,Nqnx 174 yw 244 695 [3,244,246,0] 0 699,Nqnx 174 yw 247 702 [1,247,250,0] 0 705,Nqnx 174 yw 250 708 [3,250,251,0] 0 712,Nqnx 174 yw 252 721 [3,252,253,0] 0 725]
theorem ycfq:ybd ydud:=ybd.seq ybd.nil (by kernel_rfl)
def ydve:List Fact:=[Nqnx 174 yw 255 734 [3,255,256,0] 0 738,Nqnx 174 yw 258 747 [3,258,259,0] 0 751,Nqnx 174 yw 265 767 [3,265,267,0] 0 771,Nqnx 174 yw 268 774 [1,268,272,0] 0 777,Nqnx 174 yw 272 780 [3,272,273,0] 0 784,Nqnx 174 yw 274 787 [1,274,278,0] 0 790,Nqnx 174 yw 279 793 [1,279,282,0] 0 796,Nqnx 174 yw 282 799 [3,282,283,0] 0 803,Nqnx 174 yw 286 812 [3,286,287,0] 0 816,Nqnx 174 yw 290 825 [3,290,292,0] 0 829,Nqnx 174 yw 293 832 [1,293,296,0] 0 835,Nqnx 174 yw 296 838 [3,296,297,0] 0 842,Nqnx 174 yw 298 851 [3,298,299,0] 0 855,Nqnx 174 yw 301 864 [3,301,303,0] 0 868,Nqnx 174 yw 305 877 [3,305,306,0] 0 881,Nqnx 174 yw 307 884 [3,307,309,0] 0 888,Nqnx 174 yw 310 891 [1,310,314,0] 0 894,Nqnx 174 yw 314 897 [3,314,315,0] 0 901,Nqnx 174 yw 316 910 [3,316,317,0] 0 914,Nqnx 174 yw 319 923 [3,319,321,0] 0 927]
theorem ycfc:ybd ydve:=ybd.seq ybd.nil (by kernel_rfl)
def ydsx:List Fact:=[Nqnx 174 yw 324 936 [3,324,326,0] 0 940,Nqnx 174 yw 328 949 [3,328,329,0] 0 953,Nqnx 174 yw 331 962 [3,331,333,0] 0 966,Nqnx 174 yw 335 975 [3,335,336,0] 0 979,Nqnx 174 yw 342 995 [3,342,344,0] 0 999,Nqnx 174 yw 345 1002 [3,345,346,0] 0 1006,Nqnx 174 yw 347 1015 [3,347,348,0] 0 1019]
theorem ycfp:ybd ydsx:=ybd.seq ybd.nil (by kernel_rfl)
end Ev
end
section
namespace Ev
def ydux:List Fact:=[⟨148,[.string yw],2,[],.tuple #[.slice (some ⟨1021,0,none⟩) 156 CU,Nqii 0,Nqii 0],1022,[⟨1021,175,4,yrb⟩],2⟩]
theorem ychj:ybd ydux:=ybd.one (yck.cons (n:=169) ycfa (yck.cons (n:=354) ycfx (yck.cons (n:=539) yccu (yck.cons (n:=721) ycfq (yck.cons (n:=923) ycfc (yck.cons (n:=1015) ycfp yck.nil)))))) (by kernel_rfl)
def ydvh:List Fact:=[⟨214,[.pointer (some ⟨1022,0,none⟩)],1072,[⟨1021,175,4,yrb⟩,⟨1022,151,0,[.string yw,.slice (some ⟨1021,72,none⟩) 138 CU,.slice (some ⟨1060,0,none⟩) 2 CU,.string (by8 [101,108,101,99,116,105,111,110]),.slice (some ⟨1062,0,none⟩) 2 CU,.slice none 0 0,.slice (some ⟨1069,0,none⟩) 1 CU]⟩,⟨1060,9,1,[.string (by8 [104]),.string (by8 [108])]⟩,⟨1062,87,6,[.string (by8 [104]),Nqii 1,Nqii 0,Nqii 0,Nqii 1,Nqii 0,.string (by8 [108]),Nqii 2,Nqii 0,Nqii 0,Nqii 0,Nqii 0]⟩,⟨1069,9,1,[.string (by8 [102,105,120])]⟩],.slice (some ⟨1236,0,none⟩) 17 CU,1239,[⟨1022,151,0,[.string yw,.slice (some ⟨1021,196,none⟩) 107 CU,.slice (some ⟨1060,0,none⟩) 2 CU,.string (by8 [101,108,101,99,116,105,111,110]),.slice (some ⟨1062,0,none⟩) 2 CU,.slice none 0 0,.slice (some ⟨1069,0,none⟩) 1 CU]⟩,⟨1060,9,1,[.string (by8 [104]),.string (by8 [108])]⟩,⟨1062,87,6,[.string (by8 [104]),Nqii 1,Nqii 0,Nqii 0,Nqii 1,Nqii 0,.string (by8 [108]),Nqii 2,Nqii 0,Nqii 0,Nqii 0,Nqii 0]⟩,⟨1069,9,1,[.string (by8 [102,105,120])]⟩,Nqb0],1022⟩]
theorem ycft:ybd ydvh:=ybd.seq ycdr (by kernel_rfl)
def ydki:List Fact:=[⟨181,[.pointer (some ⟨1022,0,none⟩)],1594,[⟨1021,175,4,yrb⟩,⟨1022,151,0,[.string yw,.slice (some ⟨1021,484,none⟩) 35 CU,.slice (some ⟨1060,0,none⟩) 2 CU,.string (by8 [101,108,101,99,116,105,111,110]),.slice (some ⟨1062,0,none⟩) 2 CU,.slice (some ⟨1591,0,none⟩) 3 CU,.slice (some ⟨1505,0,none⟩) 3 CU]⟩,⟨1060,9,1,[.string (by8 [104]),.string (by8 [108])]⟩,⟨1062,87,6,[.string (by8 [104]),Nqii 1,Nqii 0,Nqii 0,Nqii 1,Nqii 0,.string (by8 [108]),Nqii 2,Nqii 0,Nqii 0,Nqii 0,Nqii 0]⟩,Nqb0,Nqb1,Nqb2,Nqb3,Nqb4,Nqb5,⟨1505,9,1,[.string (by8 [102,105,120]),.string (by8 [100,114,111,112]),.string (by8 [116,97,107,101])]⟩,Nqb6,Nqb7,Nqb8,⟨1591,191,3,[.string (by8 [102,105,120]),.slice (some ⟨1236,0,none⟩) 17 CU,.slice (some ⟨1401,0,none⟩) 1 CU,.string (by8 [100,114,111,112]),.slice (some ⟨1474,0,none⟩) 7 CU,.slice (some ⟨1494,0,none⟩) 1 CU,.string (by8 [116,97,107,101]),.slice (some ⟨1567,0,none⟩) 7 CU,.slice (some ⟨1587,0,none⟩) 1 CU]⟩],.tuple #[],1776,[⟨1022,151,0,[.string yw,.slice (some ⟨1021,624,none⟩) 0 CU,.slice (some ⟨1060,0,none⟩) 2 CU,.string (by8 [101,108,101,99,116,105,111,110]),.slice (some ⟨1062,0,none⟩) 2 CU,.slice (some ⟨1775,0,none⟩) 4 CU,.slice (some ⟨1598,0,none⟩) 4 CU]⟩,⟨1060,9,1,[.string (by8 [104]),.string (by8 [108])]⟩,⟨1062,87,6,[.string (by8 [104]),Nqii 1,Nqii 0,Nqii 0,Nqii 1,Nqii 0,.string (by8 [108]),Nqii 2,Nqii 0,Nqii 0,Nqii 0,Nqii 0]⟩,Nqb0,Nqb1,Nqb2,Nqb3,Nqb4,Nqb5,Nqb6,Nqb7,Nqb8,⟨1598,9,1,[.string (by8 [102,105,120]),.string (by8 [100,114,111,112]),.string (by8 [116,97,107,101]),.string (by8 [116,105,101])]⟩,Nqb9,ybno,ybqn,⟨1775,191,3,[.string (by8 [102,105,120]),.slice (some ⟨1236,0,none⟩) 17 CU,.slice (some ⟨1401,0,none⟩) 1 CU,.string (by8 [100,114,111,112]),.slice (some ⟨1474,0,none⟩) 7 CU,.slice (some ⟨1494,0,none⟩) 1 CU,.string (by8 [116,97,107,101]),.slice (some ⟨1567,0,none⟩) 7 CU,.slice (some ⟨1587,0,none⟩) 1 CU,.string (by8 [116,105,101]),.slice (some ⟨1745,0,none⟩) 17 CU,.slice (some ⟨1771,0,none⟩) 1 CU]⟩],1022⟩]
theorem ycbn:ybd ydki:=ybd.seq ybsy (by kernel_rfl)
end Ev
end
section
namespace Ev
def ymc:Fact:=⟨37,[.string yw],0,[],.agg #[.string (by8 [101,108,101,99,116,105,111,110]),.slice (some ⟨1062,0,none⟩) 2 CU,.slice (some ⟨1775,0,none⟩) 4 CU],2903,[⟨1062,87,6,[.string (by8 [104]),Nqii 1,Nqii 0,Nqii 0,Nqii 1,Nqii 0,.string (by8 [108]),Nqii 2,Nqii 0,Nqii 0,Nqii 0,Nqii 0]⟩,Nqb0,Nqb1,Nqb2,Nqb3,Nqb4,Nqb5,Nqb6,Nqb7,Nqb8,Nqb9,ybno,ybqn,⟨1775,191,3,[.string (by8 [102,105,120]),.slice (some ⟨1236,0,none⟩) 17 CU,.slice (some ⟨1401,0,none⟩) 1 CU,.string (by8 [100,114,111,112]),.slice (some ⟨1474,0,none⟩) 7 CU,.slice (some ⟨1494,0,none⟩) 1 CU,.string (by8 [116,97,107,101]),.slice (some ⟨1567,0,none⟩) 7 CU,.slice (some ⟨1587,0,none⟩) 1 CU,.string (by8 [116,105,101]),.slice (some ⟨1745,0,none⟩) 17 CU,.slice (some ⟨1771,0,none⟩) 1 CU]⟩],0⟩
def ydsd:List Fact:=[ymc]
theorem ybcu:ybd ydsd:=ybd.seq (ybd.append ychj (ybd.append ycft (ybd.append ycib (ybd.append yccn (ybd.append ycac (ybd.append ycbn ybrr)))))) (by kernel_rfl)
end Ev
end
section
namespace Ev
end Ev
end
end Go.Proofs.YtiejahgklcjhkaaGreatDoor
