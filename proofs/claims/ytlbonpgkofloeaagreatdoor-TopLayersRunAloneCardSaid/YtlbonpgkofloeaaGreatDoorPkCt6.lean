/- Joined. -/
import Derived.Test.YtlbonpgkofloeaaGreatDoorPkCt4
import Derived.Lib.Bytealg
set_option linter.unusedSimpArgs false
set_option linter.unusedVariables false
set_option maxRecDepth 1000000
open Go.Proofs.Tryz renaming prog->zA,func104->zW
open Bool renaming and_eq_true->zB,cond_eq_ite->zI,false_eq_true->zM
open Nat renaming le_of_ble_eq_true->zC,beq->zF,lt_of_lt_of_le->zG,lt_succ_self->zJ,ble->zK,le_refl->zL,eq_of_beq_eq_true->zQ,ble_eq_true_of_le->zS,blt->zT,add->zY,sub->zZ
open Go.Lib renaming indexByte->zD,hid->zX
open List renaming mem_of_getElem?->zH,getElem?_map->zN,length_map->zO,all_cons->zU
open Classical renaming byContradiction->zV
open Go
namespace Go.Proofs.YtlbonpgkofloeaaGreatDoor
section
namespace Ev
open Go Go.RowKit
theorem yrj(c:UInt8):∀(l:List UInt8) (k:Nat),(match findByte c l k with|some i=>Int.ofNat i|none=>-1)=(if zD l c == -1 then -1 else zD l c+(k:Int))
 |[],k=>by simp[findByte,zD]
 | x :: l,k=>by
   unfold findByte zD
   by_cases b:x=c
   .subst b;simp
   .have e:zF x.toNat c.toNat=false:=by
     rw[Bool.eq_false_iff];intro h;exact b (UInt8.toNat_inj.1 (zQ h))
    have f:(x==c)=false:=by simpa using b
    rw[e,f];have g:=yrj c l (k+1);simp only[zI,zM,if_false];rw[g];have:=Lib.indexByte_ge l c
    by_cases d:zD l c = -1
    .simp[d]
    .have a:(zD l c == -1)=false:=by simpa using d
     rw[a];simp only[zM,if_false];rw[if_neg (by simp;omega)]
     push_cast;omega
theorem ybfa(args:List Value)(m:Mem)(out:Out)(h:evIndexByte m args=some out):yca zA (.call 289 args m) out:=by
 unfold evIndexByte at h;split at h
 .rename_i s c
  have d:=yrj c.toUInt8 s.data.toList 0
  have f:∀n:Int,n=zD s.data.toList c.toUInt8->yca zA (.call 289 [.string s,.int .u8 (.ofNat c)] m) (.call (.int .i64 n) (enterM m)):=by
   intro n v z;refine⟨⟨zL _,fun i b g=>.inl ⟨b,g⟩,fun i b _ _ g=>g,z⟩,fun l M w a u x y _=>.inr ⟨.int .i64 n,w,?_,?_⟩⟩
   .have e:a=[.string s,.int .u8 (.ofNat c)]:=by
     cases y with
     | cons p q =>
       cases q with
       | cons r t =>
         cases t
         rw[p.eq_simple rfl,r.eq_simple rfl]
    subst e;rw[run_callFunc_extern Tryz.func289 (by kernel_rfl) (by kernel_rfl) (by kernel_rfl) (by kernel_rfl),Lib.run_indexByteString,v]
    rfl
   .exact⟨_,rfl,l,M,⟨l.le_refl,fun _ _=>rfl,u,x,fun _ _ _=>rfl,WG.refl _ _ _⟩,.simple rfl⟩
  have o:(if zD s.data.toList c.toUInt8 == -1 then -1 else zD s.data.toList c.toUInt8+((0:Nat):Int))=zD s.data.toList c.toUInt8:=by
   by_cases k:zD s.data.toList c.toUInt8 = -1
   .simp[k]
   .simp[k]
  rw[o]at d;split at h
  .rename_i i j
   rw[j]at d;simp only[ybo]at h;cases h
   exact f _ d
  .rename_i j
   rw[j]at d;cases h
   exact f _ d
 .cases h
end Ev
end
section
open Go.RowKit
theorem ybcf(w:World):Calls zA 189 #[.nilIface] w fun e a=>e = .returned (.tuple #[.agg #[.int .i64 0,.int .i64 0],.bool false])/\Below w.heap.size w a:=by
 go_enter Tryz.func189,Tryz.ntmps189
 go_wp2
 refine⟨rfl,.tuple #[.agg #[.int .i64 0,.int .i64 0],.bool false],?_,rfl,?_⟩
 .simp[results,Tryz.results189,go_sem]
 .exact(Below.refl _ _).alloc (zL _) _
theorem catch_idle(p q:Addr)(w:World) :
 CallsD zA 188 #[.pointer (some p),.pointer (some q)] .returning w fun e d f=>e = .returned (.tuple #[])/\d = .returning/\Below w.heap.size w f:=by
 refine callsD_of_wpS Tryz.func188 rfl fun a g c=>?_;apply wpS_seq;apply wpS_region;simp[wpOpsS,go_sem,recoverD,c,Tryz.ntmps188,Exit.thenS];refine(ybcf w).mono ?_;rintro e h ⟨rfl,b⟩;simp[go_sem];apply wpS_seq;apply wpS_region;simp[wpOpsS,go_sem,Exit.thenS];refine wpS_cond (t:=false) (by simp[Act.eval,Array.replicate]) ?_
 simp only[zM,if_false];refine wpS_of_wp (wp_skip ?_);refine⟨rfl,.returning,by cases a;simp_all,.tuple #[],by simp[results,Tryz.results188],rfl,rfl,b.alloc b.size _⟩
def ygq(w:World):World:=(w.alloc (.cells #[.int .i64 0] 3)).alloc (.cells #[.int .i64 0] 48)
theorem yckf(w:World):(ygq w).heap[w.heap.size]?=some (.cells #[.int .i64 0] 3):=by
 unfold ygq;rw[Below.heap_alloc _ _ _ (by simp[go_sem])]
 exact heap_alloc_new w _
theorem ycpf(w:World):(ygq w).heap[w.heap.size+1]?=some (.cells #[.int .i64 0] 48):=by
 have:=heap_alloc_new (w.alloc (.cells #[.int .i64 0] 3)) (.cells #[.int .i64 0] 48);rw[show(w.alloc (.cells #[.int .i64 0] 3)).heap.size=w.heap.size+1 by simp[go_sem]]at this
 exact this
theorem ybmx (h:FuncId) (first cap:Array Value) (w:World) (Q:World->Prop)
 (t:∀a,Q a->a.heap[w.heap.size]?=(ygq w).heap[w.heap.size]?/\a.heap[w.heap.size+1]?=(ygq w).heap[w.heap.size+1]?)
 (i:((callFunc h (first++cap)).run zA (ygq w) = .ok (.enter h (first++cap)) (ygq w)/\Calls zA h (first++cap) (ygq w) fun e a=>(∃v,e = .returned v)/\Q a) \/
   (∃v a,(callFunc h (first++cap)).run zA (ygq w) = .ok (.value v) a/\Q a)) :
 Calls zA 104 #[.func (.func h) first cap] w fun e c=>e = .returned (.tuple #[.int .i64 0,.int .i64 0]) /\
  ∃a,Q a/\Below a.heap.size ((a.setCell ⟨w.heap.size,0,none⟩ (.int .i64 0)).setCell ⟨w.heap.size+1,0,none⟩ (.int .i64 0)) c:=by
 have n:∀(fn:Fn) (first cap:Array Value) (w:World),(Instr.makeFunc fn first cap).run zA w = .ok (.func fn first cap) w:=fun _ _ _ _=>rfl
 have Hq:=zX t;clear t
 have p:=zX i;clear i
 go_enter_defers zW,Tryz.ntmps104
 generalize x:(Code.seq (Code.region 2 _ false) _)=C
 generalize u:(bodyPostD _ _ _)=B
 go_wp2
 subst x u;refine wp_seq (wp_region_list ?_);refine wpList_plain rfl fun K s=>?_;simp[Oper.wp,go_sem];apply s;refine wpList_plain rfl fun q m=>?_;simp[Oper.wp,go_sem]
 have b:∀v a,Q a->q { tmps:=#[.func (.func h) first cap,undef,.pointer (some ⟨w.heap.size,0,none⟩),.pointer (some ⟨w.heap.size+1,0,none⟩),.func (.func 188) #[] #[.pointer (some ⟨w.heap.size,0,none⟩),.pointer (some ⟨w.heap.size+1,0,none⟩)],.func (.func h) first cap,v],defers:=[{ target:=.fn (.func 188) #[.pointer (some ⟨w.heap.size,0,none⟩),.pointer (some ⟨w.heap.size+1,0,none⟩)],args:=#[] }] } a:=by
  intro v a j;apply m;refine wpList_nil ?_;obtain⟨d,g⟩:=Hq.out a j;have d:a.heap[w.heap.size]?=some (.cells #[.int .i64 0] 3):=d.trans (yckf w);have g:a.heap[w.heap.size+1]?=some (.cells #[.int .i64 0] 48):=g.trans (ycpf w);have c1:a.cell? ⟨w.heap.size,0,none⟩=some (.int .i64 0):=by simp[World.cell?,d]
  have c2:a.cell? ⟨w.heap.size+1,0,none⟩=some (.int .i64 0):=by simp[World.cell?,g]
  have D:a.frozen? ⟨w.heap.size,0,none⟩=false:=by simp[World.frozen?,d]
  have E:a.frozen? ⟨w.heap.size+1,0,none⟩=false:=by simp[World.frozen?,g]
  have y:=(Array.getElem?_eq_some_iff.1 d).1;have z:=(Array.getElem?_eq_some_iff.1 g).1;have HQ:=zX j;clear j
  clear d g
  simp only[Exit.then]
  go_wp2
  refine leaves_cons (f:=188) (args:=#[.pointer (some ⟨w.heap.size,0,none⟩),.pointer (some ⟨w.heap.size+1,0,none⟩)]) (by simp) (by simp[go_sem]) ?_
  refine(catch_idle ⟨w.heap.size,0,none⟩ ⟨w.heap.size+1,0,none⟩ _).mono ?_;rintro e A c ⟨rfl,rfl,l⟩;have o:((a.setCell ⟨w.heap.size,0,none⟩ (.int .i64 0)).setCell ⟨w.heap.size+1,0,none⟩ (.int .i64 0)).heap.size=a.heap.size:=by simp[go_sem]
  rw[o]at l
  have d1:c.cell? ⟨w.heap.size,0,none⟩=some (.int .i64 0):=by
   rw[l.cell y];simp[go_sem,c1]
  have d2:c.cell? ⟨w.heap.size+1,0,none⟩=some (.int .i64 0):=by
   rw[l.cell z];simp[go_sem,c2]
  simp[Leaves,settle,results,Tryz.results104,go_sem,d1,d2];exact⟨a,HQ.out,l⟩
 have k:=RowKit.Hid.out p
 clear p n Hq s
 revert b
 generalize q=K
 intro b;rw[show((w.alloc (Obj.cells #[Value.int IntKind.i64 0] 3)).alloc (Obj.cells #[Value.int IntKind.i64 0] 48))=ygq w from rfl]
 generalize Sem.run zA (callFunc h (first++cap)) (ygq w)=r at k ⊢
 rcases k with⟨rfl,i⟩|⟨v,a,rfl,i⟩
 .rw[Oper.upon_enter];refine i.mono ?_;rintro e a ⟨⟨v,rfl⟩,j⟩;exact b v a j
 .exact b v a i
end
section
namespace Ev
open Go Go.RowKit
theorem ywu(w:World)(k:Nat)(hk:k<w.heap.size):(ygq w).heap[k]?=w.heap[k]?:=by
 unfold ygq;rw[Below.heap_alloc _ _ _ (by simp[go_sem];omega),Below.heap_alloc _ _ _ hk]
theorem yfs(w:World):(ygq w).heap.size=w.heap.size+2:=by simp[ygq,go_sem]
theorem ycod(self:Task->Option Out)(s:yfo zA self)(args:List Value)(m:Mem)(out:Out)(h:evCatch self m args=some out):yca zA (.call 104 args m) out:=by
 unfold evCatch at h;split at h
 .rename_i g first y
  obtain⟨o,ho,f⟩:=yg h;cases o with
  |code=>cases f
  | call v m1 =>
    cases f
    have hs:=s _ _ ho;intro hw;obtain⟨C,A⟩:=hs hw;refine⟨C,fun I M w K N D hv r=>.inl ⟨ydn ybcu zW rfl _ _,?_⟩⟩;obtain⟨u,rfl,hu⟩:=yiq hv;obtain⟨G,H,rfl,P,Q⟩:=hu.func_inv;have O:Rel I M (ygq w):=N.keep fun k hk=>ywu w k hk
    have d:∀k,w.heap.size<=k->¬Img I M k:=by
     rintro k hk ⟨i,b,l,n,f,L⟩;obtain⟨l',V,Z⟩:=N.blk i b n;rw[f]at V;cases V
     have:=Z.lt;omega
    have j:=A I M (ygq w) (G++H) O D (P.append Q) r;rw[show(G++H).toArray=G.toArray++H.toArray by simp]at j
    refine(ybmx g G.toArray H.toArray w (fun p=>∃e,ydjo I M (ygq w) m v m1 e p) ?_ ?_).mono ?_
    .rintro p ⟨e,F,rfl,t,J,a,T⟩;exact⟨a.wg.keep _ (by rw[yfs];omega) (d _ (zL _)),a.wg.keep _ (by rw[yfs];omega) (d _ (by omega))⟩
    .rcases j with⟨n,f⟩|⟨F,p,n,f⟩
     .refine .inl ⟨n,f.mono ?_⟩;intro e p hk;have R:=hk;obtain⟨F,rfl,_⟩:=hk;exact⟨⟨_,rfl⟩,_,R⟩
     .exact .inr ⟨F,p,n,_,f⟩
    .rintro e E ⟨rfl,p,⟨e,F,rfl,t,J,a,T⟩,B⟩;have a2:w.heap.size+2<=p.heap.size:=by rw[<-yfs];exact a.wg.size
     have c:∀k,k<p.heap.size->k≠w.heap.size->k≠w.heap.size+1->E.heap[k]?=p.heap[k]?:=fun k hk n f=>by
      rw[B.block k hk,Below.heap_setCell _ _ _ _ f,Below.heap_setCell _ _ _ _ n]
     have S:∀k,Img t J k->k≠w.heap.size/\k≠w.heap.size+1:=fun k z=>by
      refine⟨?_,?_⟩
      .rintro rfl;exact d _ (zL _) (a.wg.img _ (by rw[yfs];omega) z)
      .rintro rfl;exact d _ (by omega) (a.wg.img _ (by rw[yfs];omega) z)
     have a0:p.heap.size<=E.heap.size:=by
      have:=B.size
      simpa[go_sem]using this
     refine⟨_,rfl,t,J,⟨a.le,a.out,⟨⟨fun i b n=>?_,a.rel.inj⟩,fun x U=>⟨?_,(a.rel.gl x U).2⟩⟩,a.sub,a.frame,⟨B.os.trans a.wg.os,B.tape.trans a.wg.tape,B.output.trans a.wg.output,by omega,fun k hk z=>?_,fun k hk z=>a.wg.img k (by rw[yfs];omega) z⟩⟩,?_⟩
     .obtain⟨l,f,L⟩:=a.rel.blk i b n;have W:=S l.blk ⟨i,b,l,n,f,rfl⟩;exact⟨l,f,L.keep (c _ L.lt W.1 W.2)⟩
     .obtain⟨e,X,q⟩:=(a.rel.gl x U).1;obtain⟨e0,Y,q0⟩:=(N.gl x U).1;have a1:=(Array.getElem?_eq_some_iff.1 q0).1;exact⟨e,X,(c _ (by omega) (by omega) (by omega)).trans q⟩
     .rw[c k (by omega) (by omega) (by omega),a.wg.keep k (by rw[yfs];omega) z,ywu w k hk]
     .exact .tuple (.cons (.simple rfl) (.cons (.simple rfl) .nil))
 .cases h
end Ev
end
section
namespace Ev
open Go Go.RowKit
def hkC(a:List Chunk):Hooks:=⟨some 104,some 289,some 243,symB,a,none⟩
def hk(a:List Fact):Hooks:=hkC [⟨1000000000000,a⟩]
def yc(a:List Fact):Prop:=∀f∈a,ybp zA f
def yu(a:List Chunk):Prop:=∀c∈a,yc c.l
theorem ycua{a:List Chunk}(h:yu a):HooksOk zA (hkC a) :=
 ⟨fun g h=>(by cases h;exact ycod),fun g h=>(by cases h;exact ybfa),fun g h=>(by cases h;exact ycvw),h,fun g h=>(by cases h)⟩
theorem yu.nil:yu []:=fun c a=>by cases a
theorem yu.cons{n:Nat}{l:List Fact}{b:List Chunk}(h:yc l)(t:yu b):yu (⟨n,l⟩::b):=fun c a=>by
 rcases List.mem_cons.1 a with rfl|a
 .exact h
 .exact t c a
theorem ydmo{a:List Fact}(h:yc a):HooksOk zA (hk a):=ycua (yu.cons h yu.nil)
theorem yc.nil:yc []:=fun f a=>by cases a
theorem yc.cons{f:Fact}{l:List Fact}(h:ybp zA f)(t:yc l):yc (f::l):=fun x a=>by
 rcases List.mem_cons.1 a with rfl|a
 .exact h
 .exact t x a
theorem yc.at_{f:Fact}{l:List Fact}(h:yc l)(i:Nat)(e:l[i]?=some f):ybp zA f:=h f (zH e)
theorem yc.append{a b:List Fact}(c:yc a)(d:yc b):yc (a++b):=fun f e=>by
 rcases List.mem_append.1 e with h|h
 .exact c f h
 .exact d f h
noncomputable def checkSeq(new:List Fact):List Fact->Bool:=List.rec (fun _=>true) (fun f _ b a=>f.check zA (hk a)&&b (f::a)) new
theorem yc.seq:∀{new b:List Fact},yc b->checkSeq new b=true->yc new
 |[],_,_,_=>yc.nil
 | f :: l,b,h,c=>by
   have c:(f.check zA (hk b)&&checkSeq l (f::b))=true:=c;rw[zB]at c;have e:ybp zA f:=ytg (ybbm mix ybcu (ydmo h) 3000) c.1
   have d:yc (f::b):=fun x a=>by
    rcases List.mem_cons.1 a with rfl|a
    .exact e
    .exact h x a
   have g:=yc.seq d c.2;intro x a;rcases List.mem_cons.1 a with rfl|a
   .exact e
   .exact g x a
theorem yc.one{f:Fact}{a:List Chunk}(h:yu a)(b:f.check zA (hkC a)=true):yc [f] :=
 yc.cons (ytg (ybbm mix ybcu (ycua h) 3000) b) yc.nil
def by8(l:List Nat):ByteArray:=⟨(l.map Nat.toUInt8).toArray⟩
end Ev
end
section
namespace Ev
noncomputable section defs
def renA(ρ:Nat->Nat)(a:Addr):Addr:=forceN (ρ a.block) fun b=>⟨b,a.off,a.spot⟩
def ren1(ρ:Nat->Nat):Value->Value
 |.pointer (some a)=>.pointer (some (renA ρ a))
 |.slice (some a) n c=>.slice (some (renA ρ a)) n c
 |v=>v
def ren2(ρ:Nat->Nat):Value->Value
 |.agg a=>.agg (a.toList.map (ren1 ρ)).toArray
 |.func g a c=>.func g (a.toList.map (ren1 ρ)).toArray (c.toList.map (ren1 ρ)).toArray
 |v=>ren1 ρ v
def renV(ρ:Nat->Nat):Value->Value
 |.tuple a=>.tuple (a.toList.map (ren2 ρ)).toArray
 |v=>ren2 ρ v
def yui:Value->Bool
 |.pointer (some a)=>a.spot.isNone
 |.slice (some a) _ _=>a.spot.isNone
 |v=>simple v
def ynp:Value->Bool
 |.agg a=>a.toList.all yui
 |.func (.func _) a c=>a.toList.all yui&&c.toList.all yui
 |v=>yui v
def ycfh:Value->Bool
 |.tuple a=>a.toList.all ynp
 |v=>ynp v
def ybbu:List BlkL->List Nat->Nat->Nat->Nat
 |b::l,t::k,d,i=>bif zF b.i i then t else ybbu l k d i
 |_,_,d,_=>d
def Fact.rho(f:Fact)(tgt:List Nat)(n0:Nat)(i:Nat):Nat :=
 bif zK f.next0 i&&zT i f.next1 then zY (zZ i f.next0) n0 else ybbu f.pre tgt (zY n0 (zZ f.next1 f.next0)) i
def BlkL.ren(ρ:Nat->Nat)(b:BlkL):BlkL:=⟨forceN (ρ b.i) fun i=>i,b.e,b.z,b.l.map (ren2 ρ)⟩
def Fact.move(f:Fact)(tgt:List Nat)(n0:Nat):Fact :=
 ⟨f.g,f.args.map (ren2 (f.rho tgt n0)),n0,f.pre.map (BlkL.ren (f.rho tgt n0)),renV (f.rho tgt n0) f.v,zY n0 (zZ f.next1 f.next0),f.post.map (BlkL.ren (f.rho tgt n0)),n0⟩
def Fact.after(f:Fact):Mem:=⟨f.next1,blksT f.mem.b f.post,f.next0⟩
def yho:List Nat->Bool
 |[]=>true
 |x::l=>!(l.elem x)&&yho l
def Fact.moves(f:Fact)(tgt:List Nat)(n0:Nat):Bool :=
 zK f.next0 f.low&&f.args.all ynp&&ycfh f.v&&f.pre.all (fun b=>zT b.i f.next0&&b.l.all ynp)&&f.post.all (fun b=>zT b.i f.next1&&b.l.all ynp) &&
  yho ((f.move tgt n0).pre.map (·.i))&&(f.move tgt n0).pre.all (fun b=>zT b.i n0&&blkIs (f.move tgt n0).mem b)&&(f.move tgt n0).post.all (blkIs (f.move tgt n0).after)&&zK f.next0 f.next1
end defs
section
variable {φ φ2:Phi}{ρ:Nat->Nat}
theorem ymq(a:Addr):renA ρ a=⟨ρ a.block,a.off,a.spot⟩:=by unfold renA;rw[ybo]
theorem BlkL.ygb(b:BlkL):(b.ren ρ).i=ρ b.i:=by show forceN (ρ b.i) (fun i=>i)=_;rw[ybo]
theorem vr1(d:∀b,φ b=φ2 (ρ b)){v v':Value}(e:yui v=true):VR φ v v'↔VR φ2 (ren1 ρ v) v':=by
 unfold yui at e;split at e
 .rename_i a
  obtain⟨b,o,s⟩:=a;have k:s=none:=by simpa using e
  subst k;show VR φ _ _↔VR φ2 (.pointer (some (renA ρ ⟨b,o,none⟩))) v';rw[ymq];constructor
  .intro h;cases h with
   |simple q=>cases q
   |ptr h=>rw[d]at h;exact VR.ptr h
  .intro h;cases h with
   |simple q=>cases q
   |ptr h=>rw[<-d]at h;exact VR.ptr h
 .rename_i a n c
  obtain⟨b,o,s⟩:=a;have k:s=none:=by simpa using e
  subst k;show VR φ _ _↔VR φ2 (.slice (some (renA ρ ⟨b,o,none⟩)) n c) v';rw[ymq];constructor
  .intro h;cases h with
   |simple q=>cases q
   |slice h f g i j=>rw[d]at h;exact VR.slice h f g i j
  .intro h;cases h with
   |simple q=>cases q
   |slice h f g i j=>rw[<-d]at h;exact VR.slice h f g i j
 .rename_i f g
  have l:ren1 ρ v=v:=by
   unfold ren1;split
   .rename_i a;exact absurd rfl (f a)
   .rename_i a n c;exact absurd rfl (g a n c)
   .rfl
  rw[l];constructor
  .intro h;rw[h.eq_simple e];exact VR.simple e
  .intro h;rw[h.eq_simple e];exact VR.simple e
theorem vrl1(a:∀b,φ b=φ2 (ρ b)):∀{l l':List Value},l.all yui=true->(VRL φ l l'↔VRL φ2 (l.map (ren1 ρ)) l')
 | [],l',_=>by
   constructor
   .intro h;cases h;exact VRL.nil
   .intro h;cases h;exact VRL.nil
 | v :: l,l',c=>by
   simp only[zU,zB]at c;constructor
   .intro h;cases h with
    |cons d e=>exact VRL.cons ((vr1 a c.1).1 d) ((vrl1 a c.2).1 e)
   .intro h;cases h with
    |cons d e=>exact VRL.cons ((vr1 a c.1).2 d) ((vrl1 a c.2).2 e)
theorem vr2(d:∀b,φ b=φ2 (ρ b)){v v':Value}(e:ynp v=true):VR φ v v'↔VR φ2 (ren2 ρ v) v':=by
 unfold ynp at e;split at e
 .rename_i a
  obtain⟨a⟩:=a;show VR φ (.agg a.toArray) _↔VR φ2 (.agg (a.map (ren1 ρ)).toArray) v';constructor
  .intro h;cases h with
   |simple q=>cases q
   |agg h=>exact VR.agg ((vrl1 d e).1 h)
  .intro h;cases h with
   |simple q=>cases q
   |agg h=>exact VR.agg ((vrl1 d e).2 h)
 .rename_i g a c
  obtain⟨a⟩:=a;obtain⟨c⟩:=c;simp only[zB]at e;show VR φ (.func (.func g) a.toArray c.toArray) _↔VR φ2 (.func (.func g) (a.map (ren1 ρ)).toArray (c.map (ren1 ρ)).toArray) v';constructor
  .intro h;cases h with
   |simple q=>cases q
   |func h k=>exact VR.func ((vrl1 d e.1).1 h) ((vrl1 d e.2).1 k)
  .intro h;cases h with
   |simple q=>cases q
   |func h k=>exact VR.func ((vrl1 d e.1).2 h) ((vrl1 d e.2).2 k)
 .rename_i f j
  have i:ren2 ρ v=ren1 ρ v:=by
   unfold ren2;split
   .rename_i a;exact absurd rfl (f a)
   .rename_i g a c
    cases e
   .rfl
  rw[i];exact vr1 d e
theorem vrl2(a:∀b,φ b=φ2 (ρ b)):∀{l l':List Value},l.all ynp=true->(VRL φ l l'↔VRL φ2 (l.map (ren2 ρ)) l')
 | [],l',_=>by
   constructor
   .intro h;cases h;exact VRL.nil
   .intro h;cases h;exact VRL.nil
 | v :: l,l',c=>by
   simp only[zU,zB]at c;constructor
   .intro h;cases h with
    |cons d e=>exact VRL.cons ((vr2 a c.1).1 d) ((vrl2 a c.2).1 e)
   .intro h;cases h with
    |cons d e=>exact VRL.cons ((vr2 a c.1).2 d) ((vrl2 a c.2).2 e)
theorem vrV(c:∀b,φ b=φ2 (ρ b)){v v':Value}(d:ycfh v=true)(h:VR φ v v'):VR φ2 (renV ρ v) v':=by
 unfold ycfh at d;split at d
 .rename_i a
  obtain⟨a⟩:=a;show VR φ2 (.tuple (a.map (ren2 ρ)).toArray) v';cases h with
  |simple q=>cases q
  |tuple h=>exact VR.tuple ((vrl2 c d).1 h)
 .rename_i e
  have f:renV ρ v=ren2 ρ v:=by
   unfold renV;split
   .rename_i a;exact absurd rfl (e a)
   .rfl
  rw[f];exact(vr2 c d).1 h
theorem yzn{n:Type}{g:n->Nat}:∀{l:List n},yho (l.map g)=true->∀a∈l,∀b∈l,g a=g b->a=b
 |[],_,a,i,_,_,_=>by cases i
 | x :: l,h,a,i,b,k,e=>by
   have h:(!(l.map g).elem (g x)&&yho (l.map g))=true:=h;simp only[zB,Bool.not_eq_true']at h
   have m:∀y∈l,g y≠g x:=fun y o q=>by
    have:(l.map g).elem (g x)=true:=List.elem_eq_true_of_mem (List.mem_map.2 ⟨y,o,q⟩);rw[this]at h;cases h.1
   rcases List.mem_cons.1 i with j|d
   .rcases List.mem_cons.1 k with f|c
    .rw[j,f]
    .exact absurd (by rw[<-e,j]) (m b c)
   .rcases List.mem_cons.1 k with f|c
    .exact absurd (by rw[e,f]) (m a d)
    .exact yzn h.2 a d b c e
theorem ybph:∀(l:List BlkL) (k:List Nat) (d i:Nat),ybbu l k d i=d\/∃b∈l,b.i=i
 |[],_,_,_=>.inl rfl
 |_::_,[],_,_=>.inl rfl
 | b :: l,t::k,d,i=>by
   unfold ybbu;rw[zI];split
   .rename_i h;exact .inr ⟨b,List.mem_cons_self,zQ h⟩
   .rcases ybph l k d i with h|⟨c,a,e⟩
    .exact .inl h
    .exact .inr ⟨c,List.mem_cons_of_mem _ a,e⟩
end
theorem ybg{P:Program}{f:Fact}{tgt:List Nat}{n0:Nat}(f3:ybp P f)(hc:f.moves tgt n0=true):ybp P (f.move tgt n0):=by
 obtain⟨m',hs,e1,e2,e3⟩:=f3;unfold Fact.moves at hc;simp only[zB]at hc;obtain⟨⟨⟨⟨⟨⟨⟨⟨c1,c2⟩,c3⟩,c4⟩,c5⟩,c6⟩,c7⟩,c8⟩,c9⟩:=hc;have c1:=zC c1;have c9:=zC c9;obtain⟨ρ,d0⟩:∃ρ,f.rho tgt n0=ρ:=⟨_,rfl⟩;obtain⟨o,d8⟩:∃o,n0+(f.next1-f.next0)=o:=⟨_,rfl⟩
 have f1:f.move tgt n0=⟨f.g,f.args.map (ren2 ρ),n0,f.pre.map (BlkL.ren ρ),renV ρ f.v,o,f.post.map (BlkL.ren ρ),n0⟩:=by
  unfold Fact.move;rw[d0,<-d8];rfl
 rw[f1]at c6 c7 c8 ⊢;simp only at c6 c7 c8
 have K:∀b∈f.pre,b.i<f.next0/\b.l.all ynp=true:=fun b a=>by
  have:=List.all_eq_true.1 c4 b a;simp only[zB]at this;exact⟨zG (zJ _) (zC this.1),this.2⟩
 have W:∀b∈f.post,b.i<f.next1/\b.l.all ynp=true:=fun b a=>by
  have:=List.all_eq_true.1 c5 b a;simp only[zB]at this;exact⟨zG (zJ _) (zC this.1),this.2⟩
 have d5:∀b∈f.pre,∀c∈f.pre,ρ b.i=ρ c.i->b=c:=by
  rw[List.map_map]at c6;intro b a c hc he;exact yzn c6 b a c hc (by show(b.ren ρ).i=(c.ren ρ).i;rw[b.ygb,c.ygb];exact he)
 have b2:∀b∈f.pre,ρ b.i<n0/\blkIs (Fact.mem ⟨f.g,f.args.map (ren2 ρ),n0,f.pre.map (BlkL.ren ρ),renV ρ f.v,o,f.post.map (BlkL.ren ρ),n0⟩) (b.ren ρ)=true:=fun b a=>by
  have:=List.all_eq_true.1 c7 (b.ren ρ) (List.mem_map.2 ⟨b,a,rfl⟩);simp only[zB]at this;have L:=zG (zJ _) (zC this.1);rw[b.ygb]at L;exact⟨L,this.2⟩
 have G:∀i,f.next0<=i->i<f.next1->ρ i=i-f.next0+n0:=fun i L h2=>by
  rw[<-d0];unfold Fact.rho;rw[zI,if_pos (by simp only[zB];exact⟨zS L,zS h2⟩)]
  rfl
 have d9:∀i,¬(f.next0<=i/\i<f.next1)->ρ i=o\/ρ i<n0:=fun i F=>by
  have L:ρ i=ybbu f.pre tgt o i:=by
   rw[<-d0,<-d8];unfold Fact.rho;rw[zI,if_neg]
   .rfl
   .simp only[zB];exact fun q=>F ⟨zC q.1,zG (zJ _) (zC q.2)⟩
  rcases ybph f.pre tgt o i with h|⟨b,a,rfl⟩
  .exact .inl (L.trans h)
  .exact .inr (b2 b a).1
 have d7:n0<=o:=by omega
 let f2:Fact:=⟨f.g,f.args.map (ren2 ρ),n0,f.pre.map (BlkL.ren ρ),renV ρ f.v,o,f.post.map (BlkL.ren ρ),n0⟩
 have s:∀i x,f.mem.b.get i=some x->∃b∈f.pre,b.i=i/\x=b.blk:=fun i x d=>by
  rcases ykb d with h|h
  .exact h
  .cases h
 have b8:∀i x,f2.mem.b.get i=some x->∃b∈f.pre,ρ b.i=i/\x=(b.ren ρ).blk:=fun i x d=>by
  rcases ykb d with⟨b',N,L,h2⟩|h
  .obtain⟨b,a,rfl⟩:=List.mem_map.1 N;rw[b.ygb]at L;exact⟨b,a,L,h2⟩
  .cases h
 have a8:∀b∈f.post,f.next0<=b.i/\b.i<f.next1/\∃c,m'.b.get b.i=some (.cells c b.l.length b.e b.z)/\∀j v,j<b.l.length->(c.get j=some v↔b.l[j]?=some v):=fun b a=>by
  obtain⟨c,H,_,k2⟩:=ykh (e3 b a).2;exact⟨Nat.le_trans c1 (e3 b a).1,(W b a).1,c,H,k2⟩
 have B:∀i x,(blksT f2.mem.b f2.post).get i=some x->(∃b∈f.post,ρ b.i=i/\x=(b.ren ρ).blk)\/f2.mem.b.get i=some x:=fun i x d=>by
  rcases ykb d with⟨b',N,L,h2⟩|h
  .obtain⟨b,a,rfl⟩:=List.mem_map.1 N;rw[b.ygb]at L;exact .inl ⟨b,a,L,h2⟩
  .exact .inr h
 have a9:∀b∈f.post,n0<=ρ b.i/\ρ b.i<o:=fun b a=>by
  obtain⟨H,k2,_⟩:=a8 b a;rw[G b.i H k2];omega
 have e4:Wf f.mem:=fun i x d=>by
  obtain⟨b,a,rfl,rfl⟩:=s i x d;exact(K b a).1
 refine⟨f2.after,?_,rfl,zL _,fun b a=>?_⟩
 .intro hw;obtain⟨E,S⟩:=hs e4;refine⟨⟨d7,fun i x d=>?_,fun i x F Q d=>?_,fun i x d=>?_⟩,fun φ2 M2 w b6 hR b5 hv b1=>?_⟩
  .rcases B i x d with⟨b,a,rfl,rfl⟩|h
   .exact .inr (a9 b a)
   .exact .inl ⟨x,h⟩
  .rcases B i x d with⟨b,a,rfl,rfl⟩|h
   .exact absurd (a9 b a) Q
   .exact h
  .show i<o;rcases B i x d with⟨b,a,rfl,rfl⟩|h
   .exact(a9 b a).2
   .exact zG (hw i x h) d7
  .have b1:∀i,n0<=i->i<o->φ2 i=none:=b1
   let φ:Phi:=fun b=>φ2 (ρ b)
   let M:AM:=fun i=>f.mem.b.get i
   have e5:∀b,φ b=φ2 (ρ b):=fun _=>rfl
   have a0:∀b∈f.pre,∃c,M2 (ρ b.i)=some (.cells c b.l.length b.e b.z)/\∀j v,j<b.l.length->(c.get j=some v↔(b.l.map (ren2 ρ))[j]?=some v):=fun b a=>by
    obtain⟨c,H,_,k2⟩:=ykh (b2 b a).2;rw[b.ygb]at H;have el:(b.ren ρ).l.length=b.l.length:=zO ..;rw[el]at H k2;exact⟨c,b5 _ _ H,k2⟩
   have a6:∀{l:List Value}{j:Nat}{v:Value},l[j]?=some v->(l.map (ren2 ρ))[j]?=some (ren2 ρ v):=fun h=>by rw[zN,h];rfl
   have d2:Rel φ M w:=by
    refine⟨⟨fun i x d=>?_,fun i j x y li lj Z d hy O D=>?_⟩,fun z hz=>⟨(hR.gl z hz).1,fun⟨i,x,l,X,U,a3⟩=>(hR.gl z hz).2 (by
     obtain⟨b,a,rfl,rfl⟩:=s i x X;obtain⟨c,H,_⟩:=a0 b a;exact⟨_,_,l,H,U,a3⟩)⟩⟩
    .obtain⟨b,a,rfl,rfl⟩:=s i x d;obtain⟨c,H,k2⟩:=a0 b a;obtain⟨l,R,r2,r3,cs,qe,qf,q0,r4,r5,r6⟩:=hR.blk _ _ H;refine⟨l,R,r2,r3,cs,qe,qf,q0,r4,r5,fun j v m Y=>?_⟩;have e0:=ymb Y;obtain⟨v',s1,s2⟩:=r6 j _ m ((k2 j _ m).2 (a6 e0));exact⟨v',s1,(vr2 e5 (List.all_eq_true.1 (K b a).2 v (zH e0))).2 s2⟩
    .obtain⟨b,a,rfl,rfl⟩:=s i x d;obtain⟨c,hc,rfl,rfl⟩:=s j y hy;obtain⟨cb,H,_⟩:=a0 b a;obtain⟨cc,k2,_⟩:=a0 c hc;exact hR.inj _ _ _ _ li lj (fun q=>Z (by rw[d5 b a c hc q])) H k2 O D
   have d3:Sub f.mem M:=fun i x d=>d
   have e6:yhm φ f.mem.next m'.next:=fun i L h2=>by
    rw[e1]at h2;have L:f.next0<=i:=L;show φ2 (ρ i)=none;rw[G i L h2];exact b1 _ (by omega) (by omega)
   refine(S φ M w b6 d2 d3 ((vrl2 e5 c2).2 hv) e6).mono ?_;rintro e w' ⟨v',rfl,I,M',n,f4⟩;have a7:∀i,¬(f.next0<=i/\i<f.next1)->I i=φ i:=fun i F=>n.out i (by rw[e1];exact F)
   have V:∀i,¬(f.next0<=i/\i<f.next1)->(f.mem.b.get i=none\/i<f.next0)->M' i=M i:=fun i F hn =>
    n.frame i (by rw[e1];exact F) (hn.imp id fun q=>by omega)
   let T:Phi:=fun j=>if n0<=j/\j<o then I (j-n0+f.next0)else φ2 j
   let M3:AM:=fun j=>if n0<=j/\j<o then f2.after.b.get j else M2 j
   have t:∀b,I b=T (ρ b):=fun b=>by
    by_cases a:f.next0<=b/\b<f.next1
    .have hr:=G b a.1 a.2;have:n0<=ρ b/\ρ b<o:=by rw[hr];omega
     show I b=if n0<=ρ b/\ρ b<o then I (ρ b-n0+f.next0)else φ2 (ρ b)
     rw[if_pos this,hr];congr 1;omega
    .have:¬(n0<=ρ b/\ρ b<o):=by rcases d9 b a with h|h<;>omega
     show I b=if n0<=ρ b/\ρ b<o then I (ρ b-n0+f.next0)else φ2 (ρ b)
     rw[if_neg this,a7 b a]
   have b4:φ2.le T:=fun j l m=>by
    have:¬(n0<=j/\j<o):=fun q=>by rw[b1 j q.1 q.2]at m;cases m
    show(if n0<=j/\j<o then I (j-n0+f.next0)else φ2 j)=some l
    rw[if_neg this];exact m
   have r:∀j,¬(n0<=j/\j<o)->T j=φ2 j:=fun j m=>if_neg m;have A:∀j,¬(n0<=j/\j<o)->M3 j=M2 j:=fun j m=>if_neg m;have b3:∀j,n0<=j/\j<o->M3 j=f2.after.b.get j:=fun j m=>if_pos m
   have J:∀j x,n0<=j/\j<o->M3 j=some x->∃b∈f.post,ρ b.i=j/\x=(b.ren ρ).blk:=fun j x m d=>by
    rw[b3 j m]at d;rcases B j x d with h|h
    .exact h
    .obtain⟨b,a,rfl,_⟩:=b8 j x h;have:=(b2 b a).1;omega
   have C:∀b∈f.post,∃l c,I b.i=some l/\M' b.i=some (.cells c b.l.length b.e b.z)/\BR T l w' (b.ren ρ).blk/\¬l.blk<w.heap.size:=fun b a=>by
    obtain⟨H,k2,c,k3,k4⟩:=a8 b a;have hM:=n.sub _ _ k3;obtain⟨l,R,r2,r3,cs,qe,qf,q0,r4,r5,r6⟩:=n.rel.blk _ _ hM;have el:(b.ren ρ).l.length=b.l.length:=zO ..;refine⟨l,c,R,hM,⟨r2,by rw[el];exact r3,cs,qe,qf,q0,r4,r5,fun j v m Y=>?_⟩,fun f0=>?_⟩
    .rw[el]at m;have Y:=ymb Y;have a4:(b.l.map (ren2 ρ))[j]?=some v:=Y;rw[zN]at a4;cases hq:b.l[j]? with
     |none=>rw[hq]at a4;cases a4
     | some u =>
       rw[hq]at a4;cases a4
       obtain⟨v',s1,s2⟩:=r6 j u m ((k4 j u m).2 hq);exact⟨v',s1,(vr2 t (List.all_eq_true.1 (W b a).2 u (zH hq))).1 s2⟩
    .obtain⟨i,x,l',X,U,a3⟩:=n.wg.img l.blk f0 ⟨_,_,l,hM,R,rfl⟩;obtain⟨p,hp,rfl,rfl⟩:=s i x X;have c0:=(K p hp).1;have Q:¬(f.next0<=p.i/\p.i<f.next1):=fun q=>by omega
     have b7:=V p.i Q (.inr c0);exact n.rel.inj p.i b.i _ _ l' l (by omega) (b7.trans X) hM ((a7 p.i Q).trans U) R a3
   have b9:∀j x l,¬(n0<=j/\j<o)->M2 j=some x->φ2 j=some l->BR T l w' x:=fun j x l m d hl=>by
    obtain⟨l0,q1,q2⟩:=hR.blk j x d;rw[hl]at q1;cases q1
    by_cases d4:Img φ M l.blk
    .obtain⟨i,y,l',X,U,a3⟩:=d4;obtain⟨p,hp,rfl,rfl⟩:=s i y X;obtain⟨c,H,k2⟩:=a0 p hp
     have e8:j=ρ p.i:=by
      apply zV;intro Z;exact hR.inj _ _ _ _ l l' Z d H hl U a3.symm
     subst e8;rw[H]at d;cases d
     have d1:φ2 (ρ p.i)=some l':=U;rw[hl]at d1;cases d1
     have c0:=(K p hp).1;have Q:¬(f.next0<=p.i/\p.i<f.next1):=fun q=>by omega
     have b7:=(V p.i Q (.inr c0)).trans X;obtain⟨l2,R,r2,r3,cs,qe,qf,q0,r4,r5,r6⟩:=n.rel.blk _ _ b7;rw[a7 p.i Q,U]at R;cases R
     refine⟨r2,r3,cs,qe,qf,q0,r4,r5,fun j v d6 Y=>?_⟩;have Y:=(k2 j v d6).1 Y;rw[zN]at Y;cases hq:p.l[j]? with
     |none=>rw[hq]at Y;cases Y
     | some u =>
       rw[hq]at Y;cases Y
       have f5:p.l.length<1000000:=by
        obtain⟨_,_,e9,_⟩:=ykh (b2 p hp).2;have el:(p.ren ρ).l.length=p.l.length:=zO ..
        rwa [el]at e9
       obtain⟨v',s1,s2⟩:=r6 j u d6 (by rw[ycdp (by omega)];exact hq)
       exact⟨v',s1,(vr2 t (List.all_eq_true.1 (K p hp).2 u (zH hq))).1 s2⟩
    .exact(q2.keep (n.wg.keep _ q2.lt d4)).mono b4
   have a5:∀k,k<w.heap.size->Img T M3 k->Img φ2 M2 k:=fun k hk hq=>by
    obtain⟨i,x,l,X,U,rfl⟩:=hq
    by_cases F:n0<=i/\i<o
    .obtain⟨b,a,rfl,rfl⟩:=J i x F X;obtain⟨l',c,R,_,_,r4⟩:=C b a;rw[<-t,R]at U;cases U
     exact absurd hk r4
    .rw[A i F]at X;rw[r i F]at U;exact⟨i,x,l,X,U,rfl⟩
   refine⟨v',rfl,T,M3,⟨b4,r,⟨⟨fun j x d=>?_,fun i j x y li lj Z d hy O D=>?_⟩,fun z hz=>⟨(n.rel.gl z hz).1,fun q=>(hR.gl z hz).2 (a5 _ (Array.getElem?_eq_some_iff.1 (hR.gl z hz).1.choose_spec.choose_spec).1 q)⟩⟩,fun i x d=>?_,fun i F _=>A i F,⟨n.wg.os,n.wg.tape,n.wg.output,n.wg.size,fun k hk hn=>?_,fun k hk hq=>?_⟩⟩,vrV t c3 f4⟩
   .by_cases m:n0<=j/\j<o
    .obtain⟨b,a,rfl,rfl⟩:=J j x m d;obtain⟨l,c,R,_,r3,_⟩:=C b a;exact⟨l,by rw[<-t];exact R,r3⟩
    .rw[A j m]at d;obtain⟨l,q1,_⟩:=hR.blk j x d;exact⟨l,by rw[r j m];exact q1,b9 j x l m d q1⟩
   .by_cases F:n0<=i/\i<o
    .obtain⟨b,a,rfl,rfl⟩:=J i x F d;obtain⟨l,c,R,r2,_,r4⟩:=C b a;rw[<-t,R]at O;cases O
     by_cases m:n0<=j/\j<o
     .obtain⟨b',N,rfl,rfl⟩:=J j y m hy;obtain⟨l',c',s1,s2,_,_⟩:=C b' N;rw[<-t,s1]at D;cases D
      exact n.rel.inj _ _ _ _ _ _ (fun q=>Z (by rw[q])) r2 s2 R s1
     .rw[A j m]at hy;rw[r j m]at D;obtain⟨l',q1,q2⟩:=hR.blk j y hy;rw[D]at q1;cases q1
      exact fun q=>r4 (by rw[q];exact q2.lt)
    .rw[A i F]at d;rw[r i F]at O
     by_cases m:n0<=j/\j<o
     .obtain⟨b',N,rfl,rfl⟩:=J j y m hy;obtain⟨l',c',s1,s2,_,s4⟩:=C b' N;rw[<-t,s1]at D;cases D
      obtain⟨l0,q1,q2⟩:=hR.blk i x d;rw[O]at q1;cases q1
      exact fun q=>s4 (by rw[<-q];exact q2.lt)
     .rw[A j m]at hy;rw[r j m]at D;exact hR.inj i j x y li lj Z d hy O D
   .show M3 i=some x
    by_cases F:n0<=i/\i<o
    .rw[b3 i F];exact d
    .rw[A i F];rcases B i x d with⟨b,a,rfl,rfl⟩|h
     .exact absurd (a9 b a) F
     .exact b5 i x h
   .refine n.wg.keep k hk fun⟨i,x,l,X,U,a3⟩=>hn ?_;obtain⟨b,a,rfl,rfl⟩:=s i x X;obtain⟨c,H,_⟩:=a0 b a;exact⟨_,_,l,H,U,a3⟩
   .exact a5 k hk hq
 .obtain⟨b0,e7,rfl⟩:=List.mem_map.1 a;refine⟨?_,List.all_eq_true.1 c8 _ a⟩;show n0<=(b0.ren ρ).i;rw[b0.ygb];exact(a9 b0 e7).1
end Ev
end
section
namespace Ev
def sv(l:List Nat):Value:=.string (by8 l)
def ii(n:Int):Value:=.int .i64 n
def iiL:List Int->List Value
 |[]=>[]
 |n::l=>.int .i64 n::iiL l
def iiA(l:List Int):Array Value:=⟨iiL l⟩
def sc(a n:Nat):Value:=.slice (some ⟨a,0,none⟩) n CU
def nats:Nat->Nat->List Nat
 |0,_=>[]
 |k+1,x=>forceN (x%256) fun b=>forceN (x/256) fun y=>b::nats k y
def isLet(c:Nat):Bool:=(zK 97 c&&zK c 122)||(zK 65 c&&zK c 90)
def ychd(c:Nat):Bool:=zK 48 c&&zK c 57
def inWd(c:Nat):Bool:=isLet c||ychd c||zF c 95
def isBl(c:Nat):Bool:=zF c 32||zF c 10||zF c 9||zF c 13
def ydnz(a b:Nat):Bool:=(zF b 61&&(zF a 58||zF a 61||zF a 33||zF a 60||zF a 62))||(zF a b&&(zF a 46||zF a 38||zF a 124))||(zF a 45&&zF b 62)
def ycvo(p:Nat->Bool):List Nat->Nat
 |[]=>0
 |c::l=>bif p c then Nat.succ (ycvo p l)else 0
def tokN(c:Nat)(r:List Nat):Nat:=bif isLet c then ycvo inWd r else bif ychd c then ycvo ychd r else match r with
 |[]=>0
 |d::_=>bif ydnz c d then 1 else 0
def numN:Nat->List Nat->Nat->Nat
 |k+1,d::l,v=>numN k l (10*v+(d-48))
 |_,_,v=>v
def lexT:Nat->List Nat->Nat->List (Nat×Nat×Nat×Nat)
 | f + 1,c::r,a=>bif isBl c then forceN (a+1) fun b=>lexT f r b
     else forceN (tokN c r) fun n=>forceN (a+1+n) fun e=>forceN (bif ychd c then numN n r (c-48)else 0) fun v=>(bif isLet c then 1 else bif ychd c then 2 else 3,a,e,v)::lexT f (r.drop n) e
 |_,_,_=>[]
def atN(L:Nat):List (Nat×Nat×Nat×Nat)->Nat
 |[]=>L
 |x::_=>x.2.1
def lexF(b a:Nat)(t:ByteArray)(L:Nat):List (Nat×Nat×Nat×Nat)->Nat->List Fact
 |[],_=>[]
 | x::r,n=>forceN (n+bif zF x.1 3 then 4 else 3) fun m=>forceN (m+3) fun q =>
   ⟨a,[.string t,ii x.2.1],n,[],.tuple #[.agg #[ii x.1,ii x.2.1,ii x.2.2.1,ii x.2.2.2],ii 0],m,[],n⟩::⟨b,[.string t,ii x.2.2.1],q,[],ii (atN L r),q,[],q⟩::lexF b a t L r q
def lexA(a b:Nat)(t:ByteArray)(L:Nat)(k:List (Nat×Nat×Nat×Nat)):List Fact:=⟨a,[.string t,ii 0],2,[],ii (atN L k),2,[],2⟩::lexF a b t L k 2
def lg:List Fact->List Nat->List Fact
 |_,[]=>[]
 | L,g::a=>match L.drop g with
   |[]=>[]
   |x::r=>x::lg r a
def rowN:List (Nat×Nat×Nat×Nat)->List Value
 |[]=>[]
 |x::r=>ii x.1::ii x.2.1::ii x.2.2.1::ii x.2.2.2::rowN r
end Ev
end
section
namespace Ev
def Bqtl:List Nat:=nats 270 0xa3b2929642e71286e696d203d3d20642e71287473726966203d3a2070202c296e203a2031202b2029642e71286e696d203f206e203c2029642e71286e696d28203d3a2064203e2d20200a292929642e71286e696d203d3d20642e71287473726966203d212070207c7c20296e203a2031202b2029642e71286e696d203f206e203c2029642e71286e696d28203d2120642820262620746f6f7221203a776f6c20656c75720a3b656e6f6e203d3a2070202c30203d3a2064203e2d2029656e6f6e203d212070207c7c2030203d2120642820262620746f6f72203a706f7420656c75720a3b74726f70203a2070207261760a3b6e202e2e2030203a2064207261760a3b736662206d6172676f7270
def yjc:ByteArray:=by8 Bqtl
def Bqtk:List (Nat×Nat×Nat×Nat):=lexT 271 Bqtl 0
def Bqlx:List Fact:=lexA 186 187 yjc 270 Bqtk
def ybai:List Value:=rowN Bqtk
def ywz:List Value:=(iiL [41,0,19,0,10,0,42,0,36,0,5,0,43,0,37,0,24,0,12,0,6,0,33,0,24,0,12,0,1,1,6,0,36,0,5,1,23,0,35,0,12,0,24,0,12,0])
def Bqb0:BlkL:=⟨946,188,2,(iiL [41,0,10,0,42,0,36,0,5,0,1,0,36,0,5,1,4,0])⟩
def Bqb1:BlkL:=⟨958,188,2,(iiL [1,0])⟩
def Bqb2:BlkL:=⟨976,188,2,(iiL [4,0])⟩
def Bqb3:BlkL:=⟨983,132,2,[ii 0,.slice (some ⟨958,0,none⟩) 1 1,ii 1,.slice (some ⟨976,0,none⟩) 1 1]⟩
def Bqb4:BlkL:=⟨1333,188,2,(iiL [43,0,37,0,24,0,12,0,6,0,33,0,24,0,12,0,1,1,6,0])⟩
def Bqb5:BlkL:=⟨1405,188,2,(iiL [23,0,35,0,12,0,24,0,12,0])⟩
def Bqb6:BlkL:=⟨1412,132,2,[ii 0,sc 1333 10,ii 1,sc 1405 5]⟩
end Ev
end
section
namespace Ev
def ydms:List Fact:=lg Bqlx [1,3,5,7,5,3,5,3,1,3,3,3,3,9,7,5,1,3,1,3]
theorem ycpl:yc ydms:=yc.seq yc.nil (by kernel_rfl)
def ydnr:List Fact:=lg Bqlx [95,3,3,3,1,3,3,3,3,1,3,3,1,3,1,1,3,3,3,3]
theorem ycsd:yc ydnr:=yc.seq yc.nil (by kernel_rfl)
def ydlc:List Fact:=lg Bqlx [165,1,1,7,3,3,3,1,3,3,3,3,1,3,3,1,5,1,3,3]
theorem ycsr:yc ydlc:=yc.seq yc.nil (by kernel_rfl)
def ydof:List Fact:=lg Bqlx [239,3,3,1,1]
theorem ycqf:yc ydof:=yc.seq yc.nil (by kernel_rfl)
def ydnh:List Fact:=[⟨194,[.pointer (some ⟨827,0,none⟩)],870,[⟨826,160,4,ybai⟩,⟨827,107,0,[.string yjc,.slice (some ⟨826,64,none⟩) 110 CU,sc 865 2,sv [98,102,115],sc 867 2,.slice none 0 0,.slice none 0 0]⟩,⟨865,9,1,[sv [100],sv [112]]⟩,⟨867,69,6,[sv [100],ii 1,ii 0,ii 0,ii 1,ii 0,sv [112],ii 3,ii 0,ii 0,ii 0,ii 0]⟩],.tuple #[],988,[⟨827,107,0,[.string yjc,.slice (some ⟨826,152,none⟩) 88 CU,sc 865 2,sv [98,102,115],sc 867 2,sc 987 1,sc 874 1]⟩,⟨865,9,1,[sv [100],sv [112]]⟩,⟨867,69,6,[sv [100],ii 1,ii 0,ii 0,ii 1,ii 0,sv [112],ii 3,ii 0,ii 0,ii 0,ii 0]⟩,⟨874,9,1,[sv [116,111,112]]⟩,Bqb0,Bqb1,Bqb2,Bqb3,⟨987,88,3,[sv [116,111,112],sc 946 9,sc 983 2]⟩],827⟩]
theorem ycln:yc ydnh:=yc.seq yc.nil (by kernel_rfl)
end Ev
end
section
namespace Ev
def ydmn:List Fact:=[⟨264,[.pointer (some ⟨827,0,none⟩),ii 4],1024,[⟨826,160,4,ybai⟩,⟨827,107,0,[.string yjc,.slice (some ⟨826,188,none⟩) 79 CU,sc 865 2,sv [98,102,115],sc 867 2,sc 987 1,sc 994 2]⟩,⟨865,9,1,[sv [100],sv [112]]⟩,⟨867,69,6,[sv [100],ii 1,ii 0,ii 0,ii 1,ii 0,sv [112],ii 3,ii 0,ii 0,ii 0,ii 0]⟩,Bqb0,Bqb1,Bqb2,Bqb3,⟨987,88,3,[sv [116,111,112],sc 946 9,sc 983 2]⟩,⟨994,9,1,[sv [116,111,112],sv [108,111,119]]⟩],sc 1124 10,1129,[⟨827,107,0,[.string yjc,.slice (some ⟨826,272,none⟩) 58 CU,sc 865 2,sv [98,102,115],sc 867 2,sc 987 1,sc 994 2]⟩,⟨865,9,1,[sv [100],sv [112]]⟩,⟨867,69,6,[sv [100],ii 1,ii 0,ii 0,ii 1,ii 0,sv [112],ii 3,ii 0,ii 0,ii 0,ii 0]⟩,Bqb0,Bqb1,Bqb2,Bqb3,⟨987,88,3,[sv [116,111,112],sc 946 9,sc 983 2]⟩,⟨994,9,1,[sv [116,111,112],sv [108,111,119]]⟩,⟨1124,188,2,(iiL [43,0,37,0,24,0,12,0,6,0,33,0,24,0,12,0,1,1,6,0])⟩],827⟩]
theorem ycrv:yc ydmn:=yc.seq yc.nil (by kernel_rfl)
def ydmz:List Fact:=[⟨237,[.pointer (some ⟨827,0,none⟩)],1233,[⟨826,160,4,ybai⟩,⟨827,107,0,[.string yjc,.slice (some ⟨826,352,none⟩) 38 CU,sc 865 2,sv [98,102,115],sc 867 2,sc 987 1,sc 994 2]⟩,⟨865,9,1,[sv [100],sv [112]]⟩,⟨867,69,6,[sv [100],ii 1,ii 0,ii 0,ii 1,ii 0,sv [112],ii 3,ii 0,ii 0,ii 0,ii 0]⟩,Bqb0,Bqb1,Bqb2,Bqb3,⟨987,88,3,[sv [116,111,112],sc 946 9,sc 983 2]⟩,⟨994,9,1,[sv [116,111,112],sv [108,111,119]]⟩],sc 1333 10,1341,[⟨827,107,0,[.string yjc,.slice (some ⟨826,436,none⟩) 17 CU,sc 865 2,sv [98,102,115],sc 867 2,sc 987 1,sc 994 2]⟩,⟨865,9,1,[sv [100],sv [112]]⟩,⟨867,69,6,[sv [100],ii 1,ii 0,ii 0,ii 1,ii 0,sv [112],ii 3,ii 0,ii 0,ii 0,ii 0]⟩,Bqb0,Bqb1,Bqb2,Bqb3,⟨987,88,3,[sv [116,111,112],sc 946 9,sc 983 2]⟩,⟨994,9,1,[sv [116,111,112],sv [108,111,119]]⟩,Bqb4],827⟩]
theorem ycpj:yc ydmz:=yc.seq yc.nil (by kernel_rfl)
def ybza:Fact:=⟨199,[.agg #[sv [108,111,119],sc 1223 23,sc 1412 2],ii 2],1501,[⟨1223,188,2,ywz⟩,Bqb4,Bqb5,Bqb6],.bool true,1733,[],1501⟩
def ydgv:List Fact:=[ybza]
theorem ybes:yc ydgv:=yc.seq yc.nil (by kernel_rfl)
end Ev
end
section
namespace Ev
def ydbr:List Fact:=[⟨241,[sc 1223 23,.slice (some ⟨1734,0,none⟩) 2 2,.bool false],1856,[⟨1223,188,2,ywz⟩,⟨1734,3,1,(iiL [1,3])⟩],.tuple (iiA [2,0]),2087,[],1856⟩]
theorem ycei:yc ydbr:=yc.seq yc.nil (by kernel_rfl)
end Ev
end
section
namespace Ev
def ydoo:List Fact:=[⟨103,[.string yjc],2,[],.tuple #[sc 826 126,ii 0,ii 0],827,[⟨826,160,4,ybai⟩],2⟩]
theorem ycky:yc ydoo:=yc.one (yu.cons (n:=300) ycpl (yu.cons (n:=523) ycsd (yu.cons (n:=767) ycsr (yu.cons (n:=820) ycqf yu.nil)))) (by kernel_rfl)
def ydne:List Fact:=[⟨264,[.pointer (some ⟨827,0,none⟩),ii 1],997,[⟨826,160,4,ybai⟩,⟨827,107,0,[.string yjc,.slice (some ⟨826,164,none⟩) 85 CU,sc 865 2,sv [98,102,115],sc 867 2,sc 987 1,sc 994 2]⟩,⟨865,9,1,[sv [100],sv [112]]⟩,⟨867,69,6,[sv [100],ii 1,ii 0,ii 0,ii 1,ii 0,sv [112],ii 3,ii 0,ii 0,ii 0,ii 0]⟩,Bqb0,Bqb1,Bqb2,Bqb3,⟨987,88,3,[sv [116,111,112],sc 946 9,sc 983 2]⟩,⟨994,9,1,[sv [116,111,112],sv [108,111,119]]⟩],sc 1223 23,1226,[⟨827,107,0,[.string yjc,.slice (some ⟨826,340,none⟩) 41 CU,sc 865 2,sv [98,102,115],sc 867 2,sc 987 1,sc 994 2]⟩,⟨865,9,1,[sv [100],sv [112]]⟩,⟨867,69,6,[sv [100],ii 1,ii 0,ii 0,ii 1,ii 0,sv [112],ii 3,ii 0,ii 0,ii 0,ii 0]⟩,Bqb0,Bqb1,Bqb2,Bqb3,⟨987,88,3,[sv [116,111,112],sc 946 9,sc 983 2]⟩,⟨994,9,1,[sv [116,111,112],sv [108,111,119]]⟩,⟨1223,188,2,ywz⟩],827⟩]
theorem ycml:yc ydne:=yc.seq ycrv (by kernel_rfl)
def yced:Fact:=⟨201,[.agg #[sv [108,111,119],sc 1223 23,sc 1412 2],.slice (some ⟨1734,0,none⟩) 2 2],1855,[⟨1223,188,2,ywz⟩,Bqb4,Bqb5,Bqb6,⟨1734,3,1,(iiL [1,3])⟩],.bool true,2241,[],1855⟩
def ydei:List Fact:=[yced]
theorem ybjf:yc ydei:=yc.seq ycei (by kernel_rfl)
end Ev
end
section
namespace Ev
def ydmf:List Fact:=[⟨105,[.pointer (some ⟨827,0,none⟩)],828,[⟨826,160,4,ybai⟩,⟨827,107,0,[.string yjc,sc 826 126,.slice none 0 0,sv [],.slice none 0 0,.slice none 0 0,.slice none 0 0]⟩],.tuple #[],1417,[⟨827,107,0,[.string yjc,.slice (some ⟨826,504,none⟩) 0 CU,sc 865 2,sv [98,102,115],sc 867 2,sc 1416 2,sc 994 2]⟩,⟨865,9,1,[sv [100],sv [112]]⟩,⟨867,69,6,[sv [100],ii 1,ii 0,ii 0,ii 1,ii 0,sv [112],ii 3,ii 0,ii 0,ii 0,ii 0]⟩,Bqb0,Bqb1,Bqb2,Bqb3,⟨994,9,1,[sv [116,111,112],sv [108,111,119]]⟩,⟨1223,188,2,ywz⟩,Bqb4,Bqb5,Bqb6,⟨1416,88,3,[sv [116,111,112],sc 946 9,sc 983 2,sv [108,111,119],sc 1223 23,sc 1412 2]⟩],827⟩]
theorem yckd:yc ydmf:=yc.seq (yc.append ycln (yc.append ycml ycpj)) (by kernel_rfl)
def Bqm0:Fact:=ybza.move [1223,1333,1405,1412] 2327
theorem ycyf:ybp zA Bqm0:=ybg (yc.at_ ybes 0 rfl) (by kernel_rfl)
def Bqm1:Fact:=yced.move [1223,1333,1405,1412,2560] 2681
theorem ycuu:ybp zA Bqm1:=ybg (yc.at_ ybjf 0 rfl) (by kernel_rfl)
def ybob:Fact:=⟨77,[.agg #[sv [98,102,115],sc 867 2,sc 1416 2]],2242,[⟨867,69,6,[sv [100],ii 1,ii 0,ii 0,ii 1,ii 0,sv [112],ii 3,ii 0,ii 0,ii 0,ii 0]⟩,Bqb0,Bqb1,Bqb2,Bqb3,⟨1223,188,2,ywz⟩,Bqb4,Bqb5,Bqb6,⟨1416,88,3,[sv [116,111,112],sc 946 9,sc 983 2,sv [108,111,119],sc 1223 23,sc 1412 2]⟩],.bool true,3067,[],2242⟩
def ydcm:List Fact:=[ybob]
theorem ybwp:yc ydcm:=yc.seq (yc.append (yc.cons (f:=Bqm0) ycyf yc.nil) (yc.cons (f:=Bqm1) ycuu yc.nil)) (by kernel_rfl)
end Ev
end
section
namespace Ev
def ysm:Fact:=⟨6,[.string yjc],0,[],.agg #[sv [98,102,115],sc 867 2,sc 1416 2],2242,[⟨867,69,6,[sv [100],ii 1,ii 0,ii 0,ii 1,ii 0,sv [112],ii 3,ii 0,ii 0,ii 0,ii 0]⟩,Bqb0,Bqb1,Bqb2,Bqb3,⟨1223,188,2,ywz⟩,Bqb4,Bqb5,Bqb6,⟨1416,88,3,[sv [116,111,112],sc 946 9,sc 983 2,sv [108,111,119],sc 1223 23,sc 1412 2]⟩],0⟩
def ydha:List Fact:=[ysm]
theorem ycgq:yc ydha:=yc.seq (yc.append ycky (yc.append yckd (yc.append ybes ybjf))) (by kernel_rfl)
end Ev
end
section
namespace Ev
end Ev
end
end Go.Proofs.YtlbonpgkofloeaaGreatDoor
