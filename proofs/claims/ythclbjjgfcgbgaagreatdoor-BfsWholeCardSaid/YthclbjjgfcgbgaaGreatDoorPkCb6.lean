/- Joined. -/
import Derived.Test.YthclbjjgfcgbgaaGreatDoorPkCb4
import Derived.Lib.Bytealg
set_option linter.unusedSimpArgs false
set_option linter.unusedVariables false
set_option maxRecDepth 1000000
open Go.Proofs.Tryz renaming prog->zA,func118->zU
open Bool renaming and_eq_true->zB,cond_eq_ite->zH,false_eq_true->zK
open Nat renaming le_of_ble_eq_true->zC,lt_of_lt_of_le->zF,lt_succ_self->zI,le_refl->zJ,eq_of_beq_eq_true->zN,ble_eq_true_of_le->zO,blt->zQ,ble->zW,add->zX,sub->zY,beq->zZ
open Go.Lib renaming indexByte->zD,hid->zV
open List renaming mem_of_getElem?->zG,getElem?_map->zL,length_map->zM,all_cons->zS
open Classical renaming byContradiction->zT
open Go
namespace Go.Proofs.YthclbjjgfcgbgaaGreatDoor
section
namespace Ev
open Go Go.RowKit
theorem ypl(c:UInt8):∀(l:List UInt8) (k:Nat),(match ypu c l k with|some i=>Int.ofNat i|none=>-1)=(if zD l c == -1 then -1 else zD l c+(k:Int))
 |[],k=>by simp[ypu,zD]
 | x :: l,k=>by
   unfold ypu zD
   by_cases b:x=c
   .subst b;simp
   .have e:zZ x.toNat c.toNat=false:=by
     rw[Bool.eq_false_iff];intro h;exact b (UInt8.toNat_inj.1 (zN h))
    have f:(x==c)=false:=by simpa using b
    rw[e,f];have g:=ypl c l (k+1);simp only[zH,zK,if_false];rw[g];have:=Lib.indexByte_ge l c
    by_cases d:zD l c = -1
    .simp[d]
    .have a:(zD l c == -1)=false:=by simpa using d
     rw[a];simp only[zK,if_false];rw[if_neg (by simp;omega)]
     push_cast;omega
theorem ybft(args:List Value)(m:Mem)(out:Out)(h:ykl m args=some out):ybx zA (.call 245 args m) out:=by
 unfold ykl at h;split at h
 .rename_i s c
  have d:=ypl c.toUInt8 s.data.toList 0
  have f:∀n:Int,n=zD s.data.toList c.toUInt8->ybx zA (.call 245 [.string s,.int .u8 (.ofNat c)] m) (.call (.int .i64 n) (ygg m)):=by
   intro n v z;refine⟨⟨zJ _,fun i b g=>.inl ⟨b,g⟩,fun i b _ _ g=>g,z⟩,fun l M w a u x y _=>.inr ⟨.int .i64 n,w,?_,?_⟩⟩
   .have e:a=[.string s,.int .u8 (.ofNat c)]:=by
     cases y with
     | cons p q =>
       cases q with
       | cons r t =>
         cases t
         rw[p.eq_simple rfl,r.eq_simple rfl]
    subst e;rw[run_callFunc_extern Tryz.func245 (by kernel_rfl) (by kernel_rfl) (by kernel_rfl) (by kernel_rfl),Lib.run_indexByteString,v]
    rfl
   .exact⟨_,rfl,l,M,⟨l.le_refl,fun _ _=>rfl,u,x,fun _ _ _=>rfl,WG.refl _ _ _⟩,.simple rfl⟩
  have o:(if zD s.data.toList c.toUInt8 == -1 then -1 else zD s.data.toList c.toUInt8+((0:Nat):Int))=zD s.data.toList c.toUInt8:=by
   by_cases k:zD s.data.toList c.toUInt8 = -1
   .simp[k]
   .simp[k]
  rw[o]at d;split at h
  .rename_i i j
   rw[j]at d;simp only[ybp]at h;cases h
   exact f _ d
  .rename_i j
   rw[j]at d;cases h
   exact f _ d
 .cases h
end Ev
end
section
open Go.RowKit
theorem ybcj(w:World):Calls zA 154 #[.nilIface] w fun e a=>e = .returned (.tuple #[.agg #[.int .i64 0,.int .i64 0],.bool false])/\Below w.heap.size w a:=by
 go_enter Tryz.func154,Tryz.ntmps154
 go_wp2
 refine⟨rfl,.tuple #[.agg #[.int .i64 0,.int .i64 0],.bool false],?_,rfl,?_⟩
 .simp[results,Tryz.results154,go_sem]
 .exact(Below.refl _ _).alloc (zJ _) _
theorem catch_idle(p q:Addr)(w:World) :
 CallsD zA 153 #[.pointer (some p),.pointer (some q)] .returning w fun e d f=>e = .returned (.tuple #[])/\d = .returning/\Below w.heap.size w f:=by
 refine callsD_of_wpS Tryz.func153 rfl fun a g c=>?_;apply wpS_seq;apply wpS_region;simp[wpOpsS,go_sem,recoverD,c,Tryz.ntmps153,Exit.thenS];refine(ybcj w).mono ?_;rintro e h ⟨rfl,b⟩;simp[go_sem];apply wpS_seq;apply wpS_region;simp[wpOpsS,go_sem,Exit.thenS];refine wpS_cond (t:=false) (by simp[Act.eval,Array.replicate]) ?_
 simp only[zK,if_false];refine wpS_of_wp (wp_skip ?_);refine⟨rfl,.returning,by cases a;simp_all,.tuple #[],by simp[results,Tryz.results153],rfl,rfl,b.alloc b.size _⟩
def ygi(w:World):World:=(w.alloc (.cells #[.int .i64 0] 3)).alloc (.cells #[.int .i64 0] 42)
theorem ycjc(w:World):(ygi w).heap[w.heap.size]?=some (.cells #[.int .i64 0] 3):=by
 unfold ygi;rw[Below.heap_alloc _ _ _ (by simp[go_sem])]
 exact heap_alloc_new w _
theorem ycjz(w:World):(ygi w).heap[w.heap.size+1]?=some (.cells #[.int .i64 0] 42):=by
 have:=heap_alloc_new (w.alloc (.cells #[.int .i64 0] 3)) (.cells #[.int .i64 0] 42);rw[show(w.alloc (.cells #[.int .i64 0] 3)).heap.size=w.heap.size+1 by simp[go_sem]]at this
 exact this
theorem ybmy (h:FuncId) (first cap:Array Value) (w:World) (Q:World->Prop)
 (t:∀a,Q a->a.heap[w.heap.size]?=(ygi w).heap[w.heap.size]?/\a.heap[w.heap.size+1]?=(ygi w).heap[w.heap.size+1]?)
 (i:((callFunc h (first++cap)).run zA (ygi w) = .ok (.enter h (first++cap)) (ygi w)/\Calls zA h (first++cap) (ygi w) fun e a=>(∃v,e = .returned v)/\Q a) \/
   (∃v a,(callFunc h (first++cap)).run zA (ygi w) = .ok (.value v) a/\Q a)) :
 Calls zA 118 #[.func (.func h) first cap] w fun e c=>e = .returned (.tuple #[.int .i64 0,.int .i64 0]) /\
  ∃a,Q a/\Below a.heap.size ((a.setCell ⟨w.heap.size,0,none⟩ (.int .i64 0)).setCell ⟨w.heap.size+1,0,none⟩ (.int .i64 0)) c:=by
 have n:∀(fn:Fn) (first cap:Array Value) (w:World),(Instr.makeFunc fn first cap).run zA w = .ok (.func fn first cap) w:=fun _ _ _ _=>rfl
 have Hq:=zV t;clear t
 have p:=zV i;clear i
 go_enter_defers zU,Tryz.ntmps118
 generalize x:(Code.seq (Code.region 2 _ false) _)=C
 generalize u:(bodyPostD _ _ _)=B
 go_wp2
 subst x u;refine wp_seq (wp_region_list ?_);refine wpList_plain rfl fun K s=>?_;simp[Oper.wp,go_sem];apply s;refine wpList_plain rfl fun q m=>?_;simp[Oper.wp,go_sem]
 have b:∀v a,Q a->q { tmps:=#[.func (.func h) first cap,undef,.pointer (some ⟨w.heap.size,0,none⟩),.pointer (some ⟨w.heap.size+1,0,none⟩),.func (.func 153) #[] #[.pointer (some ⟨w.heap.size,0,none⟩),.pointer (some ⟨w.heap.size+1,0,none⟩)],.func (.func h) first cap,v],defers:=[{ target:=.fn (.func 153) #[.pointer (some ⟨w.heap.size,0,none⟩),.pointer (some ⟨w.heap.size+1,0,none⟩)],args:=#[] }] } a:=by
  intro v a j;apply m;refine wpList_nil ?_;obtain⟨d,g⟩:=Hq.out a j;have d:a.heap[w.heap.size]?=some (.cells #[.int .i64 0] 3):=d.trans (ycjc w);have g:a.heap[w.heap.size+1]?=some (.cells #[.int .i64 0] 42):=g.trans (ycjz w);have c1:a.cell? ⟨w.heap.size,0,none⟩=some (.int .i64 0):=by simp[World.cell?,d]
  have c2:a.cell? ⟨w.heap.size+1,0,none⟩=some (.int .i64 0):=by simp[World.cell?,g]
  have D:a.frozen? ⟨w.heap.size,0,none⟩=false:=by simp[World.frozen?,d]
  have E:a.frozen? ⟨w.heap.size+1,0,none⟩=false:=by simp[World.frozen?,g]
  have y:=(Array.getElem?_eq_some_iff.1 d).1;have z:=(Array.getElem?_eq_some_iff.1 g).1;have HQ:=zV j;clear j
  clear d g
  simp only[Exit.then]
  go_wp2
  refine leaves_cons (f:=153) (args:=#[.pointer (some ⟨w.heap.size,0,none⟩),.pointer (some ⟨w.heap.size+1,0,none⟩)]) (by simp) (by simp[go_sem]) ?_
  refine(catch_idle ⟨w.heap.size,0,none⟩ ⟨w.heap.size+1,0,none⟩ _).mono ?_;rintro e A c ⟨rfl,rfl,l⟩;have o:((a.setCell ⟨w.heap.size,0,none⟩ (.int .i64 0)).setCell ⟨w.heap.size+1,0,none⟩ (.int .i64 0)).heap.size=a.heap.size:=by simp[go_sem]
  rw[o]at l
  have d1:c.cell? ⟨w.heap.size,0,none⟩=some (.int .i64 0):=by
   rw[l.cell y];simp[go_sem,c1]
  have d2:c.cell? ⟨w.heap.size+1,0,none⟩=some (.int .i64 0):=by
   rw[l.cell z];simp[go_sem,c2]
  simp[Leaves,settle,results,Tryz.results118,go_sem,d1,d2];exact⟨a,HQ.out,l⟩
 have k:=RowKit.Hid.out p
 clear p n Hq s
 revert b
 generalize q=K
 intro b;rw[show((w.alloc (Obj.cells #[Value.int IntKind.i64 0] 3)).alloc (Obj.cells #[Value.int IntKind.i64 0] 42))=ygi w from rfl]
 generalize Sem.run zA (callFunc h (first++cap)) (ygi w)=r at k ⊢
 rcases k with⟨rfl,i⟩|⟨v,a,rfl,i⟩
 .rw[Oper.upon_enter];refine i.mono ?_;rintro e a ⟨⟨v,rfl⟩,j⟩;exact b v a j
 .exact b v a i
end
section
namespace Ev
open Go Go.RowKit
theorem yxq(w:World)(k:Nat)(hk:k<w.heap.size):(ygi w).heap[k]?=w.heap[k]?:=by
 unfold ygi;rw[Below.heap_alloc _ _ _ (by simp[go_sem];omega),Below.heap_alloc _ _ _ hk]
theorem yfp(w:World):(ygi w).heap.size=w.heap.size+2:=by simp[ygi,go_sem]
theorem ycph(self:Task->Option Out)(s:yfg zA self)(args:List Value)(m:Mem)(out:Out)(h:ybcb self m args=some out):ybx zA (.call 118 args m) out:=by
 unfold ybcb at h;split at h
 .rename_i g first y
  obtain⟨o,ho,f⟩:=yc h;cases o with
  |code=>cases f
  | call v m1 =>
    cases f
    have hs:=s _ _ ho;intro hw;obtain⟨C,A⟩:=hs hw;refine⟨C,fun I M w K N D hv r=>.inl ⟨yby yua zU rfl _ _,?_⟩⟩;obtain⟨u,rfl,hu⟩:=ygo hv;obtain⟨G,H,rfl,P,Q⟩:=hu.func_inv;have O:Rel I M (ygi w):=N.keep fun k hk=>yxq w k hk
    have d:∀k,w.heap.size<=k->¬Img I M k:=by
     rintro k hk ⟨i,b,l,n,f,L⟩;obtain⟨l',V,Z⟩:=N.blk i b n;rw[f]at V;cases V
     have:=Z.lt;omega
    have j:=A I M (ygi w) (G++H) O D (P.append Q) r;rw[show(G++H).toArray=G.toArray++H.toArray by simp]at j
    refine(ybmy g G.toArray H.toArray w (fun p=>∃e,ydvx I M (ygi w) m v m1 e p) ?_ ?_).mono ?_
    .rintro p ⟨e,F,rfl,t,J,a,T⟩;exact⟨a.wg.keep _ (by rw[yfp];omega) (d _ (zJ _)),a.wg.keep _ (by rw[yfp];omega) (d _ (by omega))⟩
    .rcases j with⟨n,f⟩|⟨F,p,n,f⟩
     .refine .inl ⟨n,f.mono ?_⟩;intro e p hk;have R:=hk;obtain⟨F,rfl,_⟩:=hk;exact⟨⟨_,rfl⟩,_,R⟩
     .exact .inr ⟨F,p,n,_,f⟩
    .rintro e E ⟨rfl,p,⟨e,F,rfl,t,J,a,T⟩,B⟩;have a2:w.heap.size+2<=p.heap.size:=by rw[<-yfp];exact a.wg.size
     have c:∀k,k<p.heap.size->k≠w.heap.size->k≠w.heap.size+1->E.heap[k]?=p.heap[k]?:=fun k hk n f=>by
      rw[B.block k hk,Below.heap_setCell _ _ _ _ f,Below.heap_setCell _ _ _ _ n]
     have S:∀k,Img t J k->k≠w.heap.size/\k≠w.heap.size+1:=fun k z=>by
      refine⟨?_,?_⟩
      .rintro rfl;exact d _ (zJ _) (a.wg.img _ (by rw[yfp];omega) z)
      .rintro rfl;exact d _ (by omega) (a.wg.img _ (by rw[yfp];omega) z)
     have a0:p.heap.size<=E.heap.size:=by
      have:=B.size
      simpa[go_sem]using this
     refine⟨_,rfl,t,J,⟨a.le,a.out,⟨⟨fun i b n=>?_,a.rel.inj⟩,fun x U=>⟨?_,(a.rel.gl x U).2⟩⟩,a.sub,a.frame,⟨B.os.trans a.wg.os,B.tape.trans a.wg.tape,B.output.trans a.wg.output,by omega,fun k hk z=>?_,fun k hk z=>a.wg.img k (by rw[yfp];omega) z⟩⟩,?_⟩
     .obtain⟨l,f,L⟩:=a.rel.blk i b n;have W:=S l.blk ⟨i,b,l,n,f,rfl⟩;exact⟨l,f,L.keep (c _ L.lt W.1 W.2)⟩
     .obtain⟨e,X,q⟩:=(a.rel.gl x U).1;obtain⟨e0,Y,q0⟩:=(N.gl x U).1;have a1:=(Array.getElem?_eq_some_iff.1 q0).1;exact⟨e,X,(c _ (by omega) (by omega) (by omega)).trans q⟩
     .rw[c k (by omega) (by omega) (by omega),a.wg.keep k (by rw[yfp];omega) z,yxq w k hk]
     .exact .tuple (.cons (.simple rfl) (.cons (.simple rfl) .nil))
 .cases h
end Ev
end
section
namespace Ev
open Go Go.RowKit
def hkC(a:List Chunk):Hooks:=⟨some 118,some 245,some 175,symB,a,none⟩
def hk(a:List Fact):Hooks:=hkC [⟨1000000000000,a⟩]
def ybr(a:List Fact):Prop:=∀f∈a,yha zA f
def yee(a:List Chunk):Prop:=∀c∈a,ybr c.l
theorem ycrk{a:List Chunk}(h:yee a):HooksOk zA (hkC a) :=
 ⟨fun g h=>(by cases h;exact ycph),fun g h=>(by cases h;exact ybft),fun g h=>(by cases h;exact ycbi),h,fun g h=>(by cases h)⟩
theorem yee.nil:yee []:=fun c a=>by cases a
theorem yee.cons{n:Nat}{l:List Fact}{b:List Chunk}(h:ybr l)(t:yee b):yee (⟨n,l⟩::b):=fun c a=>by
 rcases List.mem_cons.1 a with rfl|a
 .exact h
 .exact t c a
theorem yecm{a:List Fact}(h:ybr a):HooksOk zA (hk a):=ycrk (yee.cons h yee.nil)
theorem ybr.nil:ybr []:=fun f a=>by cases a
theorem ybr.cons{f:Fact}{l:List Fact}(h:yha zA f)(t:ybr l):ybr (f::l):=fun x a=>by
 rcases List.mem_cons.1 a with rfl|a
 .exact h
 .exact t x a
theorem ybr.at_{f:Fact}{l:List Fact}(h:ybr l)(i:Nat)(e:l[i]?=some f):yha zA f:=h f (zG e)
theorem ybr.append{a b:List Fact}(c:ybr a)(d:ybr b):ybr (a++b):=fun f e=>by
 rcases List.mem_append.1 e with h|h
 .exact c f h
 .exact d f h
noncomputable def checkSeq(new:List Fact):List Fact->Bool:=List.rec (fun _=>true) (fun f _ b a=>f.check zA (hk a)&&b (f::a)) new
theorem ybr.seq:∀{new b:List Fact},ybr b->checkSeq new b=true->ybr new
 |[],_,_,_=>ybr.nil
 | f :: l,b,h,c=>by
   have c:(f.check zA (hk b)&&checkSeq l (f::b))=true:=c;rw[zB]at c;have e:yha zA f:=yth (yus mix yua (yecm h) 3000) c.1
   have d:ybr (f::b):=fun x a=>by
    rcases List.mem_cons.1 a with rfl|a
    .exact e
    .exact h x a
   have g:=ybr.seq d c.2;intro x a;rcases List.mem_cons.1 a with rfl|a
   .exact e
   .exact g x a
theorem ybr.one{f:Fact}{a:List Chunk}(h:yee a)(b:f.check zA (hkC a)=true):ybr [f] :=
 ybr.cons (yth (yus mix yua (ycrk h) 3000) b) ybr.nil
def by8(l:List Nat):ByteArray:=⟨(l.map Nat.toUInt8).toArray⟩
end Ev
end
section
namespace Ev
noncomputable section defs
def renA(ρ:Nat->Nat)(a:Addr):Addr:=yhf (ρ a.block) fun b=>⟨b,a.off,a.spot⟩
def ren1(ρ:Nat->Nat):Value->Value
 |.pointer (some a)=>.pointer (some (renA ρ a))
 |.slice (some a) n c=>.slice (some (renA ρ a)) n c
 |v=>v
def ren2(ρ:Nat->Nat):Value->Value
 |.agg a=>.agg (a.toList.map (ren1 ρ)).toArray
 |.func g a c=>.func g (a.toList.map (ren1 ρ)).toArray (c.toList.map (ren1 ρ)).toArray
 |v=>ren1 ρ v
def renV(ρ:Nat->Nat):Value->Value
 |.tuple a=>.tuple (a.toList.map (ren2 ρ)).toArray
 |v=>ren2 ρ v
def ytz:Value->Bool
 |.pointer (some a)=>a.spot.isNone
 |.slice (some a) _ _=>a.spot.isNone
 |v=>simple v
def ynu:Value->Bool
 |.agg a=>a.toList.all ytz
 |.func (.func _) a c=>a.toList.all ytz&&c.toList.all ytz
 |v=>ytz v
def ybxk:Value->Bool
 |.tuple a=>a.toList.all ynu
 |v=>ynu v
def ybck:List BlkL->List Nat->Nat->Nat->Nat
 |b::l,t::k,d,i=>bif zZ b.i i then t else ybck l k d i
 |_,_,d,_=>d
def Fact.rho(f:Fact)(tgt:List Nat)(n0:Nat)(i:Nat):Nat :=
 bif zW f.next0 i&&zQ i f.next1 then zX (zY i f.next0) n0 else ybck f.pre tgt (zX n0 (zY f.next1 f.next0)) i
def BlkL.ren(ρ:Nat->Nat)(b:BlkL):BlkL:=⟨yhf (ρ b.i) fun i=>i,b.e,b.z,b.l.map (ren2 ρ)⟩
def Fact.move(f:Fact)(tgt:List Nat)(n0:Nat):Fact :=
 ⟨f.g,f.args.map (ren2 (f.rho tgt n0)),n0,f.pre.map (BlkL.ren (f.rho tgt n0)),renV (f.rho tgt n0) f.v,zX n0 (zY f.next1 f.next0),f.post.map (BlkL.ren (f.rho tgt n0)),n0⟩
def Fact.after(f:Fact):Mem:=⟨f.next1,yil f.mem.b f.post,f.next0⟩
def yhx:List Nat->Bool
 |[]=>true
 |x::l=>!(l.elem x)&&yhx l
def Fact.moves(f:Fact)(tgt:List Nat)(n0:Nat):Bool :=
 zW f.next0 f.low&&f.args.all ynu&&ybxk f.v&&f.pre.all (fun b=>zQ b.i f.next0&&b.l.all ynu)&&f.post.all (fun b=>zQ b.i f.next1&&b.l.all ynu) &&
  yhx ((f.move tgt n0).pre.map (·.i))&&(f.move tgt n0).pre.all (fun b=>zQ b.i n0&&yvr (f.move tgt n0).mem b)&&(f.move tgt n0).post.all (yvr (f.move tgt n0).after)&&zW f.next0 f.next1
end defs
section
variable {φ φ2:Phi}{ρ:Nat->Nat}
theorem ylu(a:Addr):renA ρ a=⟨ρ a.block,a.off,a.spot⟩:=by unfold renA;rw[ybp]
theorem BlkL.yid(b:BlkL):(b.ren ρ).i=ρ b.i:=by show yhf (ρ b.i) (fun i=>i)=_;rw[ybp]
theorem vr1(d:∀b,φ b=φ2 (ρ b)){v v':Value}(e:ytz v=true):VR φ v v'↔VR φ2 (ren1 ρ v) v':=by
 unfold ytz at e;split at e
 .rename_i a
  obtain⟨b,o,s⟩:=a;have k:s=none:=by simpa using e
  subst k;show VR φ _ _↔VR φ2 (.pointer (some (renA ρ ⟨b,o,none⟩))) v';rw[ylu];constructor
  .intro h;cases h with
   |simple q=>cases q
   |ptr h=>rw[d]at h;exact VR.ptr h
  .intro h;cases h with
   |simple q=>cases q
   |ptr h=>rw[<-d]at h;exact VR.ptr h
 .rename_i a n c
  obtain⟨b,o,s⟩:=a;have k:s=none:=by simpa using e
  subst k;show VR φ _ _↔VR φ2 (.slice (some (renA ρ ⟨b,o,none⟩)) n c) v';rw[ylu];constructor
  .intro h;cases h with
   |simple q=>cases q
   |slice h f g i j=>rw[d]at h;exact VR.slice h f g i j
  .intro h;cases h with
   |simple q=>cases q
   |slice h f g i j=>rw[<-d]at h;exact VR.slice h f g i j
 .rename_i f g
  have l:ren1 ρ v=v:=by
   unfold ren1;split
   .rename_i a;exact absurd rfl (f a)
   .rename_i a n c;exact absurd rfl (g a n c)
   .rfl
  rw[l];constructor
  .intro h;rw[h.eq_simple e];exact VR.simple e
  .intro h;rw[h.eq_simple e];exact VR.simple e
theorem vrl1(a:∀b,φ b=φ2 (ρ b)):∀{l l':List Value},l.all ytz=true->(VRL φ l l'↔VRL φ2 (l.map (ren1 ρ)) l')
 | [],l',_=>by
   constructor
   .intro h;cases h;exact VRL.nil
   .intro h;cases h;exact VRL.nil
 | v :: l,l',c=>by
   simp only[zS,zB]at c;constructor
   .intro h;cases h with
    |cons d e=>exact VRL.cons ((vr1 a c.1).1 d) ((vrl1 a c.2).1 e)
   .intro h;cases h with
    |cons d e=>exact VRL.cons ((vr1 a c.1).2 d) ((vrl1 a c.2).2 e)
theorem vr2(d:∀b,φ b=φ2 (ρ b)){v v':Value}(e:ynu v=true):VR φ v v'↔VR φ2 (ren2 ρ v) v':=by
 unfold ynu at e;split at e
 .rename_i a
  obtain⟨a⟩:=a;show VR φ (.agg a.toArray) _↔VR φ2 (.agg (a.map (ren1 ρ)).toArray) v';constructor
  .intro h;cases h with
   |simple q=>cases q
   |agg h=>exact VR.agg ((vrl1 d e).1 h)
  .intro h;cases h with
   |simple q=>cases q
   |agg h=>exact VR.agg ((vrl1 d e).2 h)
 .rename_i g a c
  obtain⟨a⟩:=a;obtain⟨c⟩:=c;simp only[zB]at e;show VR φ (.func (.func g) a.toArray c.toArray) _↔VR φ2 (.func (.func g) (a.map (ren1 ρ)).toArray (c.map (ren1 ρ)).toArray) v';constructor
  .intro h;cases h with
   |simple q=>cases q
   |func h k=>exact VR.func ((vrl1 d e.1).1 h) ((vrl1 d e.2).1 k)
  .intro h;cases h with
   |simple q=>cases q
   |func h k=>exact VR.func ((vrl1 d e.1).2 h) ((vrl1 d e.2).2 k)
 .rename_i f j
  have i:ren2 ρ v=ren1 ρ v:=by
   unfold ren2;split
   .rename_i a;exact absurd rfl (f a)
   .rename_i g a c
    cases e
   .rfl
  rw[i];exact vr1 d e
theorem vrl2(a:∀b,φ b=φ2 (ρ b)):∀{l l':List Value},l.all ynu=true->(VRL φ l l'↔VRL φ2 (l.map (ren2 ρ)) l')
 | [],l',_=>by
   constructor
   .intro h;cases h;exact VRL.nil
   .intro h;cases h;exact VRL.nil
 | v :: l,l',c=>by
   simp only[zS,zB]at c;constructor
   .intro h;cases h with
    |cons d e=>exact VRL.cons ((vr2 a c.1).1 d) ((vrl2 a c.2).1 e)
   .intro h;cases h with
    |cons d e=>exact VRL.cons ((vr2 a c.1).2 d) ((vrl2 a c.2).2 e)
theorem vrV(c:∀b,φ b=φ2 (ρ b)){v v':Value}(d:ybxk v=true)(h:VR φ v v'):VR φ2 (renV ρ v) v':=by
 unfold ybxk at d;split at d
 .rename_i a
  obtain⟨a⟩:=a;show VR φ2 (.tuple (a.map (ren2 ρ)).toArray) v';cases h with
  |simple q=>cases q
  |tuple h=>exact VR.tuple ((vrl2 c d).1 h)
 .rename_i e
  have f:renV ρ v=ren2 ρ v:=by
   unfold renV;split
   .rename_i a;exact absurd rfl (e a)
   .rfl
  rw[f];exact(vr2 c d).1 h
theorem ybaq{n:Type}{g:n->Nat}:∀{l:List n},yhx (l.map g)=true->∀a∈l,∀b∈l,g a=g b->a=b
 |[],_,a,i,_,_,_=>by cases i
 | x :: l,h,a,i,b,k,e=>by
   have h:(!(l.map g).elem (g x)&&yhx (l.map g))=true:=h;simp only[zB,Bool.not_eq_true']at h
   have m:∀y∈l,g y≠g x:=fun y o q=>by
    have:(l.map g).elem (g x)=true:=List.elem_eq_true_of_mem (List.mem_map.2 ⟨y,o,q⟩);rw[this]at h;cases h.1
   rcases List.mem_cons.1 i with j|d
   .rcases List.mem_cons.1 k with f|c
    .rw[j,f]
    .exact absurd (by rw[<-e,j]) (m b c)
   .rcases List.mem_cons.1 k with f|c
    .exact absurd (by rw[e,f]) (m a d)
    .exact ybaq h.2 a d b c e
theorem ybqr:∀(l:List BlkL) (k:List Nat) (d i:Nat),ybck l k d i=d\/∃b∈l,b.i=i
 |[],_,_,_=>.inl rfl
 |_::_,[],_,_=>.inl rfl
 | b :: l,t::k,d,i=>by
   unfold ybck;rw[zH];split
   .rename_i h;exact .inr ⟨b,List.mem_cons_self,zN h⟩
   .rcases ybqr l k d i with h|⟨c,a,e⟩
    .exact .inl h
    .exact .inr ⟨c,List.mem_cons_of_mem _ a,e⟩
end
theorem yxx{P:Program}{f:Fact}{tgt:List Nat}{n0:Nat}(f3:yha P f)(hc:f.moves tgt n0=true):yha P (f.move tgt n0):=by
 obtain⟨m',hs,e1,e2,e3⟩:=f3;unfold Fact.moves at hc;simp only[zB]at hc;obtain⟨⟨⟨⟨⟨⟨⟨⟨c1,c2⟩,c3⟩,c4⟩,c5⟩,c6⟩,c7⟩,c8⟩,c9⟩:=hc;have c1:=zC c1;have c9:=zC c9;obtain⟨ρ,d0⟩:∃ρ,f.rho tgt n0=ρ:=⟨_,rfl⟩;obtain⟨o,d8⟩:∃o,n0+(f.next1-f.next0)=o:=⟨_,rfl⟩
 have f1:f.move tgt n0=⟨f.g,f.args.map (ren2 ρ),n0,f.pre.map (BlkL.ren ρ),renV ρ f.v,o,f.post.map (BlkL.ren ρ),n0⟩:=by
  unfold Fact.move;rw[d0,<-d8];rfl
 rw[f1]at c6 c7 c8 ⊢;simp only at c6 c7 c8
 have K:∀b∈f.pre,b.i<f.next0/\b.l.all ynu=true:=fun b a=>by
  have:=List.all_eq_true.1 c4 b a;simp only[zB]at this;exact⟨zF (zI _) (zC this.1),this.2⟩
 have W:∀b∈f.post,b.i<f.next1/\b.l.all ynu=true:=fun b a=>by
  have:=List.all_eq_true.1 c5 b a;simp only[zB]at this;exact⟨zF (zI _) (zC this.1),this.2⟩
 have d5:∀b∈f.pre,∀c∈f.pre,ρ b.i=ρ c.i->b=c:=by
  rw[List.map_map]at c6;intro b a c hc he;exact ybaq c6 b a c hc (by show(b.ren ρ).i=(c.ren ρ).i;rw[b.yid,c.yid];exact he)
 have b2:∀b∈f.pre,ρ b.i<n0/\yvr (Fact.mem ⟨f.g,f.args.map (ren2 ρ),n0,f.pre.map (BlkL.ren ρ),renV ρ f.v,o,f.post.map (BlkL.ren ρ),n0⟩) (b.ren ρ)=true:=fun b a=>by
  have:=List.all_eq_true.1 c7 (b.ren ρ) (List.mem_map.2 ⟨b,a,rfl⟩);simp only[zB]at this;have L:=zF (zI _) (zC this.1);rw[b.yid]at L;exact⟨L,this.2⟩
 have G:∀i,f.next0<=i->i<f.next1->ρ i=i-f.next0+n0:=fun i L h2=>by
  rw[<-d0];unfold Fact.rho;rw[zH,if_pos (by simp only[zB];exact⟨zO L,zO h2⟩)]
  rfl
 have d9:∀i,¬(f.next0<=i/\i<f.next1)->ρ i=o\/ρ i<n0:=fun i F=>by
  have L:ρ i=ybck f.pre tgt o i:=by
   rw[<-d0,<-d8];unfold Fact.rho;rw[zH,if_neg]
   .rfl
   .simp only[zB];exact fun q=>F ⟨zC q.1,zF (zI _) (zC q.2)⟩
  rcases ybqr f.pre tgt o i with h|⟨b,a,rfl⟩
  .exact .inl (L.trans h)
  .exact .inr (b2 b a).1
 have d7:n0<=o:=by omega
 let f2:Fact:=⟨f.g,f.args.map (ren2 ρ),n0,f.pre.map (BlkL.ren ρ),renV ρ f.v,o,f.post.map (BlkL.ren ρ),n0⟩
 have s:∀i x,f.mem.b.get i=some x->∃b∈f.pre,b.i=i/\x=b.blk:=fun i x d=>by
  rcases yjz d with h|h
  .exact h
  .cases h
 have b8:∀i x,f2.mem.b.get i=some x->∃b∈f.pre,ρ b.i=i/\x=(b.ren ρ).blk:=fun i x d=>by
  rcases yjz d with⟨b',N,L,h2⟩|h
  .obtain⟨b,a,rfl⟩:=List.mem_map.1 N;rw[b.yid]at L;exact⟨b,a,L,h2⟩
  .cases h
 have a8:∀b∈f.post,f.next0<=b.i/\b.i<f.next1/\∃c,m'.b.get b.i=some (.cells c b.l.length b.e b.z)/\∀j v,j<b.l.length->(c.get j=some v↔b.l[j]?=some v):=fun b a=>by
  obtain⟨c,H,_,k2⟩:=ykc (e3 b a).2;exact⟨Nat.le_trans c1 (e3 b a).1,(W b a).1,c,H,k2⟩
 have B:∀i x,(yil f2.mem.b f2.post).get i=some x->(∃b∈f.post,ρ b.i=i/\x=(b.ren ρ).blk)\/f2.mem.b.get i=some x:=fun i x d=>by
  rcases yjz d with⟨b',N,L,h2⟩|h
  .obtain⟨b,a,rfl⟩:=List.mem_map.1 N;rw[b.yid]at L;exact .inl ⟨b,a,L,h2⟩
  .exact .inr h
 have a9:∀b∈f.post,n0<=ρ b.i/\ρ b.i<o:=fun b a=>by
  obtain⟨H,k2,_⟩:=a8 b a;rw[G b.i H k2];omega
 have e4:Wf f.mem:=fun i x d=>by
  obtain⟨b,a,rfl,rfl⟩:=s i x d;exact(K b a).1
 refine⟨f2.after,?_,rfl,zJ _,fun b a=>?_⟩
 .intro hw;obtain⟨E,S⟩:=hs e4;refine⟨⟨d7,fun i x d=>?_,fun i x F Q d=>?_,fun i x d=>?_⟩,fun φ2 M2 w b6 hR b5 hv b1=>?_⟩
  .rcases B i x d with⟨b,a,rfl,rfl⟩|h
   .exact .inr (a9 b a)
   .exact .inl ⟨x,h⟩
  .rcases B i x d with⟨b,a,rfl,rfl⟩|h
   .exact absurd (a9 b a) Q
   .exact h
  .show i<o;rcases B i x d with⟨b,a,rfl,rfl⟩|h
   .exact(a9 b a).2
   .exact zF (hw i x h) d7
  .have b1:∀i,n0<=i->i<o->φ2 i=none:=b1
   let φ:Phi:=fun b=>φ2 (ρ b)
   let M:AM:=fun i=>f.mem.b.get i
   have e5:∀b,φ b=φ2 (ρ b):=fun _=>rfl
   have a0:∀b∈f.pre,∃c,M2 (ρ b.i)=some (.cells c b.l.length b.e b.z)/\∀j v,j<b.l.length->(c.get j=some v↔(b.l.map (ren2 ρ))[j]?=some v):=fun b a=>by
    obtain⟨c,H,_,k2⟩:=ykc (b2 b a).2;rw[b.yid]at H;have el:(b.ren ρ).l.length=b.l.length:=zM ..;rw[el]at H k2;exact⟨c,b5 _ _ H,k2⟩
   have a6:∀{l:List Value}{j:Nat}{v:Value},l[j]?=some v->(l.map (ren2 ρ))[j]?=some (ren2 ρ v):=fun h=>by rw[zL,h];rfl
   have d2:Rel φ M w:=by
    refine⟨⟨fun i x d=>?_,fun i j x y li lj Z d hy O D=>?_⟩,fun z hz=>⟨(hR.gl z hz).1,fun⟨i,x,l,X,U,a3⟩=>(hR.gl z hz).2 (by
     obtain⟨b,a,rfl,rfl⟩:=s i x X;obtain⟨c,H,_⟩:=a0 b a;exact⟨_,_,l,H,U,a3⟩)⟩⟩
    .obtain⟨b,a,rfl,rfl⟩:=s i x d;obtain⟨c,H,k2⟩:=a0 b a;obtain⟨l,R,r2,r3,cs,qe,qf,q0,r4,r5,r6⟩:=hR.blk _ _ H;refine⟨l,R,r2,r3,cs,qe,qf,q0,r4,r5,fun j v m Y=>?_⟩;have e0:=ylv Y;obtain⟨v',s1,s2⟩:=r6 j _ m ((k2 j _ m).2 (a6 e0));exact⟨v',s1,(vr2 e5 (List.all_eq_true.1 (K b a).2 v (zG e0))).2 s2⟩
    .obtain⟨b,a,rfl,rfl⟩:=s i x d;obtain⟨c,hc,rfl,rfl⟩:=s j y hy;obtain⟨cb,H,_⟩:=a0 b a;obtain⟨cc,k2,_⟩:=a0 c hc;exact hR.inj _ _ _ _ li lj (fun q=>Z (by rw[d5 b a c hc q])) H k2 O D
   have d3:Sub f.mem M:=fun i x d=>d
   have e6:yhh φ f.mem.next m'.next:=fun i L h2=>by
    rw[e1]at h2;have L:f.next0<=i:=L;show φ2 (ρ i)=none;rw[G i L h2];exact b1 _ (by omega) (by omega)
   refine(S φ M w b6 d2 d3 ((vrl2 e5 c2).2 hv) e6).mono ?_;rintro e w' ⟨v',rfl,I,M',n,f4⟩;have a7:∀i,¬(f.next0<=i/\i<f.next1)->I i=φ i:=fun i F=>n.out i (by rw[e1];exact F)
   have V:∀i,¬(f.next0<=i/\i<f.next1)->(f.mem.b.get i=none\/i<f.next0)->M' i=M i:=fun i F hn =>
    n.frame i (by rw[e1];exact F) (hn.imp id fun q=>by omega)
   let T:Phi:=fun j=>if n0<=j/\j<o then I (j-n0+f.next0)else φ2 j
   let M3:AM:=fun j=>if n0<=j/\j<o then f2.after.b.get j else M2 j
   have t:∀b,I b=T (ρ b):=fun b=>by
    by_cases a:f.next0<=b/\b<f.next1
    .have hr:=G b a.1 a.2;have:n0<=ρ b/\ρ b<o:=by rw[hr];omega
     show I b=if n0<=ρ b/\ρ b<o then I (ρ b-n0+f.next0)else φ2 (ρ b)
     rw[if_pos this,hr];congr 1;omega
    .have:¬(n0<=ρ b/\ρ b<o):=by rcases d9 b a with h|h<;>omega
     show I b=if n0<=ρ b/\ρ b<o then I (ρ b-n0+f.next0)else φ2 (ρ b)
     rw[if_neg this,a7 b a]
   have b4:φ2.le T:=fun j l m=>by
    have:¬(n0<=j/\j<o):=fun q=>by rw[b1 j q.1 q.2]at m;cases m
    show(if n0<=j/\j<o then I (j-n0+f.next0)else φ2 j)=some l
    rw[if_neg this];exact m
   have r:∀j,¬(n0<=j/\j<o)->T j=φ2 j:=fun j m=>if_neg m;have A:∀j,¬(n0<=j/\j<o)->M3 j=M2 j:=fun j m=>if_neg m;have b3:∀j,n0<=j/\j<o->M3 j=f2.after.b.get j:=fun j m=>if_pos m
   have J:∀j x,n0<=j/\j<o->M3 j=some x->∃b∈f.post,ρ b.i=j/\x=(b.ren ρ).blk:=fun j x m d=>by
    rw[b3 j m]at d;rcases B j x d with h|h
    .exact h
    .obtain⟨b,a,rfl,_⟩:=b8 j x h;have:=(b2 b a).1;omega
   have C:∀b∈f.post,∃l c,I b.i=some l/\M' b.i=some (.cells c b.l.length b.e b.z)/\BR T l w' (b.ren ρ).blk/\¬l.blk<w.heap.size:=fun b a=>by
    obtain⟨H,k2,c,k3,k4⟩:=a8 b a;have hM:=n.sub _ _ k3;obtain⟨l,R,r2,r3,cs,qe,qf,q0,r4,r5,r6⟩:=n.rel.blk _ _ hM;have el:(b.ren ρ).l.length=b.l.length:=zM ..;refine⟨l,c,R,hM,⟨r2,by rw[el];exact r3,cs,qe,qf,q0,r4,r5,fun j v m Y=>?_⟩,fun f0=>?_⟩
    .rw[el]at m;have Y:=ylv Y;have a4:(b.l.map (ren2 ρ))[j]?=some v:=Y;rw[zL]at a4;cases hq:b.l[j]? with
     |none=>rw[hq]at a4;cases a4
     | some u =>
       rw[hq]at a4;cases a4
       obtain⟨v',s1,s2⟩:=r6 j u m ((k4 j u m).2 hq);exact⟨v',s1,(vr2 t (List.all_eq_true.1 (W b a).2 u (zG hq))).1 s2⟩
    .obtain⟨i,x,l',X,U,a3⟩:=n.wg.img l.blk f0 ⟨_,_,l,hM,R,rfl⟩;obtain⟨p,hp,rfl,rfl⟩:=s i x X;have c0:=(K p hp).1;have Q:¬(f.next0<=p.i/\p.i<f.next1):=fun q=>by omega
     have b7:=V p.i Q (.inr c0);exact n.rel.inj p.i b.i _ _ l' l (by omega) (b7.trans X) hM ((a7 p.i Q).trans U) R a3
   have b9:∀j x l,¬(n0<=j/\j<o)->M2 j=some x->φ2 j=some l->BR T l w' x:=fun j x l m d hl=>by
    obtain⟨l0,q1,q2⟩:=hR.blk j x d;rw[hl]at q1;cases q1
    by_cases d4:Img φ M l.blk
    .obtain⟨i,y,l',X,U,a3⟩:=d4;obtain⟨p,hp,rfl,rfl⟩:=s i y X;obtain⟨c,H,k2⟩:=a0 p hp
     have e8:j=ρ p.i:=by
      apply zT;intro Z;exact hR.inj _ _ _ _ l l' Z d H hl U a3.symm
     subst e8;rw[H]at d;cases d
     have d1:φ2 (ρ p.i)=some l':=U;rw[hl]at d1;cases d1
     have c0:=(K p hp).1;have Q:¬(f.next0<=p.i/\p.i<f.next1):=fun q=>by omega
     have b7:=(V p.i Q (.inr c0)).trans X;obtain⟨l2,R,r2,r3,cs,qe,qf,q0,r4,r5,r6⟩:=n.rel.blk _ _ b7;rw[a7 p.i Q,U]at R;cases R
     refine⟨r2,r3,cs,qe,qf,q0,r4,r5,fun j v d6 Y=>?_⟩;have Y:=(k2 j v d6).1 Y;rw[zL]at Y;cases hq:p.l[j]? with
     |none=>rw[hq]at Y;cases Y
     | some u =>
       rw[hq]at Y;cases Y
       have f5:p.l.length<1000000:=by
        obtain⟨_,_,e9,_⟩:=ykc (b2 p hp).2;have el:(p.ren ρ).l.length=p.l.length:=zM ..
        rwa [el]at e9
       obtain⟨v',s1,s2⟩:=r6 j u d6 (by rw[yccn (by omega)];exact hq)
       exact⟨v',s1,(vr2 t (List.all_eq_true.1 (K p hp).2 u (zG hq))).1 s2⟩
    .exact(q2.keep (n.wg.keep _ q2.lt d4)).mono b4
   have a5:∀k,k<w.heap.size->Img T M3 k->Img φ2 M2 k:=fun k hk hq=>by
    obtain⟨i,x,l,X,U,rfl⟩:=hq
    by_cases F:n0<=i/\i<o
    .obtain⟨b,a,rfl,rfl⟩:=J i x F X;obtain⟨l',c,R,_,_,r4⟩:=C b a;rw[<-t,R]at U;cases U
     exact absurd hk r4
    .rw[A i F]at X;rw[r i F]at U;exact⟨i,x,l,X,U,rfl⟩
   refine⟨v',rfl,T,M3,⟨b4,r,⟨⟨fun j x d=>?_,fun i j x y li lj Z d hy O D=>?_⟩,fun z hz=>⟨(n.rel.gl z hz).1,fun q=>(hR.gl z hz).2 (a5 _ (Array.getElem?_eq_some_iff.1 (hR.gl z hz).1.choose_spec.choose_spec).1 q)⟩⟩,fun i x d=>?_,fun i F _=>A i F,⟨n.wg.os,n.wg.tape,n.wg.output,n.wg.size,fun k hk hn=>?_,fun k hk hq=>?_⟩⟩,vrV t c3 f4⟩
   .by_cases m:n0<=j/\j<o
    .obtain⟨b,a,rfl,rfl⟩:=J j x m d;obtain⟨l,c,R,_,r3,_⟩:=C b a;exact⟨l,by rw[<-t];exact R,r3⟩
    .rw[A j m]at d;obtain⟨l,q1,_⟩:=hR.blk j x d;exact⟨l,by rw[r j m];exact q1,b9 j x l m d q1⟩
   .by_cases F:n0<=i/\i<o
    .obtain⟨b,a,rfl,rfl⟩:=J i x F d;obtain⟨l,c,R,r2,_,r4⟩:=C b a;rw[<-t,R]at O;cases O
     by_cases m:n0<=j/\j<o
     .obtain⟨b',N,rfl,rfl⟩:=J j y m hy;obtain⟨l',c',s1,s2,_,_⟩:=C b' N;rw[<-t,s1]at D;cases D
      exact n.rel.inj _ _ _ _ _ _ (fun q=>Z (by rw[q])) r2 s2 R s1
     .rw[A j m]at hy;rw[r j m]at D;obtain⟨l',q1,q2⟩:=hR.blk j y hy;rw[D]at q1;cases q1
      exact fun q=>r4 (by rw[q];exact q2.lt)
    .rw[A i F]at d;rw[r i F]at O
     by_cases m:n0<=j/\j<o
     .obtain⟨b',N,rfl,rfl⟩:=J j y m hy;obtain⟨l',c',s1,s2,_,s4⟩:=C b' N;rw[<-t,s1]at D;cases D
      obtain⟨l0,q1,q2⟩:=hR.blk i x d;rw[O]at q1;cases q1
      exact fun q=>s4 (by rw[<-q];exact q2.lt)
     .rw[A j m]at hy;rw[r j m]at D;exact hR.inj i j x y li lj Z d hy O D
   .show M3 i=some x
    by_cases F:n0<=i/\i<o
    .rw[b3 i F];exact d
    .rw[A i F];rcases B i x d with⟨b,a,rfl,rfl⟩|h
     .exact absurd (a9 b a) F
     .exact b5 i x h
   .refine n.wg.keep k hk fun⟨i,x,l,X,U,a3⟩=>hn ?_;obtain⟨b,a,rfl,rfl⟩:=s i x X;obtain⟨c,H,_⟩:=a0 b a;exact⟨_,_,l,H,U,a3⟩
   .exact a5 k hk hq
 .obtain⟨b0,e7,rfl⟩:=List.mem_map.1 a;refine⟨?_,List.all_eq_true.1 c8 _ a⟩;show n0<=(b0.ren ρ).i;rw[b0.yid];exact(a9 b0 e7).1
end Ev
end
section
namespace Ev
def Bqii(n:Int):Value:=.int .i64 n
def BqiL:List Int->List Value
 |[]=>[]
 |n::l=>.int .i64 n::BqiL l
def BqiA(l:List Int):Array Value:=⟨BqiL l⟩
def Bqnx(g:Nat)(t:ByteArray)(a:Int)(n:Nat)(l:List Int)(e:Int)(m:Nat):Fact:=⟨g,[.string t,.int .i64 a],n,[],.tuple #[.agg (BqiA l),.int .i64 e],m,[],n⟩
def ybg:ByteArray:=by8 [112,114,111,103,114,97,109,32,98,102,115,59,10,118,97,114,32,100,32,58,32,48,32,46,46,32,110,59,10,118,97,114,32,112,32,58,32,112,111,114,116,59,10,114,117,108,101,32,116,111,112,58,32,114,111,111,116,32,38,38,32,40,100,32,33,61,32,48,32,124,124,32,112,32,33,61,32,110,111,110,101,41,32,45,62,32,100,32,58,61,32,48,44,32,112,32,58,61,32,110,111,110,101,59,10,114,117,108,101,32,108,111,119,58,32,33,114,111,111,116,32,38,38,32,40,100,32,33,61,32,40,109,105,110,40,113,46,100,41,32,60,32,110,32,63,32,109,105,110,40,113,46,100,41,32,43,32,49,32,58,32,110,41,32,124,124,32,112,32,33,61,32,102,105,114,115,116,40,113,46,100,32,61,61,32,109,105,110,40,113,46,100,41,41,41,10,32,32,45,62,32,100,32,58,61,32,40,109,105,110,40,113,46,100,41,32,60,32,110,32,63,32,109,105,110,40,113,46,100,41,32,43,32,49,32,58,32,110,41,44,32,112,32,58,61,32,102,105,114,115,116,40,113,46,100,32,61,61,32,109,105,110,40,113,46,100,41,41,59,10]
def yzi:List Value:=(BqiL [1,0,7,0,1,8,11,0,3,11,12,0,1,13,16,0,1,17,18,0,3,19,20,0,2,21,22,0,3,23,25,0,1,26,27,0,3,27,28,0,1,29,32,0,1,33,34,0,3,35,36,0,1,37,41,0,3,41,42,0,1,43,47,0,1,48,51,0,3,51,52,0,1,53,57,0,3,58,60,0,3,61,62,0,1,62,63,0,3,64,66,0,2,67,68,0,3,69,71,0,1,72,73,0,3,74,76,0,1,77,81,0,3,81,82,0,3,83,85,0,1,86,87,0,3,88,90,0,2,91,92,0,3,92,93,0,1,94,95,0,3,96,98,0,1,99,103,0,3,103,104,0,1,105,109,0,1,110,113,0,3,113,114,0,3,115,116,0,1,116,120,0,3,121,123,0,3,124,125,0,1,125,126,0,3,127,129,0,3,130,131,0,1,131,134,0,3,134,135,0,1,135,136,0,3,136,137,0,1,137,138,0,3,138,139,0,3,140,141,0,1,142,143,0,3,144,145,0,1,146,149,0,3,149,150,0,1,150,151,0,3,151,152,0,1,152,153,0,3,153,154,0,3,155,156,0,2,157,158,1,3,159,160,0,1,161,162,0,3,162,163,0,3,164,166,0,1,167,168,0,3,169,171,0,1,172,177,0,3,177,178,0,1,178,179,0,3,179,180,0,1,180,181,0,3,182,184,0,1,185,188,0,3,188,189,0,1,189,190,0,3,190,191,0,1,191,192,0,3,192,193,0,3,193,194,0,3,194,195,0,3,198,200,0,1,201,202,0,3,203,205,0,3,206,207,0,1,207,210,0,3,210,211,0,1,211,212,0,3,212,213,0,1,213,214,0,3,214,215,0,3,216,217,0,1,218,219,0,3,220,221,0,1,222,225,0,3,225,226,0,1,226,227,0,3,227,228,0,1,228,229,0,3,229,230,0,3,231,232,0,2,233,234,1,3,235,236,0,1,237,238,0,3,238,239,0,3,239,240,0,1,241,242,0,3,243,245,0,1,246,251,0,3,251,252,0,1,252,253,0,3,253,254,0,1,254,255,0,3,256,258,0,1,259,262,0,3,262,263,0,1,263,264,0,3,264,265,0,1,265,266,0,3,266,267,0,3,267,268,0,3,268,269,0])
def yxw:List Value:=(BqiL [41,0,19,0,10,0,42,0,36,0,5,0,43,0,37,0,24,0,12,0,6,0,33,0,24,0,12,0,1,1,6,0,36,0,5,1,23,0,35,0,12,0,24,0,12,0])
def Bqb0:BlkL:=⟨946,251,2,(BqiL [41,0,10,0,42,0,36,0,5,0,1,0,36,0,5,1,4,0])⟩
def Bqb1:BlkL:=⟨958,251,2,(BqiL [1,0])⟩
def Bqb2:BlkL:=⟨976,251,2,(BqiL [4,0])⟩
def Bqb3:BlkL:=⟨983,203,2,[Bqii 0,.slice (some ⟨958,0,none⟩) 1 1,Bqii 1,.slice (some ⟨976,0,none⟩) 1 1]⟩
def Bqb4:BlkL:=⟨1333,251,2,(BqiL [43,0,37,0,24,0,12,0,6,0,33,0,24,0,12,0,1,1,6,0])⟩
def Bqb5:BlkL:=⟨1405,251,2,(BqiL [23,0,35,0,12,0,24,0,12,0])⟩
def Bqb6:BlkL:=⟨1412,203,2,[Bqii 0,.slice (some ⟨1333,0,none⟩) 10 CU,Bqii 1,.slice (some ⟨1405,0,none⟩) 5 CU]⟩
end Ev
end
section
namespace Ev
def yecb:List Fact:=[Bqnx 152 ybg 0 2 [1,0,7,0] 0 5,Bqnx 152 ybg 11 14 [3,11,12,0] 0 18,Bqnx 152 ybg 19 33 [3,19,20,0] 0 37,Bqnx 152 ybg 27 59 [3,27,28,0] 0 63,Bqnx 152 ybg 35 78 [3,35,36,0] 0 82,Bqnx 152 ybg 37 85 [1,37,41,0] 0 88,Bqnx 152 ybg 41 91 [3,41,42,0] 0 95,Bqnx 152 ybg 51 110 [3,51,52,0] 0 114,Bqnx 152 ybg 58 123 [3,58,60,0] 0 127,Bqnx 152 ybg 61 130 [3,61,62,0] 0 134,Bqnx 152 ybg 64 143 [3,64,66,0] 0 147,Bqnx 152 ybg 69 156 [3,69,71,0] 0 160,Bqnx 152 ybg 74 169 [3,74,76,0] 0 173,Bqnx 152 ybg 77 176 [1,77,81,0] 0 179,Bqnx 152 ybg 81 182 [3,81,82,0] 0 186,Bqnx 152 ybg 92 215 [3,92,93,0] 0 219,Bqnx 152 ybg 99 235 [1,99,103,0] 0 238,Bqnx 152 ybg 103 241 [3,103,104,0] 0 245,Bqnx 152 ybg 105 248 [1,105,109,0] 0 251,Bqnx 152 ybg 113 260 [3,113,114,0] 0 264]
theorem ycjk:ybr yecb:=ybr.seq ybr.nil (by kernel_rfl)
def yecg:List Fact:=[Bqnx 152 ybg 115 267 [3,115,116,0] 0 271,Bqnx 152 ybg 116 274 [1,116,120,0] 0 277,Bqnx 152 ybg 121 280 [3,121,123,0] 0 284,Bqnx 152 ybg 124 287 [3,124,125,0] 0 291,Bqnx 152 ybg 127 300 [3,127,129,0] 0 304,Bqnx 152 ybg 130 307 [3,130,131,0] 0 311,Bqnx 152 ybg 134 320 [3,134,135,0] 0 324,Bqnx 152 ybg 136 333 [3,136,137,0] 0 337,Bqnx 152 ybg 138 346 [3,138,139,0] 0 350,Bqnx 152 ybg 140 353 [3,140,141,0] 0 357,Bqnx 152 ybg 144 366 [3,144,145,0] 0 370,Bqnx 152 ybg 149 379 [3,149,150,0] 0 383,Bqnx 152 ybg 151 392 [3,151,152,0] 0 396,Bqnx 152 ybg 153 405 [3,153,154,0] 0 409,Bqnx 152 ybg 155 412 [3,155,156,0] 0 416,Bqnx 152 ybg 159 425 [3,159,160,0] 0 429,Bqnx 152 ybg 162 438 [3,162,163,0] 0 442,Bqnx 152 ybg 164 445 [3,164,166,0] 0 449,Bqnx 152 ybg 169 458 [3,169,171,0] 0 462,Bqnx 152 ybg 172 465 [1,172,177,0] 0 468]
theorem ycnu:ybr yecg:=ybr.seq ybr.nil (by kernel_rfl)
def yecy:List Fact:=[Bqnx 152 ybg 177 471 [3,177,178,0] 0 475,Bqnx 152 ybg 179 484 [3,179,180,0] 0 488,Bqnx 152 ybg 182 497 [3,182,184,0] 0 501,Bqnx 152 ybg 188 510 [3,188,189,0] 0 514,Bqnx 152 ybg 190 523 [3,190,191,0] 0 527,Bqnx 152 ybg 192 536 [3,192,193,0] 0 540,Bqnx 152 ybg 193 543 [3,193,194,0] 0 547,Bqnx 152 ybg 194 550 [3,194,195,0] 0 554,Bqnx 152 ybg 206 577 [3,206,207,0] 0 581,Bqnx 152 ybg 210 590 [3,210,211,0] 0 594,Bqnx 152 ybg 212 603 [3,212,213,0] 0 607,Bqnx 152 ybg 214 616 [3,214,215,0] 0 620,Bqnx 152 ybg 216 623 [3,216,217,0] 0 627,Bqnx 152 ybg 220 636 [3,220,221,0] 0 640,Bqnx 152 ybg 225 649 [3,225,226,0] 0 653,Bqnx 152 ybg 227 662 [3,227,228,0] 0 666,Bqnx 152 ybg 229 675 [3,229,230,0] 0 679,Bqnx 152 ybg 231 682 [3,231,232,0] 0 686,Bqnx 152 ybg 235 695 [3,235,236,0] 0 699,Bqnx 152 ybg 238 708 [3,238,239,0] 0 712]
theorem ycng:ybr yecy:=ybr.seq ybr.nil (by kernel_rfl)
def yedo:List Fact:=[Bqnx 152 ybg 239 715 [3,239,240,0] 0 719,Bqnx 152 ybg 246 735 [1,246,251,0] 0 738,Bqnx 152 ybg 251 741 [3,251,252,0] 0 745,Bqnx 152 ybg 253 754 [3,253,254,0] 0 758,Bqnx 152 ybg 256 767 [3,256,258,0] 0 771,Bqnx 152 ybg 262 780 [3,262,263,0] 0 784,Bqnx 152 ybg 264 793 [3,264,265,0] 0 797,Bqnx 152 ybg 266 806 [3,266,267,0] 0 810,Bqnx 152 ybg 267 813 [3,267,268,0] 0 817,Bqnx 152 ybg 268 820 [3,268,269,0] 0 824]
theorem ycme:ybr yedo:=ybr.seq ybr.nil (by kernel_rfl)
def yedh:List Fact:=[⟨159,[.pointer (some ⟨827,0,none⟩)],870,[⟨826,178,4,yzi⟩,⟨827,144,0,[.string ybg,.slice (some ⟨826,64,none⟩) 110 CU,.slice (some ⟨865,0,none⟩) 2 CU,.string (by8 [98,102,115]),.slice (some ⟨867,0,none⟩) 2 CU,.slice none 0 0,.slice none 0 0]⟩,⟨865,9,1,[.string (by8 [100]),.string (by8 [112])]⟩,⟨867,160,6,[.string (by8 [100]),Bqii 1,Bqii 0,Bqii 0,Bqii 1,Bqii 0,.string (by8 [112]),Bqii 3,Bqii 0,Bqii 0,Bqii 0,Bqii 0]⟩],.tuple #[],988,[⟨827,144,0,[.string ybg,.slice (some ⟨826,152,none⟩) 88 CU,.slice (some ⟨865,0,none⟩) 2 CU,.string (by8 [98,102,115]),.slice (some ⟨867,0,none⟩) 2 CU,.slice (some ⟨987,0,none⟩) 1 CU,.slice (some ⟨874,0,none⟩) 1 CU]⟩,⟨865,9,1,[.string (by8 [100]),.string (by8 [112])]⟩,⟨867,160,6,[.string (by8 [100]),Bqii 1,Bqii 0,Bqii 0,Bqii 1,Bqii 0,.string (by8 [112]),Bqii 3,Bqii 0,Bqii 0,Bqii 0,Bqii 0]⟩,⟨874,9,1,[.string (by8 [116,111,112])]⟩,Bqb0,Bqb1,Bqb2,Bqb3,⟨987,193,3,[.string (by8 [116,111,112]),.slice (some ⟨946,0,none⟩) 9 CU,.slice (some ⟨983,0,none⟩) 2 CU]⟩],827⟩]
theorem ycnx:ybr yedh:=ybr.seq ybr.nil (by kernel_rfl)
end Ev
end
section
namespace Ev
def yebv:List Fact:=[⟨212,[.pointer (some ⟨827,0,none⟩),Bqii 4],1024,[⟨826,178,4,yzi⟩,⟨827,144,0,[.string ybg,.slice (some ⟨826,188,none⟩) 79 CU,.slice (some ⟨865,0,none⟩) 2 CU,.string (by8 [98,102,115]),.slice (some ⟨867,0,none⟩) 2 CU,.slice (some ⟨987,0,none⟩) 1 CU,.slice (some ⟨994,0,none⟩) 2 CU]⟩,⟨865,9,1,[.string (by8 [100]),.string (by8 [112])]⟩,⟨867,160,6,[.string (by8 [100]),Bqii 1,Bqii 0,Bqii 0,Bqii 1,Bqii 0,.string (by8 [112]),Bqii 3,Bqii 0,Bqii 0,Bqii 0,Bqii 0]⟩,Bqb0,Bqb1,Bqb2,Bqb3,⟨987,193,3,[.string (by8 [116,111,112]),.slice (some ⟨946,0,none⟩) 9 CU,.slice (some ⟨983,0,none⟩) 2 CU]⟩,⟨994,9,1,[.string (by8 [116,111,112]),.string (by8 [108,111,119])]⟩],.slice (some ⟨1124,0,none⟩) 10 CU,1129,[⟨827,144,0,[.string ybg,.slice (some ⟨826,272,none⟩) 58 CU,.slice (some ⟨865,0,none⟩) 2 CU,.string (by8 [98,102,115]),.slice (some ⟨867,0,none⟩) 2 CU,.slice (some ⟨987,0,none⟩) 1 CU,.slice (some ⟨994,0,none⟩) 2 CU]⟩,⟨865,9,1,[.string (by8 [100]),.string (by8 [112])]⟩,⟨867,160,6,[.string (by8 [100]),Bqii 1,Bqii 0,Bqii 0,Bqii 1,Bqii 0,.string (by8 [112]),Bqii 3,Bqii 0,Bqii 0,Bqii 0,Bqii 0]⟩,Bqb0,Bqb1,Bqb2,Bqb3,⟨987,193,3,[.string (by8 [116,111,112]),.slice (some ⟨946,0,none⟩) 9 CU,.slice (some ⟨983,0,none⟩) 2 CU]⟩,⟨994,9,1,[.string (by8 [116,111,112]),.string (by8 [108,111,119])]⟩,⟨1124,251,2,(BqiL [43,0,37,0,24,0,12,0,6,0,33,0,24,0,12,0,1,1,6,0])⟩],827⟩]
theorem ycpl:ybr yebv:=ybr.seq ybr.nil (by kernel_rfl)
def yedz:List Fact:=[⟨198,[.pointer (some ⟨827,0,none⟩)],1233,[⟨826,178,4,yzi⟩,⟨827,144,0,[.string ybg,.slice (some ⟨826,352,none⟩) 38 CU,.slice (some ⟨865,0,none⟩) 2 CU,.string (by8 [98,102,115]),.slice (some ⟨867,0,none⟩) 2 CU,.slice (some ⟨987,0,none⟩) 1 CU,.slice (some ⟨994,0,none⟩) 2 CU]⟩,⟨865,9,1,[.string (by8 [100]),.string (by8 [112])]⟩,⟨867,160,6,[.string (by8 [100]),Bqii 1,Bqii 0,Bqii 0,Bqii 1,Bqii 0,.string (by8 [112]),Bqii 3,Bqii 0,Bqii 0,Bqii 0,Bqii 0]⟩,Bqb0,Bqb1,Bqb2,Bqb3,⟨987,193,3,[.string (by8 [116,111,112]),.slice (some ⟨946,0,none⟩) 9 CU,.slice (some ⟨983,0,none⟩) 2 CU]⟩,⟨994,9,1,[.string (by8 [116,111,112]),.string (by8 [108,111,119])]⟩],.slice (some ⟨1333,0,none⟩) 10 CU,1341,[⟨827,144,0,[.string ybg,.slice (some ⟨826,436,none⟩) 17 CU,.slice (some ⟨865,0,none⟩) 2 CU,.string (by8 [98,102,115]),.slice (some ⟨867,0,none⟩) 2 CU,.slice (some ⟨987,0,none⟩) 1 CU,.slice (some ⟨994,0,none⟩) 2 CU]⟩,⟨865,9,1,[.string (by8 [100]),.string (by8 [112])]⟩,⟨867,160,6,[.string (by8 [100]),Bqii 1,Bqii 0,Bqii 0,Bqii 1,Bqii 0,.string (by8 [112]),Bqii 3,Bqii 0,Bqii 0,Bqii 0,Bqii 0]⟩,Bqb0,Bqb1,Bqb2,Bqb3,⟨987,193,3,[.string (by8 [116,111,112]),.slice (some ⟨946,0,none⟩) 9 CU,.slice (some ⟨983,0,none⟩) 2 CU]⟩,⟨994,9,1,[.string (by8 [116,111,112]),.string (by8 [108,111,119])]⟩,Bqb4],827⟩]
theorem yckk:ybr yedz:=ybr.seq ybr.nil (by kernel_rfl)
def ycdj:Fact:=⟨164,[.agg #[.string (by8 [108,111,119]),.slice (some ⟨1223,0,none⟩) 23 CU,.slice (some ⟨1412,0,none⟩) 2 CU],Bqii 2],1501,[⟨1223,251,2,yxw⟩,Bqb4,Bqb5,Bqb6],.bool true,1733,[],1501⟩
def yeax:List Fact:=[ycdj]
theorem ybgg:ybr yeax:=ybr.seq ybr.nil (by kernel_rfl)
end Ev
end
section
namespace Ev
def ydnd:List Fact:=[⟨203,[.slice (some ⟨1223,0,none⟩) 23 CU,.slice (some ⟨1734,0,none⟩) 2 2,.bool false],1856,[⟨1223,251,2,yxw⟩,⟨1734,3,1,(BqiL [1,3])⟩],.tuple (BqiA [2,0]),2087,[],1856⟩]
theorem ycbu:ybr ydnd:=ybr.seq ybr.nil (by kernel_rfl)
end Ev
end
section
namespace Ev
def yecx:List Fact:=[⟨117,[.string ybg],2,[],.tuple #[.slice (some ⟨826,0,none⟩) 126 CU,Bqii 0,Bqii 0],827,[⟨826,178,4,yzi⟩],2⟩]
theorem ycow:ybr yecx:=ybr.one (yee.cons (n:=260) ycjk (yee.cons (n:=465) ycnu (yee.cons (n:=708) ycng (yee.cons (n:=820) ycme yee.nil)))) (by kernel_rfl)
def yeck:List Fact:=[⟨212,[.pointer (some ⟨827,0,none⟩),Bqii 1],997,[⟨826,178,4,yzi⟩,⟨827,144,0,[.string ybg,.slice (some ⟨826,164,none⟩) 85 CU,.slice (some ⟨865,0,none⟩) 2 CU,.string (by8 [98,102,115]),.slice (some ⟨867,0,none⟩) 2 CU,.slice (some ⟨987,0,none⟩) 1 CU,.slice (some ⟨994,0,none⟩) 2 CU]⟩,⟨865,9,1,[.string (by8 [100]),.string (by8 [112])]⟩,⟨867,160,6,[.string (by8 [100]),Bqii 1,Bqii 0,Bqii 0,Bqii 1,Bqii 0,.string (by8 [112]),Bqii 3,Bqii 0,Bqii 0,Bqii 0,Bqii 0]⟩,Bqb0,Bqb1,Bqb2,Bqb3,⟨987,193,3,[.string (by8 [116,111,112]),.slice (some ⟨946,0,none⟩) 9 CU,.slice (some ⟨983,0,none⟩) 2 CU]⟩,⟨994,9,1,[.string (by8 [116,111,112]),.string (by8 [108,111,119])]⟩],.slice (some ⟨1223,0,none⟩) 23 CU,1226,[⟨827,144,0,[.string ybg,.slice (some ⟨826,340,none⟩) 41 CU,.slice (some ⟨865,0,none⟩) 2 CU,.string (by8 [98,102,115]),.slice (some ⟨867,0,none⟩) 2 CU,.slice (some ⟨987,0,none⟩) 1 CU,.slice (some ⟨994,0,none⟩) 2 CU]⟩,⟨865,9,1,[.string (by8 [100]),.string (by8 [112])]⟩,⟨867,160,6,[.string (by8 [100]),Bqii 1,Bqii 0,Bqii 0,Bqii 1,Bqii 0,.string (by8 [112]),Bqii 3,Bqii 0,Bqii 0,Bqii 0,Bqii 0]⟩,Bqb0,Bqb1,Bqb2,Bqb3,⟨987,193,3,[.string (by8 [116,111,112]),.slice (some ⟨946,0,none⟩) 9 CU,.slice (some ⟨983,0,none⟩) 2 CU]⟩,⟨994,9,1,[.string (by8 [116,111,112]),.string (by8 [108,111,119])]⟩,⟨1223,251,2,yxw⟩],827⟩]
theorem ycnk:ybr yeck:=ybr.seq ycpl (by kernel_rfl)
def ybyt:Fact:=⟨166,[.agg #[.string (by8 [108,111,119]),.slice (some ⟨1223,0,none⟩) 23 CU,.slice (some ⟨1412,0,none⟩) 2 CU],.slice (some ⟨1734,0,none⟩) 2 2],1855,[⟨1223,251,2,yxw⟩,Bqb4,Bqb5,Bqb6,⟨1734,3,1,(BqiL [1,3])⟩],.bool true,2241,[],1855⟩
def ydqk:List Fact:=[ybyt]
theorem ybjq:ybr ydqk:=ybr.seq ycbu (by kernel_rfl)
end Ev
end
section
namespace Ev
def yedt:List Fact:=[⟨119,[.pointer (some ⟨827,0,none⟩)],828,[⟨826,178,4,yzi⟩,⟨827,144,0,[.string ybg,.slice (some ⟨826,0,none⟩) 126 CU,.slice none 0 0,.string (by8 []),.slice none 0 0,.slice none 0 0,.slice none 0 0]⟩],.tuple #[],1417,[⟨827,144,0,[.string ybg,.slice (some ⟨826,504,none⟩) 0 CU,.slice (some ⟨865,0,none⟩) 2 CU,.string (by8 [98,102,115]),.slice (some ⟨867,0,none⟩) 2 CU,.slice (some ⟨1416,0,none⟩) 2 CU,.slice (some ⟨994,0,none⟩) 2 CU]⟩,⟨865,9,1,[.string (by8 [100]),.string (by8 [112])]⟩,⟨867,160,6,[.string (by8 [100]),Bqii 1,Bqii 0,Bqii 0,Bqii 1,Bqii 0,.string (by8 [112]),Bqii 3,Bqii 0,Bqii 0,Bqii 0,Bqii 0]⟩,Bqb0,Bqb1,Bqb2,Bqb3,⟨994,9,1,[.string (by8 [116,111,112]),.string (by8 [108,111,119])]⟩,⟨1223,251,2,yxw⟩,Bqb4,Bqb5,Bqb6,⟨1416,193,3,[.string (by8 [116,111,112]),.slice (some ⟨946,0,none⟩) 9 CU,.slice (some ⟨983,0,none⟩) 2 CU,.string (by8 [108,111,119]),.slice (some ⟨1223,0,none⟩) 23 CU,.slice (some ⟨1412,0,none⟩) 2 CU]⟩],827⟩]
theorem ycos:ybr yedt:=ybr.seq (ybr.append ycnx (ybr.append ycnk yckk)) (by kernel_rfl)
def Bqm0:Fact:=ycdj.move [1223,1333,1405,1412] 2327
theorem ydkd:yha zA Bqm0:=yxx (ybr.at_ ybgg 0 rfl) (by kernel_rfl)
def Bqm1:Fact:=ybyt.move [1223,1333,1405,1412,2560] 2681
theorem ydkp:yha zA Bqm1:=yxx (ybr.at_ ybjq 0 rfl) (by kernel_rfl)
def ybma:Fact:=⟨130,[.agg #[.string (by8 [98,102,115]),.slice (some ⟨867,0,none⟩) 2 CU,.slice (some ⟨1416,0,none⟩) 2 CU]],2242,[⟨867,160,6,[.string (by8 [100]),Bqii 1,Bqii 0,Bqii 0,Bqii 1,Bqii 0,.string (by8 [112]),Bqii 3,Bqii 0,Bqii 0,Bqii 0,Bqii 0]⟩,Bqb0,Bqb1,Bqb2,Bqb3,⟨1223,251,2,yxw⟩,Bqb4,Bqb5,Bqb6,⟨1416,193,3,[.string (by8 [116,111,112]),.slice (some ⟨946,0,none⟩) 9 CU,.slice (some ⟨983,0,none⟩) 2 CU,.string (by8 [108,111,119]),.slice (some ⟨1223,0,none⟩) 23 CU,.slice (some ⟨1412,0,none⟩) 2 CU]⟩],.bool true,3067,[],2242⟩
def ydqq:List Fact:=[ybma]
theorem ycaa:ybr ydqq:=ybr.seq (ybr.append (ybr.cons (f:=Bqm0) ydkd ybr.nil) (ybr.cons (f:=Bqm1) ydkp ybr.nil)) (by kernel_rfl)
end Ev
end
section
namespace Ev
def yre:Fact:=⟨11,[.string ybg],0,[],.agg #[.string (by8 [98,102,115]),.slice (some ⟨867,0,none⟩) 2 CU,.slice (some ⟨1416,0,none⟩) 2 CU],2242,[⟨867,160,6,[.string (by8 [100]),Bqii 1,Bqii 0,Bqii 0,Bqii 1,Bqii 0,.string (by8 [112]),Bqii 3,Bqii 0,Bqii 0,Bqii 0,Bqii 0]⟩,Bqb0,Bqb1,Bqb2,Bqb3,⟨1223,251,2,yxw⟩,Bqb4,Bqb5,Bqb6,⟨1416,193,3,[.string (by8 [116,111,112]),.slice (some ⟨946,0,none⟩) 9 CU,.slice (some ⟨983,0,none⟩) 2 CU,.string (by8 [108,111,119]),.slice (some ⟨1223,0,none⟩) 23 CU,.slice (some ⟨1412,0,none⟩) 2 CU]⟩],0⟩
def ydqg:List Fact:=[yre]
theorem yccx:ybr ydqg:=ybr.seq (ybr.append ycow (ybr.append ycos (ybr.append ybgg ybjq))) (by kernel_rfl)
end Ev
end
section
namespace Ev
end Ev
end
end Go.Proofs.YthclbjjgfcgbgaaGreatDoor
